import Derived.Test.YtmngjhagbjgmfaaGreatMa
set_option linter.all false
open Bool renaming false->ai,false_eq_true->aE,true->ab
open Decidable renaming decide->al
open Int renaming eq_ofNat_of_zero_le->nu,toNat_natCast->iH
open List renaming filter_append->uK,filter_eq_self->FA,getElem?_range->Jt,length_take->oX,map_append->q7,mem_cons->cu,mem_cons_of_mem->eY,mem_cons_self->nY,mem_map->dE,mem_of_mem_take->uI,mem_range->eu,nil_append->oV,pairwise_cons->qY,range->bW,take_length->oU
open Nat renaming le_refl->bx,zero_le->kF
open Option renaming bind_some->aq,some->aa
open Option.some renaming inj->jP
open Sum renaming elim_inl->bw,elim_inr->bC
noncomputable section
namespace Go.Proofs.YtmngjhagbjgmfaaGreat
open Go Go.RowKit Dp
namespace Rx
def anf(a:Int):(a% 3600=if a.tmod 3600<0 then a.tmod 3600+3600 else a.tmod 3600)∧-3600<a.tmod 3600∧a.tmod 3600<3600:=by
 by_cases ha:0<=a
 ·rw[Int.tmod_eq_emod_of_nonneg ha,aL (by omega)];exact⟨rfl,by omega,by omega⟩
 ·have hn:a.tmod 3600= -((-a)% 3600):=by
   rw[<-Int.tmod_eq_emod_of_nonneg (show 0<= -a by omega),Int.neg_tmod,Int.neg_neg]
  rw[hn];refine⟨?_,by omega,by omega⟩;split<;>omega
def EC{p:ax}(h:dt p):rf p=aa (p.aG,p.aj,p.aX,p.aS):=by obtain⟨h1,h2,h3,h4⟩:=h;unfold Sm at*;unfold rf Gf Gg uY zJ;rw[cK (by simp;omega),cK (by simp;omega),cK (by simp;omega),cK (by simp;omega)];rfl
section
variable {b:aw} {p:ax}
def dif(a c:Int):Int:=if(c% 3600-a% 3600)% 3600>1800 then(c% 3600-a% 3600)% 3600-3600 else(c% 3600-a% 3600)% 3600
def agr(b:aw)(x y:bo):Prop:=((0<=x.aZ∧0<=y.aZ)∧x.aZ<=6000∧y.aZ<=6000)∧(x.aZ-y.aZ<=b.aZ∧y.aZ-x.aZ<=b.aZ)∧dif x.bi y.bi<=b.bi∧-dif x.bi y.bi<=b.bi
instance(b:aw)(x y:bo):Decidable (agr b x y):=by unfold agr;exact inferInstance
def SmR(x:bo):Prop:=(-100000000000000000<=x.aZ∧x.aZ<=100000000000000000)∧-100000000000000000<=x.bi∧x.bi<=100000000000000000
def wO(x y:bo):bo:={x with aZ:=y.aZ,bi:=y.bi}
def kM(S:List bo)(y:bo):List Int->List bo
 |[]=>S
 |k::l=>kM (S.set k.toNat (wO (gt S k.toNat) y)) y l
def Gs(y:bo):∀(l:List Int) (S:List bo),(kM S y l).length=S.length
 |[],_=>rfl
 |k::l,S=>by unfold kM;rw[Gs y l];simp
def RE(y:bo)(k:Int):∀(l:List Int) (S:List bo),kM S y (l++[k])=(kM S y l).set k.toNat (wO (gt (kM S y l) k.toNat) y)
 |[],_=>rfl
 |j::l,S=>by show kM _ y (l++[k])=_;rw[RE y k l];rfl
def aoy{l:List Int}{y:bo}(hl:Sm l)(h:∀k∈l,0<=k∧k<p.aj.length):FW p l y=aa (kM p.aj y l):=by
 have hr:=dQ (step:=FV l y) (λk=>((k:Int),kM p.aj y (l.take k))) l.length (r:=kM p.aj y l) (λk hk=>by
  obtain⟨k0,k1⟩:=h _ (dx hk);obtain⟨j,hj⟩:=nu k0;have hj:gt l k=(j:Int):=hj;have dj:j<(kM p.aj y (l.take k)).length:=by rw[Gs];omega
  have vD:j<((kM p.aj y (l.take k)).set j {gt (kM p.aj y (l.take k)) j with aZ:=y.aZ}).length:=by simpa using dj
  simp only[FV,bb hk,aI,aP hk,aq,Option.bind_fun_some,bw,bC,bS,hj,aP dj,jC dj,aP vD,jC vD,ba (eP hl hk),gH dj,lm hk,RE,iH,List.set_set];rfl) (by simp only[FV,bJ,aE,aD,oU])
 unfold FW;have TP:aJ (FV l y) ((0:Int),p.aj)=aa (kM p.aj y l):=hr;rw[TP];rfl
end
end Rx
namespace Rx
def RF(y:bo):∀(l:List Int) (S:List bo) (j:Nat),(∀k∈l,0<=k∧k<S.length)->gt (kM S y l) j=if(j:Int)∈l then wO (gt S j) y else gt S j
 |[],S,j,_=>by simp[kM]
 |k::l,S,j,h=>by
  obtain⟨k0,k1⟩:=h k nY;have ih:=RF y l (S.set k.toNat (wO (gt S k.toNat) y)) j (λq hq=>by rw[List.length_set];exact h q (eY _ hq));show gt (kM (S.set k.toNat (wO (gt S k.toNat) y)) y l) j=_;rw[ih,gH (by omega)];by_cases ma:j=k.toNat
  ·have e:(j:Int)=k:=by omega
   rw[aH ma,aH (show(j:Int)∈k::l by rw[e];exact nY)];by_cases hl:(j:Int)∈l
   ·rw[aH hl,<-ma];rfl
   ·rw[aL hl,<-ma]
  ·have e:(j:Int)≠k:=by omega
   rw[aL ma];by_cases hl:(j:Int)∈l
   ·rw[aH hl,aH (eY _ hl)]
   ·rw[aL hl,aL (λhh=>by rcases cu.1 hh with h|h;exact e h;exact hl h)]
section
variable {b:aw} {p:ax}
def lz(b:aw)(p:ax)(k:Nat):Nat:=(gt (eL b p (conn b p (k:Int)).1).aj 0).toNat
def ky(b:aw)(p:ax)(k:Nat):bo:=if(conn b p (k:Int)).2=ab then wO (gt p.aj k) (gt p.aj (lz b p k))else gt p.aj k
def lG(b:aw)(p:ax):List bo:=(bW p.aj.length).map (ky b p)
def rL(b:aw)(p:ax):ax:=⟨p.aG,lG b p,p.aX,p.aS⟩
def vL:(lG b p).length=p.aj.length:=by simp[lG]
def yM{k:Nat}(h:k<p.aj.length):gt (lG b p) k=ky b p k:=by unfold lG;rw[lF _ h]
def Aw{x:bu}(hx:x∈bl b p){s:Int}(hs:s∈x.aj):∃j:Nat,s=(j:Int)∧j<b.aj.length∧(conn b p (j:Int)).2=ab∧x=eL b p (conn b p (j:Int)).1:=by obtain⟨f,hf,rfl,_⟩:=Aj.1 hx;obtain⟨j,h1,h2,h3,h4⟩:=LY.1 hs;refine⟨j,h4,h1,h2,?_⟩;unfold eL;rw[h3,iH]
def QS(hb:cE b){j:Nat}(hj:j<b.aj.length)(hc:(conn b p (j:Int)).2=ab):eL b p (conn b p (j:Int)).1∈bl b p∧(j:Int)∈(eL b p (conn b p (j:Int)).1).aj:=by have sP:=VW hb hc;refine⟨(acd hb sP.1 sP.2).1,?_⟩;unfold eL;have:=(Bj (p:=p) hb (show(conn b p (j:Int)).1.toNat<b.aB.toNat by omega)).1;exact LY.2 ⟨j,hj,hc,by omega,rfl⟩
def ab2(hb:cE b){j:Nat}(hj:j<b.aj.length)(hc:(conn b p (j:Int)).2=ab):
  gt (eL b p (conn b p (j:Int)).1).aj 0=(lz b p j:Int)∧lz b p j<b.aj.length∧(conn b p (lz b p j:Int)).2=ab∧eL b p (conn b p (lz b p j:Int)).1=eL b p (conn b p (j:Int)).1∧lz b p (lz b p j)=lz b p j:=by
 obtain⟨h1,h2⟩:=QS hb hj hc
 have hlen:0<(eL b p (conn b p (j:Int)).1).aj.length:=List.length_pos_of_mem h2
 obtain⟨i,e1,e2,e3,e4⟩:=Aw h1 (dx hlen)
 have e5:lz b p j=i:=by unfold lz;rw[e1,iH]
 rw[e5]
 refine⟨e1,e2,e3,e4.symm,?_⟩
 unfold lz
 rw[<-e4,e1,iH]
def awi(hb:cE b)(hl:gn b)(DD:p.aj.length=b.aj.length):aJ (JW p (p.aG,p.aj,p.aX,p.aS) (bl b p)) ((0:Int),p.aj)=aa (lG b p):=by
 have pF:=hl.jg;have mB:=hl.src;have lD:=G5 (b:=b) (p:=p);refine Qp.1 ?_;refine dV (bl b p).length (λk s=>∃out,s=((k:Int),out)∧out.length=p.aj.length∧∀j,j<p.aj.length->gt out j=if ∃q,q<k∧(j:Int)∈(gt (bl b p) q).aj then ky b p j else gt p.aj j) ⟨_,rfl,rfl,λj hj=>by rw[aL (by rintro⟨q,hq,_⟩;omega)]⟩ ?_ ?_
 ·rintro k s hk ⟨out,rfl,h1,h2⟩;have hx:=dx hk;have yt:∀s∈(gt (bl b p) k).aj,0<=s∧s<(p.aj.length:Int):=λs hs=>by obtain⟨j,rfl,h,_⟩:=Aw hx hs;omega
  unfold JW;simp only[bb hk,aI,aP hk,aq];have pA:∀j:Nat,(∃q,q<k+1∧(j:Int)∈(gt (bl b p) q).aj)↔(∃q,q<k∧(j:Int)∈(gt (bl b p) q).aj)∨(j:Int)∈(gt (bl b p) k).aj:=λj=>by
   constructor
   ·rintro⟨q,hq,h⟩;by_cases TQ:q=k
    ·subst TQ;exact .inr h
    ·exact .inl ⟨q,by omega,h⟩
   ·rintro(⟨q,hq,h⟩|h)
    ·exact⟨q,by omega,h⟩
    ·exact⟨k,by omega,h⟩
  by_cases h0:(gt (bl b p) k).aj.length=0
  ·have e1:al (len (gt (bl b p) k).aj>0)=ai:=dF (by unfold len;omega);simp only[e1,aE,aD,aq];refine au.2 ⟨out,by rw[ba (by omega)],h1,λj hj=>?_⟩;rw[h2 j hj];have e2:(gt (bl b p) k).aj=[]:=List.length_eq_zero_iff.1 h0;have hi:(∃q,q<k+1∧(j:Int)∈(gt (bl b p) q).aj)↔(∃q,q<k∧(j:Int)∈(gt (bl b p) q).aj):=by rw[pA,e2];simp
   by_cases hh:∃q,q<k∧(j:Int)∈(gt (bl b p) q).aj
   ·rw[aH hh,aH (hi.2 hh)]
   ·rw[aL hh,aL (λh=>hh (hi.1 h))]
  ·have hlen:0<(gt (bl b p) k).aj.length:=by omega
   have e1:al (len (gt (bl b p) k).aj>0)=ab:=dT (by unfold len;omega);obtain⟨i,f1,f2,f3,f4⟩:=Aw hx (dx hlen);have e0:idx (gt (bl b p) k).aj 0=aa (i:Int):=by have:=aP hlen;rw[f1]at this;exact this
   have fH:Sm (gt (bl b p) k).aj:=by obtain⟨f,_,e,_⟩:=Aj.1 hx;rw[e];have:=(Dy (b:=b) (p:=p) f).2.1;unfold Sm;omega
   have yu:=aoy (p:=⟨p.aG,out,p.aX,p.aS⟩) (y:=gt p.aj i) fH (λs hs=>by have:=yt s hs;simp only;omega);simp only[e1,aI,e0,aP (show i<p.aj.length by omega),aq,yu];refine au.2 ⟨_,by rw[ba (by omega)],by rw[Gs];exact h1,λj hj=>?_⟩;rw[RF _ _ _ _ (λs hs=>by have:=yt s hs;omega),h2 j hj];by_cases ug:(j:Int)∈(gt (bl b p) k).aj
   ·rw[aH ug,aH ((pA j).2 (.inr ug))];obtain⟨j',g1,g2,g3,g4⟩:=Aw hx ug;have:j'=j:=by omega
    subst this;have Hy:lz b p j'=i:=by unfold lz;rw[<-g4,f1,iH]
    have hf:ky b p j'=wO (gt p.aj j') (gt p.aj i):=by unfold ky;rw[aH g3,Hy]
    rw[hf];split<;>rfl
   ·rw[aL ug];by_cases hh:∃q,q<k∧(j:Int)∈(gt (bl b p) q).aj
    ·rw[aH hh,aH ((pA j).2 (.inl hh))]
    ·rw[aL hh,aL (λh=>((pA j).1 h).elim hh ug)]
 ·rintro s ⟨out,rfl,h1,h2⟩;unfold JW;simp only[bJ,aE,aD];refine au.2 ?_;have:out=lG b p:=by
   apply jZ
   ·rw[vL,h1]
   ·intro j hj;rw[h2 j (by omega),yM (by omega)];by_cases hc:(conn b p (j:Int)).2=ab
    ·obtain⟨g1,g2⟩:=QS hb (show j<b.aj.length by omega) hc;obtain⟨q,hq,e⟩:=ou g1;rw[aH ⟨q,hq,by rw[e];exact g2⟩]
    ·have hf:ky b p j=gt p.aj j:=by unfold ky;rw[aL hc]
     rw[hf];split<;>rfl
  rw[this]
def follow_eq(hb:fu b)(hp:dt p)(h:bj b p=0):zF b p=aa (0,p.aG,lG b p,p.aX,p.aS):=by
 obtain⟨⟨hl,hg⟩,⟨s1,s2,s3⟩,_⟩:=fh.1 h;unfold zF;have e:(bj b p !=0)=ai:=by rw[h];rfl
 simp only[xJ hb hp,aq,e,aE,aD,EC hp,S_ hb hp h,awi hg.1 hl s2]
def VV{q:ax}(hc:q.aG=p.aG)(hl:q.aj.length=p.aj.length)(hs:∀j,j<p.aj.length->(gt q.aj j).State=(gt p.aj j).State)(j:Int):conn b q j=conn b p j:=by
 have A4:gj b q 2 j=gj b p 2 j:=by unfold gj mW;rw[hc]
 unfold conn;rw[hl,A4];by_cases h:0<=j∧j<=(p.aj.length:Int)-1
 ·rw[aH h,aH h,hs j.toNat (by omega)]
 ·rw[aL h,aL h]
def anj{q:ax}(hc:q.aG=p.aG)(k:Nat)(f:List Int):gN b q k f=gN b p k f:=by
 induction k with
 |zero=>rfl
 |succ k ih=>unfold gN;rw[ih];unfold ol;rw[hc]
def Ni{q:ax}(hc:q.aG=p.aG):cr b q=cr b p:=by
 unfold cr;generalize own b.aB.toNat=f;induction b.aB.toNat with
 |zero=>rfl
 |succ r ih=>unfold rounds;rw[ih,anj hc]
def arH{q:ax}(hc:q.aG=p.aG)(kind j:Int):gj b q kind j=gj b p kind j:=by unfold gj mW;rw[hc]
def ar3{q:ax}(hc:q.aG=p.aG)(hl:q.aj.length=p.aj.length)(hs:∀j,j<p.aj.length->(gt q.aj j).State=(gt p.aj j).State)(f:Nat):dY b q f=dY b p f:=by
 unfold dY;have e1:iP b q f=iP b p f:=by rY i;unfold iP;rw[Ni hc]
 have e2:gX b q f=gX b p f:=by rY i;unfold gX;rw[Ni hc,VV hc hl hs]
 have e3:h_ b q f=h_ b p f:=by rY i;unfold h_;rw[Ni hc,arH hc]
 rw[e1,e2,e3]
def ar7{q:ax}(hc:q.aG=p.aG)(hl:q.aj.length=p.aj.length)(hs:∀j,j<p.aj.length->(gt q.aj j).State=(gt p.aj j).State)(k:Int):eL b q k=eL b p k:=by unfold eL;rw[ar3 hc hl hs,Ni hc]
def arN{q:ax}(hc:q.aG=p.aG)(hl:q.aj.length=p.aj.length)(hs:∀j,j<p.aj.length->(gt q.aj j).State=(gt p.aj j).State)(k:Nat):lz b q k=lz b p k:=by unfold lz;rw[VV hc hl hs,ar7 hc hl hs]
def ZM{q:ax}(h:bj b p=0)(hc:q.aG=p.aG)(hl:q.aj.length=p.aj.length)(sJ:q.aX=p.aX)(nP:q.aS=p.aS)(hr:∀k,k<q.aj.length->gV (gt q.aj k)):bj b q=0:=by
 obtain⟨h1,⟨s1,s2,s3⟩,g1,g2,g3⟩:=fh.1 h;have auR:∀j n,eU b q j n=eU b p j n:=λj n=>Iw λi _ _ _=>by rw[hc]
 refine fh.2 ⟨h1,⟨by rw[hc];exact s1,by rw[hl];exact s2,by rw[sJ];exact s3⟩,by rw[nP];exact g1,hr,λk hk=>?_⟩;have:=g3 k (by rw[<-sJ];exact hk);unfold uE at this⊢;rw[sJ,auR];exact this
def awk(j:Nat):(ky b p j).State=(gt p.aj j).State:=by unfold ky;split<;>rfl
def aes{j:Nat}(hj:j<p.aj.length):(gt (rL b p).aj j).State=(gt p.aj j).State:=by show(gt (lG b p) j).State=_;rw[yM hj,awk]
def aoU{x y:bo}(hx:gV x)(hy:gV y):gV (wO x y):=⟨hx.1,hx.2.1,hy.2.2.1,hy.2.2.2⟩
def ZN(h:bj b p=0):bj b (rL b p)=0:=by
 obtain⟨⟨hl,hg⟩,⟨s1,s2,s3⟩,g1,g2,g3⟩:=fh.1 h;refine ZM h rfl vL rfl rfl λk hk=>?_;have cV:k<p.aj.length:=by rw[<-vL (b:=b)];exact hk
 show gV (gt (lG b p) k);rw[yM cV];unfold ky;split
 ·rename_i hc;obtain⟨_,e,_⟩:=ab2 hg.1 (show k<b.aj.length by omega) hc;exact aoU (g2 k cV) (g2 _ (by omega))
 ·exact g2 k cV
def aer(h:bj b p=0):lG b (rL b p)=lG b p:=by
 obtain⟨⟨hl,hg⟩,⟨s1,s2,s3⟩,g1,g2,g3⟩:=fh.1 h;have bV:∀j,j<p.aj.length->(gt (rL b p).aj j).State=(gt p.aj j).State:=λj hj=>aes hj;have hlen:(rL b p).aj.length=p.aj.length:=vL;apply jZ
 ·rw[vL,vL,hlen]
 ·intro k hk;rw[vL,hlen]at hk;rw[yM (by omega),yM hk];have e1:gt (rL b p).aj k=ky b p k:=yM hk;unfold ky at e1⊢;rw[VV (p:=p) (q:=rL b p) rfl hlen bV,arN (p:=p) (q:=rL b p) rfl hlen bV];by_cases hc:(conn b p (k:Int)).2=ab
  ·rw[aH hc]at e1⊢;obtain⟨_,e2,e3,_,e5⟩:=ab2 hg.1 (show k<b.aj.length by omega) hc;have e6:gt (rL b p).aj (lz b p k)=ky b p (lz b p k):=yM (by omega);unfold ky at e6;rw[aH e3,e5]at e6;rw[aH hc,e1,e6];rfl
  ·rw[aL hc]at e1⊢;rw[aL hc];exact e1
end
end Rx
namespace Rx
open Classical
def aat(x y:bo):(x.State==y.State&&(x.gJ==y.gJ&&(x.aZ==y.aZ&&x.bi==y.bi)))=ab↔x=y:=by obtain⟨a,b,c,d⟩:=x;obtain⟨a',b',c',d'⟩:=y;simp
def aa_(x y:Part):(x.Kind==y.Kind&&x.Number==y.Number)=ab↔x=y:=by obtain⟨a,b⟩:=x;obtain⟨a',b'⟩:=y;simp
section
variable {b:aw} {p:ax}
end
def Z3{b:aw}{p:ax}(h:dt p):dt (rL b p):=⟨h.1,by show Sm (lG b p);unfold Sm;rw[vL];exact h.2.1,h.2.2.1,h.2.2.2⟩
end Rx
namespace Rx
def swapAt(d:List Int)(j:Nat):List Int:=(d.set (j+1) (d.getD j 0)).set j (d.getD (j+1) 0)
def inner(lt:Int->Int->Bool):Nat->List Int->List Int
 |0,d=>d
 |j+1,d=>if lt (d.getD (j+1) 0) (d.getD j 0)=ab then inner lt j (swapAt d j)else d
def outer(lt:Int->Int->Bool):Nat->Nat->List Int->List Int
 |0,_,d=>d
 |m+1,i,d=>outer lt m (i+1) (inner lt i d)
def Ok(n:Nat)(p:Int->Prop)(d:List Int):Prop:=d.length=n∧∀x∈d,p x
def LI{n:Nat}{p:Int->Prop}{d:List Int}(h:Ok n p d){j:Nat}(hj:j<n):p (d.getD j 0):=by
 have hl:=h.1;have:d.getD j 0=d[j]:=by simp[List.getD,hl,hj]
 rw[this];exact h.2 _ (List.getElem_mem _)
def aqn{n:Nat}{p:Int->Prop}{d:List Int}(h:Ok n p d){j:Nat}(hj:j+1<n):Ok n p (swapAt d j):=by
 refine⟨by simp[swapAt,h.1],λx hx=>?_⟩;unfold swapAt at hx;rcases List.mem_or_eq_of_mem_set hx with hx|rfl
 ·rcases List.mem_or_eq_of_mem_set hx with hx|rfl
  ·exact h.2 x hx
  ·exact LI h (by omega)
 ·exact LI h hj
def pb(r:List Int):Int:=r.foldr (·+·) 0
def rest(total:Int)(r:List Int)(s:Int)(i:Int):Int:=(total*r.getD i.toNat 0)% s
def kW(n:Nat):List Int:=(bW n).map Int.ofNat
def D_(n:Nat):(kW n).length=n:=by simp[kW]
def anz{l:List Int}{B:Int}(h:∀x∈l,0<=x∧x<=B):0<=pb l∧pb l<=B*l.length:=by
 induction l with
 |nil=>simp[pb]
 |cons x l ih=>
  have h1:=ih λy hy=>h y (eY _ hy);have h2:=h x nY;have:pb (x::l)=x+pb l:=rfl;rw[this];have e:B*((x::l).length:Int)=B*l.length+B:=by simp[Int.mul_add]
  rw[e];omega
def axb(n:Nat):Ok n (λx=>0<=x∧x<n) (kW n):=by refine⟨D_ n,λx hx=>?_⟩;obtain⟨k,hk,rfl⟩:=dE.1 hx;have:=eu.1 hk;exact⟨Int.natCast_nonneg k,by simpa using this⟩
section
variable {r:List Int} {total s:Int}
def Tm{d:List Int}{j:Nat}(h:j<d.length):idx d (j:Int)=aa (d.getD j 0):=aP h
end
def oC(lt:Int->Int->Bool)(x:Int):List Int->List Int
 |[]=>[x]
 |y::l=>if lt x y=ab then y::oC lt x l else x::y::l
def aci(lt:Int->Int->Bool)(x:Int):∀l:List Int,(oC lt x l).length=l.length+1
 |[]=>rfl
 |y::l=>by
  unfold oC;split
  ·simp[aci lt x l]
  ·rfl
def Mq(lt:Int->Int->Bool)(x:Int):∀l:List Int,(oC lt x l).Perm (x::l)
 |[]=>List.Perm.refl _
 |y::l=>by
  unfold oC;split
  ·exact((Mq lt x l).cons y).trans (List.Perm.swap x y l)
  ·exact List.Perm.refl _
def av9(l m:List Int)(a:Int):(l++a::m).getD l.length 0=a:=by simp[List.getD]
def ack(lt:Int->Int->Bool)(x:Int):∀(l post:List Int),inner lt l.length (l.reverse++x::post)=(oC lt x l).reverse++post
 |[],post=>rfl
 |y::l,post=>by
  have hl:l.reverse.length=l.length:=List.length_reverse;have e0:(y::l).reverse++x::post=l.reverse++y::x::post:=by simp
  have e1:(l.reverse++y::x::post).getD l.length 0=y:=by rw[<-hl];exact av9 _ _ _
  have e2:(l.reverse++y::x::post).getD (l.length+1) 0=x:=by simp
  rw[e0];show inner lt (l.length+1) _=_;rw[inner,e1,e2,oC];split
  ·rename_i h;have e3:swapAt (l.reverse++y::x::post) l.length=l.reverse++x::y::post:=by
    unfold swapAt;rw[e1,e2,List.set_append_right _ _ (by omega),hl];have:l.length+1-l.length=1:=by omega
    rw[this,List.set_append_right _ _ (by omega),hl,Nat.sub_self];rfl
   rw[e3,ack lt x l (y::post)];simp
  ·simp
def abc(lt:Int->Int->Bool):∀(xs l:List Int),outer lt xs.length l.length (l.reverse++xs)=(xs.foldl (λa x=>oC lt x a) l).reverse
 |[],l=>by simp[outer]
 |x::xs,l=>by show outer lt (xs.length+1) l.length _=_;rw[outer,ack lt x l xs];have:=abc lt xs (oC lt x l);rw[aci]at this;rw[this];rfl
def Jp(f:Int->Int)(a b:Int):Prop:=f a<f b∨(f a=f b∧b<a)
def ach{lt:Int->Int->Bool}{f:Int->Int}(aV:∀x y,lt x y=ab↔f y<f x){x:Int}:∀{l:List Int},(∀y∈l,y<x)->l.Pairwise (Jp f)->(oC lt x l).Pairwise (Jp f)
 |[],_,_=>by simp[oC]
 |y::l,hx,h=>by
  have h':=qY.1 h;unfold oC;split
  ·rename_i hh;have hf:=(aV x y).1 hh;refine qY.2 ⟨λz hz=>?_,ach aV (λz hz=>hx z (eY _ hz)) h'.2⟩;have oD:=(Mq lt x l).mem_iff.1 hz;rcases cu.1 oD with rfl|oD
   ·exact .inl hf
   ·exact h'.1 z oD
  ·rename_i hh;have hf:f x<=f y:=by apply Int.not_lt.1;intro h2;exact hh ((aV x y).2 h2)
   refine qY.2 ⟨λz hz=>?_,h⟩;have hzx:=hx z hz;have Mt:f y<=f z:=by
    rcases cu.1 hz with rfl|hz
    ·exact Int.le_refl _
    ·rcases h'.1 z hz with h3|h3<;>omega
   rcases Int.lt_or_le (f x) (f z)with h4|h4
   ·exact .inl h4
   ·exact .inr ⟨by omega,hzx⟩
def aeq{lt:Int->Int->Bool}{f:Int->Int}(aV:∀x y,lt x y=ab↔f y<f x):∀(xs l:List Int),xs.Pairwise (·<·)->(∀y∈l,∀x∈xs,y<x)->l.Pairwise (Jp f)->
  (xs.foldl (λa x=>oC lt x a) l).Pairwise (Jp f)∧(xs.foldl (λa x=>oC lt x a) l).Perm (xs++l)
 |[],l,_,_,h=>⟨h,List.Perm.refl _⟩
 |x::xs,l,hp,hl,h=>by
  have qo:=qY.1 hp;have h1:=ach aV (x:=x) (l:=l) (λy hy=>hl y hy x nY) h;have ih:=aeq aV xs (oC lt x l) qo.2 (λy hy z hz=>by
   have gF:=(Mq lt x l).mem_iff.1 hy;rcases cu.1 gF with rfl|gF
   ·exact qo.1 z hz
   ·exact hl y gF z (eY _ hz)) h1
  refine⟨ih.1,ih.2.trans ?_⟩;exact((Mq lt x l).append_left xs).trans List.perm_middle
def axa(n:Nat):(kW n).Pairwise (·<·):=by unfold kW;rw[List.pairwise_map];exact List.pairwise_lt_range.imp λh=>by simpa using h
def anA(a b:List Int):pb (a++b)=pb a+pb b:=by
 induction a with
 |nil=>simp[pb]
 |cons x a ih=>show x+pb (a++b)=x+pb a+pb b;rw[ih];omega
section
variable {r:List Int} {total:Int}
end
end Rx
namespace Rx
section
variable {b:aw} {p:ax}
def nB(f:Nat->Int)(l:List Int):Int:=pb (l.map λk=>f k.toNat)
def ZL(f:Nat->Int)(l:List Int)(k:Int):nB f (l++[k])=nB f l+f k.toNat:=by unfold nB;rw[q7,anA];simp[pb]
def JX{f:Nat->Int}{l:List Int}{B:Int}(h:∀k∈l,0<=f k.toNat∧f k.toNat<=B):0<=nB f l∧nB f l<=B*l.length:=by
 have:=anz (l:=l.map λk=>f k.toNat) (B:=B) (λx hx=>by obtain⟨k,hk,rfl⟩:=dE.1 hx;exact h k hk)
 simpa[nB]using this
def Mi(p:ax)(x:bu):Int:=if x.aj=[]then 0 else nB (gt p.aX) x.az
def xW(b:aw)(x:bu):Int:=nB (λk=>(gt b.aj k).ik) x.aj
def abm(hg:cE b)(k:Int):(∀c∈(fQ b p k).1.az,0<=c∧c<b.az.length)∧(∀c∈(fQ b p k).1.aj,0<=c∧c<b.aj.length)∧(fQ b p k).1.az.length<=b.az.length∧(fQ b p k).1.aj.length<=b.aj.length:=by
 unfold fQ;split
 ·have h:=Dy (b:=b) (p:=p) (gt (cr b p) k.toNat).toNat;refine⟨λc hc=>?_,λc hc=>?_,h.2.2,h.2.1⟩
  ·obtain⟨j,hj,_,_,e⟩:=abC.1 hc;omega
  ·obtain⟨j,hj,_,_,e⟩:=LY.1 hc;omega
 ·exact⟨λc hc=>(by cases hc),λc hc=>(by cases hc),kF _,kF _⟩
def Mj(h:bj b p=0){k:Nat}(hk:k<b.az.length):0<=gt p.aX k∧gt p.aX k<=50000:=by obtain⟨⟨hl,hg⟩,⟨s1,s2,s3⟩,g1,g2,g3⟩:=fh.1 h;have h1:=(g3 k (by omega)).1;have h2:=(hg.2.2.2.2 k hk).2.1;omega
def R4(h:bj b p=0){k:Nat}(hk:k<b.aj.length):1<=(gt b.aj k).ik∧(gt b.aj k).ik<=50000:=by obtain⟨⟨hl,hg⟩,_⟩:=fh.1 h;exact(hg.2.2.2.1 k hk).1
def LN(h:bj b p≠0)(k:Int):(fQ b p k).1=⟨[],[],[]⟩:=by unfold fQ;rw[aL (λhn=>h hn.1)]
def aro(hb:fu b)(hp:dt p)(k:Int):I5 b p k=aa (Mi p (fQ b p k).1):=by
 by_cases h:bj b p=0
 case neg=>
  unfold I5;rw[of_eq hb hp];have e:pn b p k=([],[],[],(fQ b p k).2):=by unfold pn;rw[LN h]
  rw[e,LN h];rfl
 obtain⟨⟨hl,hg⟩,⟨s1,s2,s3⟩,_⟩:=fh.1 h;obtain⟨h1,h2,h3,h4⟩:=abm (p:=p) hg.1 k;have h8:=hl.iO;generalize hx:(fQ b p k).1=x at*;have yB:=dQ (step:=EZ p (pn b p k)) (λi=>(if x.aj=[]then 0 else nB (gt p.aX) (x.az.take i),(i:Int))) x.az.length (r:=Mi p x) (λi hi=>by
  obtain⟨c0,c1⟩:=h1 _ (dx hi);obtain⟨c,ec⟩:=nu c0;have ec:gt x.az i=(c:Int):=ec;have hc:c<p.aX.length:=by omega
  have e1:(pn b p k).2.2.1=x.az:=by rw[<-hx];rfl
  have e2:(pn b p k).2.1=x.aj:=by rw[<-hx];rfl
  have sP:=JX (f:=gt p.aX) (l:=x.az.take i) (B:=50000) (λc hc=>by have:=h1 c (uI hc);exact Mj h (by omega))
  have hlen:(x.az.take i).length<=16:=by simp;omega
  have HR:=Mj h (k:=c) (by omega);by_cases hs:x.aj=[]
  ·simp only[EZ,e1,e2,hs,bb hi,aI,aP hi,ec,aq,dF (show ¬len ([]:List Int)>0 by decide),aE,aD,ba (show i<1000000000000000000 by omega)]
  ·have sH:len x.aj>0:=by have:=List.length_pos_iff.2 hs;unfold len;omega
   simp only[EZ,e1,e2,aL hs,bb hi,aI,aP hi,ec,aq,dT sH,aP hc,ba (show i<1000000000000000000 by omega),lm hi,ZL,iH];rw[bZ (by omega) (by omega)]) (by
  have e1:(pn b p k).2.2.1=x.az:=by rw[<-hx];rfl
  simp only[EZ,e1,bJ,aE,aD,oU];rfl)
 unfold I5;have e0:(if x.aj=[]then(0:Int)else nB (gt p.aX) (x.az.take 0),((0:Nat):Int))=(0,0):=by simp[nB,pb]
 have MN:aJ (EZ p (pn b p k)) (if x.aj=[]then(0:Int)else nB (gt p.aX) (x.az.take 0),((0:Nat):Int))=_:=yB;rw[e0]at MN;simp only[of_eq hb hp,aq,MN]
def apL(hb:fu b)(hp:dt p)(k:Int):I4 b p k=aa (xW b (fQ b p k).1):=by
 by_cases h:bj b p=0
 case neg=>
  unfold I4;rw[of_eq hb hp];have e:pn b p k=([],[],[],(fQ b p k).2):=by unfold pn;rw[LN h]
  rw[e,LN h];rfl
 obtain⟨⟨hl,hg⟩,⟨s1,s2,s3⟩,_⟩:=fh.1 h;obtain⟨h1,h2,h3,h4⟩:=abm (p:=p) hg.1 k;have h8:=hl.src;generalize hx:(fQ b p k).1=x at*;have e2:(pn b p k).2.1=x.aj:=by rw[<-hx];rfl
 have yB:=dQ (step:=I3 b (pn b p k)) (λi=>(nB (λk=>(gt b.aj k).ik) (x.aj.take i),(i:Int))) x.aj.length (r:=xW b x) (λi hi=>by
  obtain⟨c0,c1⟩:=h2 _ (dx hi);obtain⟨c,ec⟩:=nu c0;have ec:gt x.aj i=(c:Int):=ec;have hc:c<b.aj.length:=by omega
  have sP:=JX (f:=λk=>(gt b.aj k).ik) (l:=x.aj.take i) (B:=50000) (λc hc=>by have:=h2 c (uI hc);have:=R4 h (k:=c.toNat) (by omega);exact⟨by omega,this.2⟩)
  have hlen:(x.aj.take i).length<=8:=by simp;omega
  have HR:=R4 h (k:=c) (by omega);simp only[I3,e2,bb hi,aI,aP hi,ec,aq,aP hc,ba (show i<1000000000000000000 by omega),lm hi,ZL,iH];rw[bZ (by omega) (by omega)]) (by
  simp only[I3,e2,bJ,aE,aD,oU];rfl)
 unfold I4;have MN:aJ (I3 b (pn b p k)) (0,0)=_:=yB;simp only[of_eq hb hp,aq,MN]
def G4(hg:cE b){x:bu}(hx:x∈bl b p):(∀c∈x.az,0<=c∧c<b.az.length)∧(∀c∈x.aj,0<=c∧c<b.aj.length)∧x.az.length<=b.az.length∧x.aj.length<=b.aj.length∧0<x.aB.length:=by
 obtain⟨f,hf,e,bR⟩:=Aj.1 hx;have h:=Dy (b:=b) (p:=p) f;rw[e];refine⟨λc hc=>?_,λc hc=>?_,h.2.2,h.2.1,List.length_pos_iff.2 bR⟩
 ·obtain⟨j,hj,_,_,e⟩:=abC.1 hc;omega
 ·obtain⟨j,hj,_,_,e⟩:=LY.1 hc;omega
def ar9(h:bj b p=0){x:bu}(hx:x∈bl b p):(fQ b p (gt x.aB 0)).1=x:=by obtain⟨⟨hl,hg⟩,_⟩:=fh.1 h;have hb0:=(G4 hg.1 hx).2.2.2.2;obtain⟨h1,h2,h3⟩:=acb hx (dx hb0);unfold fQ;rw[aH ⟨h,h1,by omega⟩];exact h3.symm
end
end Rx
namespace Rx
def Sb{p q:Part}(h1:p.Kind=q.Kind)(h2:p.Number=q.Number):p=q:=by cases p;cases q;simp at h1 h2;rw[h1,h2]
section
variable {b:aw} {p:ax}
def da(p:ax)(k n:Int):Bool:=dB ((⟨k,n⟩:Part)∈p.aS)
def ajp(hp:dt p)(k n:Int):tf p k n=aa (da p k n):=by
 have hl:=hp.2.2.2;unfold tf Gc J7;have e1:∀i,((k==(gt p.aS i).Kind&&n==(gt p.aS i).Number)=ab↔gt p.aS i=(⟨k,n⟩:Part)):=λi=>by simp only[Bool.and_eq_true,xw];exact⟨λ⟨h1,h2⟩=>Sb h1.symm h2.symm,λh=>by rw[h];exact⟨rfl,rfl⟩⟩
 by_cases hm:(⟨k,n⟩:Part)∈p.aS
 ·have hw:Wp (aJ (wC p.aS ⟨k,n⟩) 0) λr=>∃q:Nat,r= .inr (q:Int):=by
   obtain⟨j,hj,he⟩:=ou hm;refine dV p.aS.length (λk s=>s=(k:Int)∧k<=j) ⟨rfl,by omega⟩ (λi s hi hv=>?_) (λs hv=>by omega) (Z0 hl);obtain⟨rfl,hv⟩:=hv;unfold wC;simp only[bb hi,aI,aP hi,aq];cases hb:(k==(gt p.aS i).Kind&&n==(gt p.aS i).Number)with
   |true=>simp only[aI];exact au.2 ⟨i,rfl⟩
   |false=>
    simp only[aE,aD];refine au.2 ⟨ba (eP hl hi),?_⟩;by_cases e:i=j
    ·subst e;rw[(e1 i).2 he]at hb;cases hb
    ·omega
  obtain⟨r,e,q,rfl⟩:=hw;rw[e];unfold da;rw[iN hm];simp only[aq,bC];rw[dT (by omega)]
 ·have e:aJ (wC p.aS ⟨k,n⟩) 0=aa (.inl ()):=dQ (r:=Sum.inl ()) (λk=>(k:Int)) p.aS.length (λi hi=>by
   unfold wC;simp only[bb hi,aI,aP hi,aq];cases hb:(k==(gt p.aS i).Kind&&n==(gt p.aS i).Number)with
   |true=>exact(hm ((e1 i).1 hb▸dx hi)).elim
   |false=>simp only[aE,aD];rw[ba (eP hl hi)]) (by
   unfold wC;simp only[bJ,aE,aD]) (Z0 hl)
  rw[e];unfold da;rw[gU hm];simp only[aq,bw];rw[dF (by omega)]
def sC(b:aw)(p:ax)(k:Int):Bool:=al (0<(fQ b p k).1.aj.length)
def abV(hb:fu b)(hp:dt p)(k:Int):EV b p k=aa (sC b p k):=arv hb hp k
def jc(p:ax)(x:cH):Bool:=da p 3 x.A||(if x.Kind=1 then da p 3 x.B else if x.Kind=2 then da p 1 x.B||((gt p.aj x.B.toNat).State !=2)else da p 4 x.B)
def axI(hp:dt p){x:cH}(hx:x.Kind=2->0<=x.B∧x.B<p.aj.length)(a:List Act):Lj ⟨b,p,a⟩ x=aa (jc p x):=by
 unfold Lj CU jc;simp only[ajp hp,aq];cases da p 3 x.A with
 |true=>simp only[aI,Bool.true_or]
 |false=>
  simp only[aE,aD,Bool.false_or];by_cases h1:x.Kind=1
  ·rw[gm h1,aH h1];simp only[aI]
  ·rw[dI h1,aL h1];simp only[aE,aD];by_cases h2:x.Kind=2
   ·rw[gm h2,aH h2];simp only[aI];cases da p 1 x.B with
    |true=>simp only[aI,aq,Bool.true_or]
    |false=>have:=hx h2;simp only[aE,aD,iL this.1 this.2,aq,Bool.false_or]
   ·rw[dI h2,aL h2];simp only[aE,aD]
def gR(C:List Bool)(P:Nat->Bool):List Bool:=(bW C.length).map λi=>gt C i&& !P i
def kj(C:List Bool)(P:Nat->Bool):(gR C P).length=C.length:=by simp[gR]
def qe{C:List Bool}{P:Nat->Bool}{i:Nat}(h:i<C.length):gt (gR C P) i=(gt C i&& !P i):=lF _ h
def qS(i:Int):Act:=⟨2,i,0⟩
def gy(C:List Bool)(P:Nat->Bool):List Int:=bD (λi=>gt C i&&P i) C.length
def dX(b:aw)(p:ax)(a:List Act):Int×List cH×List Source×List Consumer×Int×Int×List Bool×List bo×List Int×List Part×List Act:=(b.aB,b.ae,b.aj,b.az,b.bi,b.aZ,p.aG,p.aj,p.aX,p.aS,a)
def LG(C:List Bool)(l:List Int)(h:∀k∈l,0<=k∧k<(C.length:Int)):∀i,gt (l.foldl (λc k=>c.set k.toNat ai) C) i=(gt C i&& !al ((i:Int)∈l))∧(l.foldl (λc k=>c.set k.toNat ai) C).length=C.length:=by
 induction l generalizing C with
 |nil=>intro i;simp
 |cons k l ih=>
  intro i;have hk:=h k (by simp);have:=ih (C.set k.toNat ai) (λj hj=>by have:=h j (by simp[hj]);simpa using this) i;simp only[List.foldl_cons];rw[this.1,this.2];refine⟨?_,by simp⟩;rw[gH (by omega)];by_cases e:i=k.toNat
  ·have:(i:Int)=k:=by omega
   rw[aH e,this];simp
  ·have:(i:Int)≠k:=by omega
   rw[aL e];simp[this]
def Sk{b:aw}{p:ax}{a:List Act}{l:List Int}(hC:p.aG.length<=1000)(hl:l.length<=1000)(ha:a.length<=10000000)(h:∀k∈l,0<=k∧k<(p.aG.length:Int)):
  aJ (C7 l) (0,dX b p a)=aa (dX b {p with aG:=l.foldl (λc k=>c.set k.toNat ai) p.aG} (a++l.map qS)):=by
 have:=dQ (step:=C7 l) (r:=dX b {p with aG:=l.foldl (λc k=>c.set k.toNat ai) p.aG} (a++l.map qS)) (λk=>((k:Int),dX b {p with aG:=(l.take k).foldl (λc k=>c.set k.toNat ai) p.aG} (a++(l.take k).map qS))) l.length (λk hk=>by
  have hg:=h _ (dx hk);have rF:=(LG p.aG (l.take k) (λj hj=>h j (uI hj)) 0).2;unfold C7 GC;simp only[dX,bb hk,aI,aP hk,aq];rw[iL (l:=(l.take k).foldl (λc k=>c.set k.toNat ai) p.aG) hg.1 (by rw[rF];exact hg.2),CX hg.1 (by rw[rF];exact hg.2),cK (by simp;omega),ba (by omega)];simp only[aq,lm hk,List.foldl_append,List.foldl_cons,List.foldl_nil,q7,List.map_cons,List.map_nil,List.append_assoc];rfl) (by
  unfold C7;simp only[dX,bJ,aE,aD,oU]) (by omega)
 simpa using this
def Bl{C:List Bool}{P:Nat->Bool}:∀k∈gy C P,0<=k∧k<(C.length:Int):=λk hk=>by obtain⟨i,hi,_,rfl⟩:=yg.1 hk;omega
def U9(C:List Bool)(P:Nat->Bool):(gy C P).foldl (λc k=>c.set k.toNat ai) C=gR C P:=by
 refine jZ (by rw[(LG C (gy C P) Bl 0).2,kj]) λi hi=>?_;rw[(LG C (gy C P) Bl 0).2]at hi;rw[(LG C (gy C P) Bl i).1,qe hi];cases hc:gt C i with
 |false=>simp
 |true=>
  simp only[Bool.true_and];cR 1;cases hP:P i with
  |true=>exact v9 (yg.2 ⟨i,hi,by simp[hc,hP],rfl⟩)
  |false=>
   refine Jq λhm=>?_;obtain⟨j,_,hj,e⟩:=yg.1 hm;have:i=j:=by omega
   subst this;rw[hP]at hj;simp at hj
def Bm(C:List Bool)(P:Nat->Bool):(gy C P).length<=C.length:=om _ _
def jv(b:aw)(p:ax):ax:={p with aG:=gR p.aG λi=>jc p (gt b.ae i)}
def dead(b:aw)(p:ax)(x:cH):Bool:=x.Kind==3&& !sC b p x.A
def yW(b:aw)(p:ax):ax:={jv b p with aG:=gR (jv b p).aG λi=>dead b (jv b p) (gt b.ae i)}
def xm(b:aw)(p:ax):List Act:=(gy p.aG λi=>jc p (gt b.ae i)).map qS++(gy (jv b p).aG λi=>dead b (jv b p) (gt b.ae i)).map qS
def lH(b:aw)(p:ax):ax:=rL b (yW b p)
def afc{q:ax}{j:Int}(h:∀k,gt q.aG k=ab->gt p.aG k=ab):∀n,eU b q j n<=eU b p j n:=by
 intro n;induction n with
 |zero=>exact bx _
 |succ n ih=>
  unfold eU;by_cases hc:(gt b.ae n).Kind=3∧(gt b.ae n).B=j∧gt q.aG n=ab
  ·rw[aH hc,aH ⟨hc.1,hc.2.1,h n hc.2.2⟩];omega
  ·rw[aL hc];omega
def QM{q:ax}(h:bj b p=0)(hl:q.aG.length=p.aG.length)(hs:q.aj=p.aj)(hm:q.aX=p.aX)(hb:q.aS=p.aS)(hc:∀k,gt q.aG k=ab->gt p.aG k=ab):bj b q=0:=by obtain⟨h1,⟨s1,s2,s3⟩,⟨g1,g2⟩,g3,g4⟩:=fh.1 h;refine fh.2 ⟨h1,⟨by omega,by rw[hs];exact s2,by rw[hm];exact s3⟩,⟨by rw[hb];exact g1,by rw[hb];exact g2⟩,by rw[hs];exact g3,λk hk=>?_⟩;rw[hm]at hk;obtain⟨a,c⟩:=g4 k hk;refine⟨by rw[hm];exact a,?_⟩;have:=afc (b:=b) (j:=(k:Int)) hc b.ae.length;omega
def GR{C:List Bool}{P:Nat->Bool}{k:Nat}(h:gt (gR C P) k=ab):gt C k=ab:=by
 by_cases hk:k<C.length
 ·rw[qe hk]at h;cases hc:gt C k with
  |true=>rfl
  |false=>rw[hc]at h;cases h
 ·unfold gt at h;rw[List.getD_eq_getElem?_getD,List.getElem?_eq_none (by rw[kj];omega)]at h;exact Bool.noConfusion h
def QN(h:bj b p=0):bj b (jv b p)=0:=QM h (kj _ _) rfl rfl rfl λk hk=>GR hk
def JY(h:bj b p=0):bj b (yW b p)=0:=QM (QN h) (kj _ _) rfl rfl rfl λk hk=>GR hk
def ZZ{q:ax}(hp:dt p)(hl:q.aG.length=p.aG.length)(hs:q.aj=p.aj)(hm:q.aX=p.aX)(hb:q.aS=p.aS):dt q:=by obtain⟨h1,h2,h3,h4⟩:=hp;refine⟨?_,by rw[hs];exact h2,by rw[hm];exact h3,by rw[hb];exact h4⟩;unfold Sm at h1⊢;omega
def Z6(hp:dt p):dt (jv b p):=ZZ hp (kj _ _) rfl rfl rfl
def Z5(hp:dt p):dt (yW b p):=ZZ (Z6 (b:=b) hp) (kj _ _) rfl rfl rfl
def lI(h:bj b p=0):p.aG.length=b.ae.length∧p.aj.length=b.aj.length∧b.ae.length<=24∧b.aj.length<=8∧b.az.length<=16∧p.aX.length=b.az.length:=by obtain⟨⟨hl,_⟩,⟨s1,s2,s3⟩,_⟩:=fh.1 h;exact⟨s1,s2,hl.da,hl.src,hl.iO,s3⟩
def QT(h:bj b p=0){k:Nat}(hk:k<b.ae.length)(h2:(gt b.ae k).Kind=2):0<=(gt b.ae k).B∧(gt b.ae k).B<(p.aj.length:Int):=by obtain⟨s1,s2,_⟩:=lI h;have:=(((fh.1 h).1.2).1.1 k hk).2;rcases this with c|c|c<;>omega
def anw(hp:dt p)(h:bj b p=0){a:List Act}(ha:a.length<=1000000):Ld ⟨b,p,a⟩=aa (dX b (jv b p) (a++(gy p.aG λi=>jc p (gt b.ae i)).map qS)):=by
 obtain⟨s1,s2,s3,_⟩:=lI h;unfold Ld;have e1:aJ (GA ⟨b,p,a⟩) (0,[])=aa (gy p.aG λi=>jc p (gt b.ae i)):=by
  have:=dQ (step:=GA ⟨b,p,a⟩) (r:=gy p.aG λi=>jc p (gt b.ae i)) (λk=>((k:Int),bD (λi=>gt p.aG i&&jc p (gt b.ae i)) k)) b.ae.length (λk hk=>by
   have l8:=om (λi=>gt p.aG i&&jc p (gt b.ae i)) k;unfold GA;simp only[bb hk,aI,aP hk,aq,aP (l:=p.aG) (k:=k) (by omega),axI (b:=b) hp (x:=gt b.ae k) (QT h hk) a];rw[ba (by omega),pi];cases gt p.aG k with
   |false=>simp
   |true=>
    cases jc p (gt b.ae k)with
    |false=>simp
    |true=>simp only[aI,aq,Bool.and_self];rw[cK (by simp;omega)];rfl) (by
   unfold GA;simp only[bJ,aE,aD];unfold gy;rw[s1]) (by omega)
  simpa[bD]using this
 rw[e1];have eJ:(gy p.aG λi=>jc p (gt b.ae i)).length<=1000:=by have:=Bm p.aG λi=>jc p (gt b.ae i);omega
 have e2:=Sk (b:=b) (p:=p) (a:=a) (l:=gy p.aG λi=>jc p (gt b.ae i)) (by omega) eJ (by omega) Bl;simp only[aq];rw[show aJ (C7 (gy p.aG λi=>jc p (gt b.ae i))) (0,b.aB,b.ae,b.aj,b.az,b.bi,b.aZ,p.aG,p.aj,p.aX,p.aS,a)=_ from e2,U9];rfl
def anv(hb:fu b)(hp:dt p)(h:bj b p=0){a:List Act}(ha:a.length<=1000000):Lc ⟨b,p,a⟩=aa (dX b {p with aG:=gR p.aG λi=>dead b p (gt b.ae i)} (a++(gy p.aG λi=>dead b p (gt b.ae i)).map qS)):=by
 obtain⟨s1,s2,s3,_⟩:=lI h;unfold Lc;have e1:aJ (C6 ⟨b,p,a⟩) (0,[],dX b p a)=aa (gy p.aG λi=>dead b p (gt b.ae i),dX b p a):=by
  have:=dQ (step:=C6 ⟨b,p,a⟩) (r:=(gy p.aG λi=>dead b p (gt b.ae i),dX b p a)) (λk=>((k:Int),bD (λi=>gt p.aG i&&dead b p (gt b.ae i)) k,dX b p a)) b.ae.length (λk hk=>by
   have l8:=om (λi=>gt p.aG i&&dead b p (gt b.ae i)) k;have xf:(⟨b.aB,b.ae,b.aj,b.az,b.bi,b.aZ⟩:aw)=b:=rfl;have rD:(⟨p.aG,p.aj,p.aX,p.aS⟩:ax)=p:=rfl;unfold C6 Rt;simp only[dX,bb hk,aI,aP hk,aq,aP (l:=p.aG) (k:=k) (by omega),xf,rD,abV hb hp];rw[ba (by omega),pi];generalize bD (λi=>gt p.aG i&&dead b p (gt b.ae i)) k=R at l8⊢;unfold dead;cases gt p.aG k with
   |false=>simp
   |true=>
    cases(gt b.ae k).Kind==3 with
    |false=>simp
    |true=>
     cases sC b p (gt b.ae k).A with
     |true=>simp
     |false=>simp only[aI,aq,Bool.and_self,Bool.not_false];rw[cK (by simp;omega)];rfl) (by
   unfold C6;simp only[dX,bJ,aE,aD];unfold gy;rw[s1]) (by omega)
  simpa[bD]using this
 rw[show aJ (C6 ⟨b,p,a⟩) (0,[],b.aB,b.ae,b.aj,b.az,b.bi,b.aZ,p.aG,p.aj,p.aX,p.aS,a)=_ from e1];have eJ:(gy p.aG λi=>dead b p (gt b.ae i)).length<=1000:=by have:=Bm p.aG λi=>dead b p (gt b.ae i);omega
 have e2:=Sk (b:=b) (p:=p) (a:=a) (l:=gy p.aG λi=>dead b p (gt b.ae i)) (by omega) eJ (by omega) Bl;simp only[aq];rw[show aJ (aaG (gy p.aG λi=>dead b p (gt b.ae i),dX b p a)) (0,(dX b p a).1,(dX b p a).2.1,(dX b p a).2.2.1,(dX b p a).2.2.2.1,(dX b p a).2.2.2.2.1,(dX b p a).2.2.2.2.2.1,(dX b p a).2.2.2.2.2.2.1,(dX b p a).2.2.2.2.2.2.2.1,(dX b p a).2.2.2.2.2.2.2.2.1,(dX b p a).2.2.2.2.2.2.2.2.2.1,(dX b p a).2.2.2.2.2.2.2.2.2.2)=_ from e2,U9];rfl
def ax'(hb:fu b)(hp:dt p)(h:bj b p=0):Lk ⟨b,p,[]⟩=aa (b.aB,b.ae,b.aj,b.az,b.bi,b.aZ,(yW b p).aG,(yW b p).aj,(yW b p).aX,(yW b p).aS,(lH b p).aG,(lH b p).aj,(lH b p).aX,(lH b p).aS,xm b p):=by obtain⟨s1,s2,s3,_⟩:=lI h;have eJ:=Bm p.aG λi=>jc p (gt b.ae i);unfold Lk;rw[anw hp h (by simp)];simp only[aq,dX];have e2:=anv (a:=[]++(gy p.aG λi=>jc p (gt b.ae i)).map qS) hb (Z6 (b:=b) hp) (QN h) (by simp only[oV,List.length_map];omega);rw[show(⟨⟨b.aB,b.ae,b.aj,b.az,b.bi,b.aZ⟩,⟨(jv b p).aG,(jv b p).aj,(jv b p).aX,(jv b p).aS⟩,[]++(gy p.aG λi=>jc p (gt b.ae i)).map qS⟩:fF)=⟨b,jv b p,[]++(gy p.aG λi=>jc p (gt b.ae i)).map qS⟩from rfl,e2];simp only[aq,dX];have e3:=follow_eq hb (Z5 (b:=b) hp) (JY h);rw[show zF ⟨b.aB,b.ae,b.aj,b.az,b.bi,b.aZ⟩ ⟨gR (jv b p).aG λi=>dead b (jv b p) (gt b.ae i),(jv b p).aj,(jv b p).aX,(jv b p).aS⟩=_ from e3];simp only[aq,oV];rfl
def ani{q:ax}(hc:∀k,k<b.ae.length->(gt b.ae k).Kind=1->gt q.aG k=gt p.aG k)(k:Nat)(hk:k<=b.ae.length)(f:List Int):gN b q k f=gN b p k f:=by
 induction k with
 |zero=>rfl
 |succ k ih=>
  unfold gN;rw[ih (by omega)];unfold ol;by_cases h1:(gt b.ae k).Kind=1
  ·rw[hc k (by omega) h1]
  ·rw[aL λh=>h1 h.1,aL λh=>h1 h.1]
def av5{q:ax}(hc:∀k,k<b.ae.length->(gt b.ae k).Kind=1->gt q.aG k=gt p.aG k):cr b q=cr b p:=by
 unfold cr;have:∀r f,rounds b q r f=rounds b p r f:=by
  intro r f;induction r with
  |zero=>rfl
  |succ r ih=>unfold rounds;rw[ih,ani hc _ (bx _)]
 exact this _ _
def find_congr{n:Nat}{P Q:Nat->Bool}(h:∀k,k<n->P k=Q k):(bW n).find? P=(bW n).find? Q:=by
 induction n with
 |zero=>rfl
 |succ n ih=>rw[List.range_succ,List.find?_append,List.find?_append,ih λk hk=>h k (by omega)];simp[List.find?_cons,h n (by omega)]
def abX{q:ax}{kind j:Int}(hc:∀k,k<b.ae.length->(gt b.ae k).Kind=kind->(gt b.ae k).B=j->gt q.aG k=gt p.aG k):gj b q kind j=gj b p kind j:=by
 unfold gj;rw[find_congr (P:=mW b q kind j) (Q:=mW b p kind j) λk hk=>by
  unfold mW;cases h1:(gt b.ae k).Kind==kind with
  |false=>rfl
  |true=>
   cases h2:(gt b.ae k).B==j with
   |false=>rfl
   |true=>rw[hc k hk (by simpa using h1) (by simpa using h2)]]
def ax2{q:ax}(hl:q.aj.length=p.aj.length)(hs:∀j,j<p.aj.length->(gt q.aj j).State=(gt p.aj j).State)(hc:∀k,k<b.ae.length->(gt b.ae k).Kind=2->gt q.aG k=gt p.aG k)(j:Int):conn b q j=conn b p j:=by
 unfold conn;rw[hl];by_cases h:0<=j∧j<=(p.aj.length:Int)-1
 ·rw[aH h,aH h,hs j.toNat (by omega),abX λk hk h2 _=>hc k hk h2]
 ·rw[aL h,aL h]
structure mK(b:aw)(p q:ax):Prop where
 len:q.aj.length=p.aj.length
 st:∀j,j<p.aj.length->(gt q.aj j).State=(gt p.aj j).State
 cl:∀k,k<b.ae.length->(gt b.ae k).Kind≠3->gt q.aG k=gt p.aG k
def mK.cr{q:ax}(h:mK b p q):cr b q=cr b p:=av5 λk hk h1=>h.cl k hk (by omega)
def mK.conn{q:ax}(h:mK b p q)(j:Int):conn b q j=conn b p j:=ax2 h.len h.st (λk hk h2=>h.cl k hk (by omega)) j
def mK.QR{q:ax}(h:mK b p q)(f:Nat):(dY b q f).aj=(dY b p f).aj∧(dY b q f).aB=(dY b p f).aB:=by
 unfold dY;refine⟨?_,?_⟩
 ·show bD (gX b q f) _=bD (gX b p f) _;cR 1;rY j;unfold gX;rw[h.cr,h.conn]
 ·show bD (iP b q f) _=bD (iP b p f) _;cR 1;rY j;unfold iP;rw[h.cr]
def mK.ofS{q:ax}(h:mK b p q)(hp:bj b p=0)(hq:bj b q=0)(k:Int):(fQ b q k).1.aj=(fQ b p k).1.aj:=by
 unfold fQ;by_cases c:0<=k∧k<b.aB
 ·rw[aH ⟨hq,c⟩,aH ⟨hp,c⟩];show(eL b q k).aj=(eL b p k).aj;unfold eL;rw[h.cr];exact(h.QR _).1
 ·rw[aL λx=>c x.2,aL λx=>c x.2]
def mK.sC{q:ax}(h:mK b p q)(hp:bj b p=0)(hq:bj b q=0)(k:Int):sC b q k=sC b p k:=by unfold Rx.sC;rw[h.ofS hp hq]
def aoI(h:bj b p=0):mK b (jv b p) (yW b p):=by obtain⟨s1,_⟩:=lI h;refine⟨rfl,λ_ _=>rfl,λk hk h3=>?_⟩;show gt (gR (jv b p).aG _) k=_;rw[qe (by show k<(gR p.aG _).length;rw[kj];omega)];unfold dead;rw[dI h3];simp
def aoH(h:bj b p=0):mK b p (rL b p):=⟨vL,λj hj=>by rw[aes hj],λ_ _ _=>rfl⟩
def mK.trans{q r:ax}(h:mK b p q)(h':mK b q r):mK b p r:=⟨by rw[h'.len,h.len],λj hj=>by rw[h'.st j (by rw[h.len];exact hj),h.st j hj],λk hk h3=>by rw[h'.cl k hk h3,h.cl k hk h3]⟩
end
end Rx
namespace Rx
def wL(b:aw)(c:Int):Int:=(gt b.az c.toNat).kB
def qg(b:aw)(x y:Int):Bool:=al (wL b x<wL b y)
def aqa{b:aw}{x y:Int}(hx:0<=x∧x<(b.az.length:Int))(hy:0<=y∧y<(b.az.length:Int)):∃c,KH x y b=aa c∧al (c<0)=qg b x y:=by
 unfold KH;rw[iL hx.1 hx.2,iL hy.1 hy.2];simp only[aq,VY];refine⟨_,rfl,?_⟩;unfold qg wL;by_cases h1:(gt b.az x.toNat).kB<(gt b.az y.toNat).kB
 ·rw[aH h1,dT h1];rfl
 ·rw[aL h1,dF h1];split<;>rfl
def acj{b:aw}{n:Nat}(hn:n=b.az.length)(Nd:n<=1000):
  ∀(j:Nat) (d:List Int),j<n->Ok n (λx=>0<=x∧x<(n:Int)) d->(∃k,k<=j∧me (F7 0 b) k ((j:Int),d) (inner (qg b) j d))∧Ok n (λx=>0<=x∧x<(n:Int)) (inner (qg b) j d)
 |0,d,hj,h=>by refine⟨⟨0,bx _,.done ?_⟩,h⟩;simp[F7,inner]
 |j+1,d,hj,h=>by
  obtain⟨c,hc,hl⟩:=aqa (b:=b) (by rw[<-hn];exact LI h hj) (by rw[<-hn];exact LI h (j:=j) (by omega));have hlen:=h.1;have e1:W (((j+1:Nat):Int)-1)=(j:Int):=by rw[bZ (by omega) (by omega)];omega
  have i1:idx d ((j+1:Nat):Int)=aa (d.getD (j+1) 0):=Tm (by omega);have i2:idx d (j:Int)=aa (d.getD j 0):=Tm (by omega);have s1:di d ((j+1:Nat):Int) (d.getD j 0)=aa (d.set (j+1) (d.getD j 0)):=jC (by omega) _;have i3:idx (d.set (j+1) (d.getD j 0)) (j:Int)=aa ((d.set (j+1) (d.getD j 0)).getD j 0):=Tm (by simp;omega);have s2:di (d.set (j+1) (d.getD j 0)) (j:Int) (d.getD (j+1) 0)=aa (swapAt d j):=jC (by simp;omega) _;have sH:al (((j+1:Nat):Int)>0)=ab:=v9 (by omega);cases aV:qg b (d.getD (j+1) 0) (d.getD j 0)with
  |true=>obtain⟨⟨k,hk,hr⟩,ho⟩:=acj hn Nd j (swapAt d j) (by omega) (aqn h hj);rw[inner,aH aV];refine⟨⟨k+1,by omega,.more ?_ hr⟩,ho⟩;rw[aV]at hl;simp only[F7,sH,aI,i1,e1,i2,aq,hc,hl,s1,i3,s2]
  |false=>
   have bR:¬(qg b (d.getD (j+1) 0) (d.getD j 0)=ab):=by rw[aV];simp
   rw[inner,aL bR];refine⟨⟨0,by omega,.done ?_⟩,h⟩;rw[aV]at hl;simp only[F7,sH,aI,i1,e1,i2,aq,hc,hl];rfl
def abd{b:aw}{n:Nat}(hn:n=b.az.length)(Nd:n<=1000):
  ∀(m i:Nat) (d:List Int),m+i=n->Ok n (λx=>0<=x∧x<(n:Int)) d->me (CG 0 (n:Int) b) m ((i:Int),d) (outer (qg b) m i d)∧Ok n (λx=>0<=x∧x<(n:Int)) (outer (qg b) m i d)
 |0,i,d,hi,h=>by refine⟨.done ?_,h⟩;have:al ((i:Int)<(n:Int))=ai:=Jq (by omega);simp only[CG,outer,this,aE,aD]
 |m+1,i,d,hi,h=>by obtain⟨⟨k,hk,hr⟩,ho⟩:=acj hn Nd i d (by omega) h;obtain⟨h1,h2⟩:=abd hn Nd m (i+1) (inner (qg b) i d) (by omega) ho;have hd:al ((i:Int)<(n:Int))=ab:=v9 (by omega);rw[outer];refine⟨.more ?_ h1,h2⟩;simp only[CG,hd,aI,oz hr (by omega),aq,ba (show i<1000000000000000000 by omega)]
def kR(b:aw):List Int:=outer (qg b) (b.az.length-1) 1 (kW b.az.length)
def anV{b:aw}(hn:b.az.length<20):J4 (kW b.az.length) b=aa (kR b):=by
 have hl:len (kW b.az.length)=(b.az.length:Int):=by unfold len;rw[D_]
 have TK:∀d,QY (b.az.length:Int) b (0,20,d)=aa (.inr (0,d)):=λd=>by simp only[QY,dF (show ¬(20:Int)<=(b.az.length:Int) by omega),aE,aD]
 have TJ:QX (b.az.length:Int) 20=aa (.inr ()):=by simp only[QX,dF (show ¬(20:Int)<(b.az.length:Int) by omega),aE,aD]
 have hw:W (0+1)=((1:Nat):Int):=by rw[bZ (by omega) (by omega)];rfl
 have ix:aJ (CG 0 (b.az.length:Int) b) (((1:Nat):Int),kW b.az.length)=aa (kR b):=by
  by_cases h1:1<=b.az.length
  ·obtain⟨h2,h3⟩:=abd (b:=b) rfl (by omega) (b.az.length-1) 1 (kW b.az.length) (by omega) (axb _);exact oz h2 (by omega)
  ·have h0:b.az.length=0:=by omega
   have:kR b=kW b.az.length:=by unfold kR;rw[h0];rfl
   rw[this];refine oz (.done ?_) (kF _);simp only[CG,dF (show ¬((1:Nat):Int)<(b.az.length:Int) by omega),aE,aD]
 simp only[J4,QZ,hl,oz (.done (TK _)) (kF _),aq,J2,hw,ix,oz (.done TJ) (kF _)]
def abf(b:aw):(kR b).Pairwise (λx y=>wL b x<wL b y∨wL b x=wL b y∧x<y)∧(kR b).Perm (kW b.az.length):=by
 by_cases h1:1<=b.az.length
 case neg=>
  have h0:b.az.length=0:=by omega
  have e:kR b=[]:=by unfold kR;rw[h0];rfl
  rw[e,h0];exact⟨.nil,.refl _⟩
 have aV:∀x y,qg b x y=ab↔(λc=> -wL b c) y<(λc=> -wL b c) x:=λx y=>by
  unfold qg;rw[X_];try simp only
  omega
 have e:kR b=((kW b.az.length).foldl (λa x=>oC (qg b) x a) []).reverse:=by
  unfold kR;obtain⟨x,xs,hx⟩:∃x xs,kW b.az.length=x::xs:=by
   cases hf:kW b.az.length with
   |nil=>have:=D_ b.az.length;rw[hf]at this;simp at this;omega
   |cons x xs=>exact⟨x,xs,rfl⟩
  have hl:xs.length=b.az.length-1:=by have:=D_ b.az.length;rw[hx]at this;simp at this;omega
  have:=abc (qg b) xs [x];rw[hx,<-hl];exact this
 have h:=aeq aV (kW b.az.length) [] (axa _) (by simp) (by simp);rw[e];refine⟨(List.pairwise_reverse.2 h.1).imp λhb=>?_,(List.reverse_perm _).trans (by simpa using h.2)⟩;unfold Jp at hb;simp only at hb;omega
def aqb{b:aw}{c:Int}:c∈kR b↔0<=c∧c<(b.az.length:Int):=by
 rw[(abf b).2.mem_iff];unfold kW;rw[dE];constructor
 ·rintro⟨k,hk,rfl⟩;have:=eu.1 hk;simp;omega
 ·rintro⟨h0,h1⟩;exact⟨c.toNat,eu.2 (by omega),by simp;omega⟩
def abe(b:aw):(kR b).length=b.az.length:=by rw[(abf b).2.length_eq,D_]
def ap'{b:aw}(hb:fu b)(h:nj b=0):KI b=aa (kR b):=by
 have hl:=(BB.1 h).1.iO;unfold KI;rw[afd hb,h];simp only[aq,mi,aE,aD];have e:aJ (Gm b) (0,[])=aa (kW b.az.length):=by
  have:=dQ (step:=Gm b) (r:=kW b.az.length) (λk=>((k:Int),kW k)) b.az.length (λk hk=>by
   unfold Gm;rw[dT (c:=(k:Int)<len b.az) (by unfold len;omega),cK (by simp[D_];omega),ba (by omega)];simp only[aI,aq];unfold kW;rw[List.range_succ,q7];rfl) (by
   unfold Gm;simp only[bJ,aE,aD]) (by omega)
  simpa[kW]using this
 rw[e];simp only[aq,anV (b:=b) (by omega)]
def qd(b:aw)(x:bu):List Int:=(kR b).filter λc=>decide (c∈x.az)
def ap8{b:aw}{x:bu}(hx:∀c∈x.az,0<=c∧c<(b.az.length:Int)){c:Int}:c∈qd b x↔c∈x.az:=by unfold qd;rw[List.mem_filter,aqb,X_];exact⟨λh=>h.2,λh=>⟨hx c h,h⟩⟩
def ap9(b:aw)(x:bu):(qd b x).length<=b.az.length:=by have:=List.length_filter_le (λc=>decide (c∈x.az)) (kR b);rw[abe]at this;exact this
def S4{x:bu}{c:Int}(hx:Sm x.az):Gl c x=aa (!al (c∈x.az)):=by unfold Gl;rw[contains_eq hx];rfl
def anl{l:List Int}{i:Nat}{x:Int}(h:i<l.length):(l.set i x).take (i+1)=l.take i++[x]:=by
 rw[lm (by simpa using h),gH h,aH rfl];cR 1;refine jZ (by simp) λk hk=>?_;have cV:k<i:=by simp at hk;omega
 rw[fJ (by simp;omega),fJ (by simp;omega)];simp[List.getElem_set];omega
def axN{x:bu}(hx:Sm x.az){l:List Int}(hl:l.length<=1000):Kk l x=aa (l.filter λc=>decide (c∈x.az)):=by
 unfold Kk Q3;have h1:=vm (step:=F_ l x) (λk=>(k:Int)) l.length (λk=> !al (gt l k∈x.az)) (R:=λk=> .inr (k:Int)) (e:= .inl ()) (λk hk hp=>by
  unfold F_;simp only[bb hk,aI,aP hk,aq,S4 hx,hp,aE,aD];rw[ba (by omega)]) (λk hk hp=>by
  unfold F_;simp only[bb hk,aI,aP hk,aq,S4 hx,hp]) (by
  unfold F_;simp only[bJ,aE,aD]) (by omega)
 simp only[show((0:Nat):Int)=0 from rfl]at h1;rw[h1];cases hf:(bW l.length).find? (λk=> !al (gt l k∈x.az))with
 |none=>
  have gG:∀c∈l,decide (c∈x.az)=ab:=λc hc=>by obtain⟨k,hk,rfl⟩:=ou hc;have:=List.find?_eq_none.1 hf k (eu.2 hk);simpa using this
  simp only[aq,bw];rw[FA.2 gG];rfl
 |some s=>
  have hs:=eu.1 (List.mem_of_find?_eq_some hf);simp only[aq,bC];rw[dI (by omega),ba (by omega)];simp only[aE,aD];have DI:∀k,k<s->al (gt l k∈x.az)=ab:=λk hk=>by
   obtain⟨_,Xg,bs,h2,h3⟩:=List.find?_eq_some_iff_append.1 hf;have rF:Xg.length=s:=by
    have h4:(bW l.length)[Xg.length]? =aa s:=by rw[h2];simp
    rw[Jt (by have:=iq List.length h2;simp at this;omega)]at h4
    exact jP h4
   have iw:k∈Xg:=by have h4:(bW l.length)[k]? =aa k:=Jt (by omega);rw[h2,List.getElem?_append_left (by omega)]at h4;exact List.mem_of_getElem? h4
   have:=h3 k iw;simpa using this
  have DE:al (gt l s∈x.az)=ai:=by have:=(List.find?_eq_some_iff_append.1 hf).1;simpa using this
  have w7:Wp (aJ (Kj x) ((s:Int),((s+1:Nat):Int),l)) λr=>∃n:Nat,r.1=(n:Int)∧n<=r.2.length∧r.2.length=l.length∧r.2.take n=l.filter λc=>decide (c∈x.az):=by
   refine dV (l.length-(s+1)) (λt st=>∃n:Nat,st.1=(n:Int)∧st.2.1=((s+1+t:Nat):Int)∧n<s+1+t∧st.2.2.length=l.length∧st.2.2.take n=(l.take (s+1+t)).filter (λc=>decide (c∈x.az))∧∀k,s+1+t<=k->k<l.length->gt st.2.2 k=gt l k) ⟨s,rfl,rfl,by omega,rfl,?_,λ_ _ _=>rfl⟩ (λt st ht hv=>?_) (λst hv=>?_) (by omega)
   ·simp only[Nat.add_zero];rw[lm hs,uK];have:(l.take s).filter (λc=>decide (c∈x.az))=l.take s:=FA.2 λc hc=>by
     obtain⟨k,hk,rfl⟩:=ou hc;rw[oX]at hk;have:gt (l.take s) k=gt l k:=by rw[fJ (by rw[oX];exact hk),fJ (by omega)];simp
     rw[this];exact DI k (by omega)
    rw[this];simp[DE]
   ·obtain⟨m,z,c⟩:=st;obtain⟨n,rfl,rfl,hn,qx,wW,AJ⟩:=hv;simp only at qx wW AJ;have hk:s+1+t<l.length:=by omega
    have hgk:=AJ (s+1+t) (bx _) hk;unfold Kj;simp only[bb (l:=c) (k:=s+1+t) (by omega),aI,aP (l:=c) (k:=s+1+t) (by omega),hgk,aq,S4 hx,Bool.not_not];rw[ba (k:=s+1+t) (by omega)];cases hp:al (gt l (s+1+t)∈x.az)with
    |true=>
     simp only[aI,aP (l:=c) (k:=n) (by omega),aq,jC (xs:=c) (j:=n) (by omega)];rw[ba (by omega)];refine au.2 ⟨n+1,rfl,rfl,by omega,by simp[qx],?_,λk h1 h2=>?_⟩
     ·simp only;rw[anl (by omega),wW,show s+1+(t+1)=(s+1+t)+1 by omega,lm hk,uK];simp[hp]
     ·simp only;rw[gH (by omega),aL (by omega)];exact AJ k (by omega) h2
    |false=>
     simp only[aE,aD,aq];refine au.2 ⟨n,rfl,rfl,by omega,qx,?_,λk h1 h2=>AJ k (by omega) h2⟩;try simp only
     rw[wW,show s+1+(t+1)=(s+1+t)+1 by omega,lm hk,uK];simp[hp]
   ·obtain⟨m,z,c⟩:=st;obtain⟨n,rfl,rfl,hn,qx,wW,AJ⟩:=hv;simp only at qx wW;unfold Kj;rw[show s+1+(l.length-(s+1))=c.length by omega];simp only[bJ,aE,aD];refine au.2 ⟨n,rfl,(by show n<=c.length;omega),qx,?_⟩;try simp only
    rw[wW,show s+1+(l.length-(s+1))=l.length by omega,oU]
  obtain⟨⟨m,c⟩,e,n,rfl,hn,qx,wW⟩:=w7;simp only at hn qx wW;rw[e];have e1:dK c (n:Int) (len c)=aa (c.drop n):=Rp hn;have c_:(rO 0 c (n:Int)).length=c.length:=by unfold rO;simp;omega
  have e2:dK (rO 0 c (n:Int)) 0 (n:Int)=aa ((rO 0 c (n:Int)).take n):=CS (by omega);have e3:(rO 0 c (n:Int)).take n=c.take n:=by unfold rO;rw[List.take_append_of_le_length (by simp;omega),List.take_take,iH,Nat.min_self]
  simp only[aq,e1,e2,e3,wW]
