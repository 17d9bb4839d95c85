import Derived.Test.YtmngjhagbjgmfaaGreatMa
set_option linter.all false
open Bool renaming false->ai,false_eq_true->aD,true->ab
open Decidable renaming decide->ak
open Int renaming eq_ofNat_of_zero_le->nr,toNat_natCast->iE
open List renaming filter_append->uG,filter_eq_self->Fw,getElem?_range->Jp,length_take->oU,map_append->qW,mem_cons->cr,mem_cons_of_mem->eV,mem_cons_self->nV,mem_map->dC,mem_of_mem_take->uE,mem_range->er,nil_append->oS,pairwise_cons->qV,range->bV,take_length->oR
open Nat renaming le_refl->bw,zero_le->kC
open Option renaming bind_some->al,some->aa
open Option.some renaming inj->jM
open Sum renaming elim_inl->bu,elim_inr->bB
noncomputable section
namespace Go.Proofs.YtmngjhagbjgmfaaGreat
open Go Go.RowKit Dp
namespace Rx
def am9(a:Int):(a% 3600=if a.tmod 3600<0 then a.tmod 3600+3600 else a.tmod 3600)∧-3600<a.tmod 3600∧a.tmod 3600<3600:=by
 by_cases ha:0<=a
 ·rw[Int.tmod_eq_emod_of_nonneg ha,aK (by omega)];exact⟨rfl,by omega,by omega⟩
 ·have hn:a.tmod 3600= -((-a)% 3600):=by
   rw[<-Int.tmod_eq_emod_of_nonneg (show 0<= -a by omega),Int.neg_tmod,Int.neg_neg]
  rw[hn];refine⟨?_,by omega,by omega⟩;split<;>omega
def Ey{p:aw}(h:dp p):ra p=aa (p.aF,p.aj,p.aW,p.aR):=by obtain⟨h1,h2,h3,h4⟩:=h;unfold Sm at*;unfold ra Ga Gb uU zF;rw[cJ (by simp;omega),cJ (by simp;omega),cJ (by simp;omega),cJ (by simp;omega)];rfl
section
variable {b:au} {p:aw}
def dif(a c:Int):Int:=if(c% 3600-a% 3600)% 3600>1800 then(c% 3600-a% 3600)% 3600-3600 else(c% 3600-a% 3600)% 3600
def agr(b:au)(x y:bn):Prop:=((0<=x.aY∧0<=y.aY)∧x.aY<=6000∧y.aY<=6000)∧(x.aY-y.aY<=b.aY∧y.aY-x.aY<=b.aY)∧dif x.bh y.bh<=b.bh∧-dif x.bh y.bh<=b.bh
instance(b:au)(x y:bn):Decidable (agr b x y):=by unfold agr;exact inferInstance
def SmR(x:bn):Prop:=(-100000000000000000<=x.aY∧x.aY<=100000000000000000)∧-100000000000000000<=x.bh∧x.bh<=100000000000000000
def wK(x y:bn):bn:={x with aY:=y.aY,bh:=y.bh}
def kJ(S:List bn)(y:bn):List Int->List bn
 |[]=>S
 |k::l=>kJ (S.set k.toNat (wK (gt S k.toNat) y)) y l
def Gn(y:bn):∀(l:List Int) (S:List bn),(kJ S y l).length=S.length
 |[],_=>rfl
 |k::l,S=>by unfold kJ;rw[Gn y l];simp
def RA(y:bn)(k:Int):∀(l:List Int) (S:List bn),kJ S y (l++[k])=(kJ S y l).set k.toNat (wK (gt (kJ S y l) k.toNat) y)
 |[],_=>rfl
 |j::l,S=>by show kJ _ y (l++[k])=_;rw[RA y k l];rfl
def aou{l:List Int}{y:bn}(hl:Sm l)(h:∀k∈l,0<=k∧k<p.aj.length):FR p l y=aa (kJ p.aj y l):=by
 have hr:=dO (step:=FQ l y) (λk=>((k:Int),kJ p.aj y (l.take k))) l.length (r:=kJ p.aj y l) (λk hk=>by
  obtain⟨k0,k1⟩:=h _ (du hk);obtain⟨j,hj⟩:=nr k0;have hj:gt l k=(j:Int):=hj;have dh:j<(kJ p.aj y (l.take k)).length:=by rw[Gn];omega
  have vz:j<((kJ p.aj y (l.take k)).set j {gt (kJ p.aj y (l.take k)) j with aY:=y.aY}).length:=by simpa using dh
  simp only[FQ,ba hk,aH,aO hk,al,Option.bind_fun_some,bu,bB,bR,hj,aO dh,jy dh,aO vz,jy vz,a_ (eN hl hk),gE dh,lh hk,RA,iE,List.set_set];rfl) (by simp only[FQ,bI,aD,aC,oR])
 unfold FR;have TL:aI (FQ l y) ((0:Int),p.aj)=aa (kJ p.aj y l):=hr;rw[TL];rfl
end
end Rx
namespace Rx
def RB(y:bn):∀(l:List Int) (S:List bn) (j:Nat),(∀k∈l,0<=k∧k<S.length)->gt (kJ S y l) j=if(j:Int)∈l then wK (gt S j) y else gt S j
 |[],S,j,_=>by simp[kJ]
 |k::l,S,j,h=>by
  obtain⟨k0,k1⟩:=h k nV;have ih:=RB y l (S.set k.toNat (wK (gt S k.toNat) y)) j (λq hq=>by rw[List.length_set];exact h q (eV _ hq));show gt (kJ (S.set k.toNat (wK (gt S k.toNat) y)) y l) j=_;rw[ih,gE (by omega)];by_cases l7:j=k.toNat
  ·have e:(j:Int)=k:=by omega
   rw[aG l7,aG (show(j:Int)∈k::l by rw[e];exact nV)];by_cases hl:(j:Int)∈l
   ·rw[aG hl,<-l7];rfl
   ·rw[aK hl,<-l7]
  ·have e:(j:Int)≠k:=by omega
   rw[aK l7];by_cases hl:(j:Int)∈l
   ·rw[aG hl,aG (eV _ hl)]
   ·rw[aK hl,aK (λhh=>by rcases cr.1 hh with h|h;exact e h;exact hl h)]
section
variable {b:au} {p:aw}
def lp(b:au)(p:aw)(k:Nat):Nat:=(gt (eJ b p (conn b p (k:Int)).1).aj 0).toNat
def ko(b:au)(p:aw)(k:Nat):bn:=if(conn b p (k:Int)).2=ab then wK (gt p.aj k) (gt p.aj (lp b p k))else gt p.aj k
def lD(b:au)(p:aw):List bn:=(bV p.aj.length).map (ko b p)
def rH(b:au)(p:aw):aw:=⟨p.aF,lD b p,p.aW,p.aR⟩
def vH:(lD b p).length=p.aj.length:=by simp[lD]
def yI{k:Nat}(h:k<p.aj.length):gt (lD b p) k=ko b p k:=by unfold lD;rw[lC _ h]
def Ar{x:bt}(hx:x∈bj b p){s:Int}(hs:s∈x.aj):∃j:Nat,s=(j:Int)∧j<b.aj.length∧(conn b p (j:Int)).2=ab∧x=eJ b p (conn b p (j:Int)).1:=by obtain⟨f,hf,rfl,_⟩:=Af.1 hx;obtain⟨j,h1,h2,h3,h4⟩:=LU.1 hs;refine⟨j,h4,h1,h2,?_⟩;unfold eJ;rw[h3,iE]
def QO(hb:cD b){j:Nat}(hj:j<b.aj.length)(hc:(conn b p (j:Int)).2=ab):eJ b p (conn b p (j:Int)).1∈bj b p∧(j:Int)∈(eJ b p (conn b p (j:Int)).1).aj:=by have sL:=VS hb hc;refine⟨(ab_ hb sL.1 sL.2).1,?_⟩;unfold eJ;have:=(Bf (p:=p) hb (show(conn b p (j:Int)).1.toNat<b.aA.toNat by omega)).1;exact LU.2 ⟨j,hj,hc,by omega,rfl⟩
def abY(hb:cD b){j:Nat}(hj:j<b.aj.length)(hc:(conn b p (j:Int)).2=ab):
  gt (eJ b p (conn b p (j:Int)).1).aj 0=(lp b p j:Int)∧lp b p j<b.aj.length∧(conn b p (lp b p j:Int)).2=ab∧eJ b p (conn b p (lp b p j:Int)).1=eJ b p (conn b p (j:Int)).1∧lp b p (lp b p j)=lp b p j:=by
 obtain⟨h1,h2⟩:=QO hb hj hc
 have hlen:0<(eJ b p (conn b p (j:Int)).1).aj.length:=List.length_pos_of_mem h2
 obtain⟨i,e1,e2,e3,e4⟩:=Ar h1 (du hlen)
 have e5:lp b p j=i:=by unfold lp;rw[e1,iE]
 rw[e5]
 refine⟨e1,e2,e3,e4.symm,?_⟩
 unfold lp
 rw[<-e4,e1,iE]
def awe(hb:cD b)(hl:gj b)(Dz:p.aj.length=b.aj.length):aI (JS p (p.aF,p.aj,p.aW,p.aR) (bj b p)) ((0:Int),p.aj)=aa (lD b p):=by
 have pC:=hl.jd;have mx:=hl.src;have lA:=G1 (b:=b) (p:=p);refine Ql.1 ?_;refine dS (bj b p).length (λk s=>∃out,s=((k:Int),out)∧out.length=p.aj.length∧∀j,j<p.aj.length->gt out j=if ∃q,q<k∧(j:Int)∈(gt (bj b p) q).aj then ko b p j else gt p.aj j) ⟨_,rfl,rfl,λj hj=>by rw[aK (by rintro⟨q,hq,_⟩;omega)]⟩ ?_ ?_
 ·rintro k s hk ⟨out,rfl,h1,h2⟩;have hx:=du hk;have yo:∀s∈(gt (bj b p) k).aj,0<=s∧s<(p.aj.length:Int):=λs hs=>by obtain⟨j,rfl,h,_⟩:=Ar hx hs;omega
  unfold JS;simp only[ba hk,aH,aO hk,al];have px:∀j:Nat,(∃q,q<k+1∧(j:Int)∈(gt (bj b p) q).aj)↔(∃q,q<k∧(j:Int)∈(gt (bj b p) q).aj)∨(j:Int)∈(gt (bj b p) k).aj:=λj=>by
   constructor
   ·rintro⟨q,hq,h⟩;by_cases TM:q=k
    ·subst TM;exact .inr h
    ·exact .inl ⟨q,by omega,h⟩
   ·rintro(⟨q,hq,h⟩|h)
    ·exact⟨q,by omega,h⟩
    ·exact⟨k,by omega,h⟩
  by_cases h0:(gt (bj b p) k).aj.length=0
  ·have e1:ak (len (gt (bj b p) k).aj>0)=ai:=dF (by unfold len;omega);simp only[e1,aD,aC,al];refine ar.2 ⟨out,by rw[a_ (by omega)],h1,λj hj=>?_⟩;rw[h2 j hj];have e2:(gt (bj b p) k).aj=[]:=List.length_eq_zero_iff.1 h0;have hi:(∃q,q<k+1∧(j:Int)∈(gt (bj b p) q).aj)↔(∃q,q<k∧(j:Int)∈(gt (bj b p) q).aj):=by rw[px,e2];simp
   by_cases hh:∃q,q<k∧(j:Int)∈(gt (bj b p) q).aj
   ·rw[aG hh,aG (hi.2 hh)]
   ·rw[aK hh,aK (λh=>hh (hi.1 h))]
  ·have hlen:0<(gt (bj b p) k).aj.length:=by omega
   have e1:ak (len (gt (bj b p) k).aj>0)=ab:=dT (by unfold len;omega);obtain⟨i,f1,f2,f3,f4⟩:=Ar hx (du hlen);have e0:idx (gt (bj b p) k).aj 0=aa (i:Int):=by have:=aO hlen;rw[f1]at this;exact this
   have fF:Sm (gt (bj b p) k).aj:=by obtain⟨f,_,e,_⟩:=Af.1 hx;rw[e];have:=(Du (b:=b) (p:=p) f).2.1;unfold Sm;omega
   have yp:=aou (p:=⟨p.aF,out,p.aW,p.aR⟩) (y:=gt p.aj i) fF (λs hs=>by have:=yo s hs;simp only;omega);simp only[e1,aH,e0,aO (show i<p.aj.length by omega),al,yp];refine ar.2 ⟨_,by rw[a_ (by omega)],by rw[Gn];exact h1,λj hj=>?_⟩;rw[RB _ _ _ _ (λs hs=>by have:=yo s hs;omega),h2 j hj];by_cases uc:(j:Int)∈(gt (bj b p) k).aj
   ·rw[aG uc,aG ((px j).2 (.inr uc))];obtain⟨j',g1,g2,g3,g4⟩:=Ar hx uc;have:j'=j:=by omega
    subst this;have Hu:lp b p j'=i:=by unfold lp;rw[<-g4,f1,iE]
    have hf:ko b p j'=wK (gt p.aj j') (gt p.aj i):=by unfold ko;rw[aG g3,Hu]
    rw[hf];split<;>rfl
   ·rw[aK uc];by_cases hh:∃q,q<k∧(j:Int)∈(gt (bj b p) q).aj
    ·rw[aG hh,aG ((px j).2 (.inl hh))]
    ·rw[aK hh,aK (λh=>((px j).1 h).elim hh uc)]
 ·rintro s ⟨out,rfl,h1,h2⟩;unfold JS;simp only[bI,aD,aC];refine ar.2 ?_;have:out=lD b p:=by
   apply jW
   ·rw[vH,h1]
   ·intro j hj;rw[h2 j (by omega),yI (by omega)];by_cases hc:(conn b p (j:Int)).2=ab
    ·obtain⟨g1,g2⟩:=QO hb (show j<b.aj.length by omega) hc;obtain⟨q,hq,e⟩:=om g1;rw[aG ⟨q,hq,by rw[e];exact g2⟩]
    ·have hf:ko b p j=gt p.aj j:=by unfold ko;rw[aK hc]
     rw[hf];split<;>rfl
  rw[this]
def follow_eq(hb:fp b)(hp:dp p)(h:bi b p=0):zB b p=aa (0,p.aF,lD b p,p.aW,p.aR):=by
 obtain⟨⟨hl,hg⟩,⟨s1,s2,s3⟩,_⟩:=ff.1 h;unfold zB;have e:(bi b p !=0)=ai:=by rw[h];rfl
 simp only[xF hb hp,al,e,aD,aC,Ey hp,S6 hb hp h,awe hg.1 hl s2]
def VR{q:aw}(hc:q.aF=p.aF)(hl:q.aj.length=p.aj.length)(hs:∀j,j<p.aj.length->(gt q.aj j).State=(gt p.aj j).State)(j:Int):conn b q j=conn b p j:=by
 have AY:gb b q 2 j=gb b p 2 j:=by unfold gb mT;rw[hc]
 unfold conn;rw[hl,AY];by_cases h:0<=j∧j<=(p.aj.length:Int)-1
 ·rw[aG h,aG h,hs j.toNat (by omega)]
 ·rw[aK h,aK h]
def anf{q:aw}(hc:q.aF=p.aF)(k:Nat)(f:List Int):gK b q k f=gK b p k f:=by
 induction k with
 |zero=>rfl
 |succ k ih=>unfold gK;rw[ih];unfold oh;rw[hc]
def Nd{q:aw}(hc:q.aF=p.aF):cq b q=cq b p:=by
 unfold cq;generalize own b.aA.toNat=f;induction b.aA.toNat with
 |zero=>rfl
 |succ r ih=>unfold rounds;rw[ih,anf hc]
def arD{q:aw}(hc:q.aF=p.aF)(kind j:Int):gb b q kind j=gb b p kind j:=by unfold gb mT;rw[hc]
def arZ{q:aw}(hc:q.aF=p.aF)(hl:q.aj.length=p.aj.length)(hs:∀j,j<p.aj.length->(gt q.aj j).State=(gt p.aj j).State)(f:Nat):dW b q f=dW b p f:=by
 unfold dW;have e1:iM b q f=iM b p f:=by funext i;unfold iM;rw[Nd hc]
 have e2:gU b q f=gU b p f:=by funext i;unfold gU;rw[Nd hc,VR hc hl hs]
 have e3:gZ b q f=gZ b p f:=by funext i;unfold gZ;rw[Nd hc,arD hc]
 rw[e1,e2,e3]
def ar3{q:aw}(hc:q.aF=p.aF)(hl:q.aj.length=p.aj.length)(hs:∀j,j<p.aj.length->(gt q.aj j).State=(gt p.aj j).State)(k:Int):eJ b q k=eJ b p k:=by unfold eJ;rw[arZ hc hl hs,Nd hc]
def arJ{q:aw}(hc:q.aF=p.aF)(hl:q.aj.length=p.aj.length)(hs:∀j,j<p.aj.length->(gt q.aj j).State=(gt p.aj j).State)(k:Nat):lp b q k=lp b p k:=by unfold lp;rw[VR hc hl hs,ar3 hc hl hs]
def ZI{q:aw}(h:bi b p=0)(hc:q.aF=p.aF)(hl:q.aj.length=p.aj.length)(sF:q.aW=p.aW)(nM:q.aR=p.aR)(hr:∀k,k<q.aj.length->gR (gt q.aj k)):bi b q=0:=by
 obtain⟨h1,⟨s1,s2,s3⟩,g1,g2,g3⟩:=ff.1 h;have auN:∀j n,eR b q j n=eR b p j n:=λj n=>Ir λi _ _ _=>by rw[hc]
 refine ff.2 ⟨h1,⟨by rw[hc];exact s1,by rw[hl];exact s2,by rw[sF];exact s3⟩,by rw[nM];exact g1,hr,λk hk=>?_⟩;have:=g3 k (by rw[<-sF];exact hk);unfold uA at this⊢;rw[sF,auN];exact this
def awg(j:Nat):(ko b p j).State=(gt p.aj j).State:=by unfold ko;split<;>rfl
def aeo{j:Nat}(hj:j<p.aj.length):(gt (rH b p).aj j).State=(gt p.aj j).State:=by show(gt (lD b p) j).State=_;rw[yI hj,awg]
def aoQ{x y:bn}(hx:gR x)(hy:gR y):gR (wK x y):=⟨hx.1,hx.2.1,hy.2.2.1,hy.2.2.2⟩
def ZJ(h:bi b p=0):bi b (rH b p)=0:=by
 obtain⟨⟨hl,hg⟩,⟨s1,s2,s3⟩,g1,g2,g3⟩:=ff.1 h;refine ZI h rfl vH rfl rfl λk hk=>?_;have cT:k<p.aj.length:=by rw[<-vH (b:=b)];exact hk
 show gR (gt (lD b p) k);rw[yI cT];unfold ko;split
 ·rename_i hc;obtain⟨_,e,_⟩:=abY hg.1 (show k<b.aj.length by omega) hc;exact aoQ (g2 k cT) (g2 _ (by omega))
 ·exact g2 k cT
def aen(h:bi b p=0):lD b (rH b p)=lD b p:=by
 obtain⟨⟨hl,hg⟩,⟨s1,s2,s3⟩,g1,g2,g3⟩:=ff.1 h;have bU:∀j,j<p.aj.length->(gt (rH b p).aj j).State=(gt p.aj j).State:=λj hj=>aeo hj;have hlen:(rH b p).aj.length=p.aj.length:=vH;apply jW
 ·rw[vH,vH,hlen]
 ·intro k hk;rw[vH,hlen]at hk;rw[yI (by omega),yI hk];have e1:gt (rH b p).aj k=ko b p k:=yI hk;unfold ko at e1⊢;rw[VR (p:=p) (q:=rH b p) rfl hlen bU,arJ (p:=p) (q:=rH b p) rfl hlen bU];by_cases hc:(conn b p (k:Int)).2=ab
  ·rw[aG hc]at e1⊢;obtain⟨_,e2,e3,_,e5⟩:=abY hg.1 (show k<b.aj.length by omega) hc;have e6:gt (rH b p).aj (lp b p k)=ko b p (lp b p k):=yI (by omega);unfold ko at e6;rw[aG e3,e5]at e6;rw[aG hc,e1,e6];rfl
  ·rw[aK hc]at e1⊢;rw[aK hc];exact e1
end
end Rx
namespace Rx
open Classical
def aap(x y:bn):(x.State==y.State&&(x.gG==y.gG&&(x.aY==y.aY&&x.bh==y.bh)))=ab↔x=y:=by obtain⟨a,b,c,d⟩:=x;obtain⟨a',b',c',d'⟩:=y;simp
def aa6(x y:Part):(x.Kind==y.Kind&&x.Number==y.Number)=ab↔x=y:=by obtain⟨a,b⟩:=x;obtain⟨a',b'⟩:=y;simp
section
variable {b:au} {p:aw}
end
def ZX{b:au}{p:aw}(h:dp p):dp (rH b p):=⟨h.1,by show Sm (lD b p);unfold Sm;rw[vH];exact h.2.1,h.2.2.1,h.2.2.2⟩
end Rx
namespace Rx
def swapAt(d:List Int)(j:Nat):List Int:=(d.set (j+1) (d.getD j 0)).set j (d.getD (j+1) 0)
def inner(lt:Int->Int->Bool):Nat->List Int->List Int
 |0,d=>d
 |j+1,d=>if lt (d.getD (j+1) 0) (d.getD j 0)=ab then inner lt j (swapAt d j)else d
def outer(lt:Int->Int->Bool):Nat->Nat->List Int->List Int
 |0,_,d=>d
 |m+1,i,d=>outer lt m (i+1) (inner lt i d)
def Ok(n:Nat)(p:Int->Prop)(d:List Int):Prop:=d.length=n∧∀x∈d,p x
def LD{n:Nat}{p:Int->Prop}{d:List Int}(h:Ok n p d){j:Nat}(hj:j<n):p (d.getD j 0):=by
 have hl:=h.1;have:d.getD j 0=d[j]:=by simp[List.getD,hl,hj]
 rw[this];exact h.2 _ (List.getElem_mem _)
def aqj{n:Nat}{p:Int->Prop}{d:List Int}(h:Ok n p d){j:Nat}(hj:j+1<n):Ok n p (swapAt d j):=by
 refine⟨by simp[swapAt,h.1],λx hx=>?_⟩;unfold swapAt at hx;rcases List.mem_or_eq_of_mem_set hx with hx|rfl
 ·rcases List.mem_or_eq_of_mem_set hx with hx|rfl
  ·exact h.2 x hx
  ·exact LD h (by omega)
 ·exact LD h hj
def o8(r:List Int):Int:=r.foldr (·+·) 0
def rest(total:Int)(r:List Int)(s:Int)(i:Int):Int:=(total*r.getD i.toNat 0)% s
def kT(n:Nat):List Int:=(bV n).map Int.ofNat
def D6(n:Nat):(kT n).length=n:=by simp[kT]
def anu{l:List Int}{B:Int}(h:∀x∈l,0<=x∧x<=B):0<=o8 l∧o8 l<=B*l.length:=by
 induction l with
 |nil=>simp[o8]
 |cons x l ih=>
  have h1:=ih λy hy=>h y (eV _ hy);have h2:=h x nV;have:o8 (x::l)=x+o8 l:=rfl;rw[this];have e:B*((x::l).length:Int)=B*l.length+B:=by simp[Int.mul_add]
  rw[e];omega
def aw9(n:Nat):Ok n (λx=>0<=x∧x<n) (kT n):=by refine⟨D6 n,λx hx=>?_⟩;obtain⟨k,hk,rfl⟩:=dC.1 hx;have:=er.1 hk;exact⟨Int.natCast_nonneg k,by simpa using this⟩
section
variable {r:List Int} {total s:Int}
def Ti{d:List Int}{j:Nat}(h:j<d.length):idx d (j:Int)=aa (d.getD j 0):=aO h
end
def oz(lt:Int->Int->Bool)(x:Int):List Int->List Int
 |[]=>[x]
 |y::l=>if lt x y=ab then y::oz lt x l else x::y::l
def ace(lt:Int->Int->Bool)(x:Int):∀l:List Int,(oz lt x l).length=l.length+1
 |[]=>rfl
 |y::l=>by
  unfold oz;split
  ·simp[ace lt x l]
  ·rfl
def Mm(lt:Int->Int->Bool)(x:Int):∀l:List Int,(oz lt x l).Perm (x::l)
 |[]=>List.Perm.refl _
 |y::l=>by
  unfold oz;split
  ·exact((Mm lt x l).cons y).trans (List.Perm.swap x y l)
  ·exact List.Perm.refl _
def av5(l m:List Int)(a:Int):(l++a::m).getD l.length 0=a:=by simp[List.getD]
def acg(lt:Int->Int->Bool)(x:Int):∀(l post:List Int),inner lt l.length (l.reverse++x::post)=(oz lt x l).reverse++post
 |[],post=>rfl
 |y::l,post=>by
  have hl:l.reverse.length=l.length:=List.length_reverse;have e0:(y::l).reverse++x::post=l.reverse++y::x::post:=by simp
  have e1:(l.reverse++y::x::post).getD l.length 0=y:=by rw[<-hl];exact av5 _ _ _
  have e2:(l.reverse++y::x::post).getD (l.length+1) 0=x:=by simp
  rw[e0];show inner lt (l.length+1) _=_;rw[inner,e1,e2,oz];split
  ·rename_i h;have e3:swapAt (l.reverse++y::x::post) l.length=l.reverse++x::y::post:=by
    unfold swapAt;rw[e1,e2,List.set_append_right _ _ (by omega),hl];have:l.length+1-l.length=1:=by omega
    rw[this,List.set_append_right _ _ (by omega),hl,Nat.sub_self];rfl
   rw[e3,acg lt x l (y::post)];simp
  ·simp
def aa_(lt:Int->Int->Bool):∀(xs l:List Int),outer lt xs.length l.length (l.reverse++xs)=(xs.foldl (λa x=>oz lt x a) l).reverse
 |[],l=>by simp[outer]
 |x::xs,l=>by show outer lt (xs.length+1) l.length _=_;rw[outer,acg lt x l xs];have:=aa_ lt xs (oz lt x l);rw[ace]at this;rw[this];rfl
def Jk(f:Int->Int)(a b:Int):Prop:=f a<f b∨(f a=f b∧b<a)
def acd{lt:Int->Int->Bool}{f:Int->Int}(aU:∀x y,lt x y=ab↔f y<f x){x:Int}:∀{l:List Int},(∀y∈l,y<x)->l.Pairwise (Jk f)->(oz lt x l).Pairwise (Jk f)
 |[],_,_=>by simp[oz]
 |y::l,hx,h=>by
  have h':=qV.1 h;unfold oz;split
  ·rename_i hh;have hf:=(aU x y).1 hh;refine qV.2 ⟨λz hz=>?_,acd aU (λz hz=>hx z (eV _ hz)) h'.2⟩;have oA:=(Mm lt x l).mem_iff.1 hz;rcases cr.1 oA with rfl|oA
   ·exact .inl hf
   ·exact h'.1 z oA
  ·rename_i hh;have hf:f x<=f y:=by apply Int.not_lt.1;intro h2;exact hh ((aU x y).2 h2)
   refine qV.2 ⟨λz hz=>?_,h⟩;have hzx:=hx z hz;have Mp:f y<=f z:=by
    rcases cr.1 hz with rfl|hz
    ·exact Int.le_refl _
    ·rcases h'.1 z hz with h3|h3<;>omega
   rcases Int.lt_or_le (f x) (f z)with h4|h4
   ·exact .inl h4
   ·exact .inr ⟨by omega,hzx⟩
def aem{lt:Int->Int->Bool}{f:Int->Int}(aU:∀x y,lt x y=ab↔f y<f x):∀(xs l:List Int),xs.Pairwise (·<·)->(∀y∈l,∀x∈xs,y<x)->l.Pairwise (Jk f)->
  (xs.foldl (λa x=>oz lt x a) l).Pairwise (Jk f)∧(xs.foldl (λa x=>oz lt x a) l).Perm (xs++l)
 |[],l,_,_,h=>⟨h,List.Perm.refl _⟩
 |x::xs,l,hp,hl,h=>by
  have qj:=qV.1 hp;have h1:=acd aU (x:=x) (l:=l) (λy hy=>hl y hy x nV) h;have ih:=aem aU xs (oz lt x l) qj.2 (λy hy z hz=>by
   have gC:=(Mm lt x l).mem_iff.1 hy;rcases cr.1 gC with rfl|gC
   ·exact qj.1 z hz
   ·exact hl y gC z (eV _ hz)) h1
  refine⟨ih.1,ih.2.trans ?_⟩;exact((Mm lt x l).append_left xs).trans List.perm_middle
def aw8(n:Nat):(kT n).Pairwise (·<·):=by unfold kT;rw[List.pairwise_map];exact List.pairwise_lt_range.imp λh=>by simpa using h
def anv(a b:List Int):o8 (a++b)=o8 a+o8 b:=by
 induction a with
 |nil=>simp[o8]
 |cons x a ih=>show x+o8 (a++b)=x+o8 a+o8 b;rw[ih];omega
section
variable {r:List Int} {total:Int}
end
end Rx
namespace Rx
section
variable {b:au} {p:aw}
def ny(f:Nat->Int)(l:List Int):Int:=o8 (l.map λk=>f k.toNat)
def ZH(f:Nat->Int)(l:List Int)(k:Int):ny f (l++[k])=ny f l+f k.toNat:=by unfold ny;rw[qW,anv];simp[o8]
def JT{f:Nat->Int}{l:List Int}{B:Int}(h:∀k∈l,0<=f k.toNat∧f k.toNat<=B):0<=ny f l∧ny f l<=B*l.length:=by
 have:=anu (l:=l.map λk=>f k.toNat) (B:=B) (λx hx=>by obtain⟨k,hk,rfl⟩:=dC.1 hx;exact h k hk)
 simpa[ny]using this
def Me(p:aw)(x:bt):Int:=if x.aj=[]then 0 else ny (gt p.aW) x.ay
def xS(b:au)(x:bt):Int:=ny (λk=>(gt b.aj k).ig) x.aj
def abi(hg:cD b)(k:Int):(∀c∈(fO b p k).1.ay,0<=c∧c<b.ay.length)∧(∀c∈(fO b p k).1.aj,0<=c∧c<b.aj.length)∧(fO b p k).1.ay.length<=b.ay.length∧(fO b p k).1.aj.length<=b.aj.length:=by
 unfold fO;split
 ·have h:=Du (b:=b) (p:=p) (gt (cq b p) k.toNat).toNat;refine⟨λc hc=>?_,λc hc=>?_,h.2.2,h.2.1⟩
  ·obtain⟨j,hj,_,_,e⟩:=aby.1 hc;omega
  ·obtain⟨j,hj,_,_,e⟩:=LU.1 hc;omega
 ·exact⟨λc hc=>(by cases hc),λc hc=>(by cases hc),kC _,kC _⟩
def Mf(h:bi b p=0){k:Nat}(hk:k<b.ay.length):0<=gt p.aW k∧gt p.aW k<=50000:=by obtain⟨⟨hl,hg⟩,⟨s1,s2,s3⟩,g1,g2,g3⟩:=ff.1 h;have h1:=(g3 k (by omega)).1;have h2:=(hg.2.2.2.2 k hk).2.1;omega
def RY(h:bi b p=0){k:Nat}(hk:k<b.aj.length):1<=(gt b.aj k).ig∧(gt b.aj k).ig<=50000:=by obtain⟨⟨hl,hg⟩,_⟩:=ff.1 h;exact(hg.2.2.2.1 k hk).1
def LJ(h:bi b p≠0)(k:Int):(fO b p k).1=⟨[],[],[]⟩:=by unfold fO;rw[aK (λhn=>h hn.1)]
def ark(hb:fp b)(hp:dp p)(k:Int):I1 b p k=aa (Me p (fO b p k).1):=by
 by_cases h:bi b p=0
 case neg=>
  unfold I1;rw[of_eq hb hp];have e:pg b p k=([],[],[],(fO b p k).2):=by unfold pg;rw[LJ h]
  rw[e,LJ h];rfl
 obtain⟨⟨hl,hg⟩,⟨s1,s2,s3⟩,_⟩:=ff.1 h;obtain⟨h1,h2,h3,h4⟩:=abi (p:=p) hg.1 k;have h8:=hl.iL;generalize hx:(fO b p k).1=x at*;have yw:=dO (step:=EV p (pg b p k)) (λi=>(if x.aj=[]then 0 else ny (gt p.aW) (x.ay.take i),(i:Int))) x.ay.length (r:=Me p x) (λi hi=>by
  obtain⟨c0,c1⟩:=h1 _ (du hi);obtain⟨c,ec⟩:=nr c0;have ec:gt x.ay i=(c:Int):=ec;have hc:c<p.aW.length:=by omega
  have e1:(pg b p k).2.2.1=x.ay:=by rw[<-hx];rfl
  have e2:(pg b p k).2.1=x.aj:=by rw[<-hx];rfl
  have sL:=JT (f:=gt p.aW) (l:=x.ay.take i) (B:=50000) (λc hc=>by have:=h1 c (uE hc);exact Mf h (by omega))
  have hlen:(x.ay.take i).length<=16:=by simp;omega
  have HN:=Mf h (k:=c) (by omega);by_cases hs:x.aj=[]
  ·simp only[EV,e1,e2,hs,ba hi,aH,aO hi,ec,al,dF (show ¬len ([]:List Int)>0 by decide),aD,aC,a_ (show i<1000000000000000000 by omega)]
  ·have sD:len x.aj>0:=by have:=List.length_pos_iff.2 hs;unfold len;omega
   simp only[EV,e1,e2,aK hs,ba hi,aH,aO hi,ec,al,dT sD,aO hc,a_ (show i<1000000000000000000 by omega),lh hi,ZH,iE];rw[bY (by omega) (by omega)]) (by
  have e1:(pg b p k).2.2.1=x.ay:=by rw[<-hx];rfl
  simp only[EV,e1,bI,aD,aC,oR];rfl)
 unfold I1;have e0:(if x.aj=[]then(0:Int)else ny (gt p.aW) (x.ay.take 0),((0:Nat):Int))=(0,0):=by simp[ny,o8]
 have MJ:aI (EV p (pg b p k)) (if x.aj=[]then(0:Int)else ny (gt p.aW) (x.ay.take 0),((0:Nat):Int))=_:=yw;rw[e0]at MJ;simp only[of_eq hb hp,al,MJ]
def apH(hb:fp b)(hp:dp p)(k:Int):I0 b p k=aa (xS b (fO b p k).1):=by
 by_cases h:bi b p=0
 case neg=>
  unfold I0;rw[of_eq hb hp];have e:pg b p k=([],[],[],(fO b p k).2):=by unfold pg;rw[LJ h]
  rw[e,LJ h];rfl
 obtain⟨⟨hl,hg⟩,⟨s1,s2,s3⟩,_⟩:=ff.1 h;obtain⟨h1,h2,h3,h4⟩:=abi (p:=p) hg.1 k;have h8:=hl.src;generalize hx:(fO b p k).1=x at*;have e2:(pg b p k).2.1=x.aj:=by rw[<-hx];rfl
 have yw:=dO (step:=IZ b (pg b p k)) (λi=>(ny (λk=>(gt b.aj k).ig) (x.aj.take i),(i:Int))) x.aj.length (r:=xS b x) (λi hi=>by
  obtain⟨c0,c1⟩:=h2 _ (du hi);obtain⟨c,ec⟩:=nr c0;have ec:gt x.aj i=(c:Int):=ec;have hc:c<b.aj.length:=by omega
  have sL:=JT (f:=λk=>(gt b.aj k).ig) (l:=x.aj.take i) (B:=50000) (λc hc=>by have:=h2 c (uE hc);have:=RY h (k:=c.toNat) (by omega);exact⟨by omega,this.2⟩)
  have hlen:(x.aj.take i).length<=8:=by simp;omega
  have HN:=RY h (k:=c) (by omega);simp only[IZ,e2,ba hi,aH,aO hi,ec,al,aO hc,a_ (show i<1000000000000000000 by omega),lh hi,ZH,iE];rw[bY (by omega) (by omega)]) (by
  simp only[IZ,e2,bI,aD,aC,oR];rfl)
 unfold I0;have MJ:aI (IZ b (pg b p k)) (0,0)=_:=yw;simp only[of_eq hb hp,al,MJ]
def G0(hg:cD b){x:bt}(hx:x∈bj b p):(∀c∈x.ay,0<=c∧c<b.ay.length)∧(∀c∈x.aj,0<=c∧c<b.aj.length)∧x.ay.length<=b.ay.length∧x.aj.length<=b.aj.length∧0<x.aA.length:=by
 obtain⟨f,hf,e,bQ⟩:=Af.1 hx;have h:=Du (b:=b) (p:=p) f;rw[e];refine⟨λc hc=>?_,λc hc=>?_,h.2.2,h.2.1,List.length_pos_iff.2 bQ⟩
 ·obtain⟨j,hj,_,_,e⟩:=aby.1 hc;omega
 ·obtain⟨j,hj,_,_,e⟩:=LU.1 hc;omega
def ar5(h:bi b p=0){x:bt}(hx:x∈bj b p):(fO b p (gt x.aA 0)).1=x:=by obtain⟨⟨hl,hg⟩,_⟩:=ff.1 h;have hb0:=(G0 hg.1 hx).2.2.2.2;obtain⟨h1,h2,h3⟩:=ab9 hx (du hb0);unfold fO;rw[aG ⟨h,h1,by omega⟩];exact h3.symm
end
end Rx
namespace Rx
def R8{p q:Part}(h1:p.Kind=q.Kind)(h2:p.Number=q.Number):p=q:=by cases p;cases q;simp at h1 h2;rw[h1,h2]
section
variable {b:au} {p:aw}
def cZ(p:aw)(k n:Int):Bool:=dB ((⟨k,n⟩:Part)∈p.aR)
def ajl(hp:dp p)(k n:Int):sY p k n=aa (cZ p k n):=by
 have hl:=hp.2.2.2;unfold sY F_ J3;have e1:∀i,((k==(gt p.aR i).Kind&&n==(gt p.aR i).Number)=ab↔gt p.aR i=(⟨k,n⟩:Part)):=λi=>by simp only[Bool.and_eq_true,xr];exact⟨λ⟨h1,h2⟩=>R8 h1.symm h2.symm,λh=>by rw[h];exact⟨rfl,rfl⟩⟩
 by_cases hm:(⟨k,n⟩:Part)∈p.aR
 ·have hw:Wp (aI (wx p.aR ⟨k,n⟩) 0) λr=>∃q:Nat,r= .inr (q:Int):=by
   obtain⟨j,hj,he⟩:=om hm;refine dS p.aR.length (λk s=>s=(k:Int)∧k<=j) ⟨rfl,by omega⟩ (λi s hi hv=>?_) (λs hv=>by omega) (ZW hl);obtain⟨rfl,hv⟩:=hv;unfold wx;simp only[ba hi,aH,aO hi,al];cases hb:(k==(gt p.aR i).Kind&&n==(gt p.aR i).Number)with
   |true=>simp only[aH];exact ar.2 ⟨i,rfl⟩
   |false=>
    simp only[aD,aC];refine ar.2 ⟨a_ (eN hl hi),?_⟩;by_cases e:i=j
    ·subst e;rw[(e1 i).2 he]at hb;cases hb
    ·omega
  obtain⟨r,e,q,rfl⟩:=hw;rw[e];unfold cZ;rw[iK hm];simp only[al,bB];rw[dT (by omega)]
 ·have e:aI (wx p.aR ⟨k,n⟩) 0=aa (.inl ()):=dO (r:=Sum.inl ()) (λk=>(k:Int)) p.aR.length (λi hi=>by
   unfold wx;simp only[ba hi,aH,aO hi,al];cases hb:(k==(gt p.aR i).Kind&&n==(gt p.aR i).Number)with
   |true=>exact(hm ((e1 i).1 hb▸du hi)).elim
   |false=>simp only[aD,aC];rw[a_ (eN hl hi)]) (by
   unfold wx;simp only[bI,aD,aC]) (ZW hl)
  rw[e];unfold cZ;rw[gQ hm];simp only[al,bu];rw[dF (by omega)]
def sv(b:au)(p:aw)(k:Int):Bool:=ak (0<(fO b p k).1.aj.length)
def abR(hb:fp b)(hp:dp p)(k:Int):ER b p k=aa (sv b p k):=arp hb hp k
def iZ(p:aw)(x:cG):Bool:=cZ p 3 x.A||(if x.Kind=1 then cZ p 3 x.B else if x.Kind=2 then cZ p 1 x.B||((gt p.aj x.B.toNat).State !=2)else cZ p 4 x.B)
def axE(hp:dp p){x:cG}(hx:x.Kind=2->0<=x.B∧x.B<p.aj.length)(a:List Act):Ld ⟨b,p,a⟩ x=aa (iZ p x):=by
 unfold Ld CQ iZ;simp only[ajl hp,al];cases cZ p 3 x.A with
 |true=>simp only[aH,Bool.true_or]
 |false=>
  simp only[aD,aC,Bool.false_or];by_cases h1:x.Kind=1
  ·rw[gh h1,aG h1];simp only[aH]
  ·rw[dG h1,aK h1];simp only[aD,aC];by_cases h2:x.Kind=2
   ·rw[gh h2,aG h2];simp only[aH];cases cZ p 1 x.B with
    |true=>simp only[aH,al,Bool.true_or]
    |false=>have:=hx h2;simp only[aD,aC,iI this.1 this.2,al,Bool.false_or]
   ·rw[dG h2,aK h2];simp only[aD,aC]
def gN(C:List Bool)(P:Nat->Bool):List Bool:=(bV C.length).map λi=>gt C i&& !P i
def kb(C:List Bool)(P:Nat->Bool):(gN C P).length=C.length:=by simp[gN]
def p_{C:List Bool}{P:Nat->Bool}{i:Nat}(h:i<C.length):gt (gN C P) i=(gt C i&& !P i):=lC _ h
def qN(i:Int):Act:=⟨2,i,0⟩
def gr(C:List Bool)(P:Nat->Bool):List Int:=bC (λi=>gt C i&&P i) C.length
def dV(b:au)(p:aw)(a:List Act):Int×List cG×List Source×List Consumer×Int×Int×List Bool×List bn×List Int×List Part×List Act:=(b.aA,b.ae,b.aj,b.ay,b.bh,b.aY,p.aF,p.aj,p.aW,p.aR,a)
def LB(C:List Bool)(l:List Int)(h:∀k∈l,0<=k∧k<(C.length:Int)):∀i,gt (l.foldl (λc k=>c.set k.toNat ai) C) i=(gt C i&& !ak ((i:Int)∈l))∧(l.foldl (λc k=>c.set k.toNat ai) C).length=C.length:=by
 induction l generalizing C with
 |nil=>intro i;simp
 |cons k l ih=>
  intro i;have hk:=h k (by simp);have:=ih (C.set k.toNat ai) (λj hj=>by have:=h j (by simp[hj]);simpa using this) i;simp only[List.foldl_cons];rw[this.1,this.2];refine⟨?_,by simp⟩;rw[gE (by omega)];by_cases e:i=k.toNat
  ·have:(i:Int)=k:=by omega
   rw[aG e,this];simp
  ·have:(i:Int)≠k:=by omega
   rw[aK e];simp[this]
def Sf{b:au}{p:aw}{a:List Act}{l:List Int}(hC:p.aF.length<=1000)(hl:l.length<=1000)(ha:a.length<=10000000)(h:∀k∈l,0<=k∧k<(p.aF.length:Int)):
  aI (C3 l) (0,dV b p a)=aa (dV b {p with aF:=l.foldl (λc k=>c.set k.toNat ai) p.aF} (a++l.map qN)):=by
 have:=dO (step:=C3 l) (r:=dV b {p with aF:=l.foldl (λc k=>c.set k.toNat ai) p.aF} (a++l.map qN)) (λk=>((k:Int),dV b {p with aF:=(l.take k).foldl (λc k=>c.set k.toNat ai) p.aF} (a++(l.take k).map qN))) l.length (λk hk=>by
  have hg:=h _ (du hk);have rC:=(LB p.aF (l.take k) (λj hj=>h j (uE hj)) 0).2;unfold C3 Gy;simp only[dV,ba hk,aH,aO hk,al];rw[iI (l:=(l.take k).foldl (λc k=>c.set k.toNat ai) p.aF) hg.1 (by rw[rC];exact hg.2),CS hg.1 (by rw[rC];exact hg.2),cJ (by simp;omega),a_ (by omega)];simp only[al,lh hk,List.foldl_append,List.foldl_cons,List.foldl_nil,qW,List.map_cons,List.map_nil,List.append_assoc];rfl) (by
  unfold C3;simp only[dV,bI,aD,aC,oR]) (by omega)
 simpa using this
def Bh{C:List Bool}{P:Nat->Bool}:∀k∈gr C P,0<=k∧k<(C.length:Int):=λk hk=>by obtain⟨i,hi,_,rfl⟩:=yc.1 hk;omega
def U4(C:List Bool)(P:Nat->Bool):(gr C P).foldl (λc k=>c.set k.toNat ai) C=gN C P:=by
 refine jW (by rw[(LB C (gr C P) Bh 0).2,kb]) λi hi=>?_;rw[(LB C (gr C P) Bh 0).2]at hi;rw[(LB C (gr C P) Bh i).1,p_ hi];cases hc:gt C i with
 |false=>simp
 |true=>
  simp only[Bool.true_and];congr 1;cases hP:P i with
  |true=>exact vZ (yc.2 ⟨i,hi,by simp[hc,hP],rfl⟩)
  |false=>
   refine Jl λhm=>?_;obtain⟨j,_,hj,e⟩:=yc.1 hm;have:i=j:=by omega
   subst this;rw[hP]at hj;simp at hj
def Bi(C:List Bool)(P:Nat->Bool):(gr C P).length<=C.length:=oi _ _
def jr(b:au)(p:aw):aw:={p with aF:=gN p.aF λi=>iZ p (gt b.ae i)}
def dead(b:au)(p:aw)(x:cG):Bool:=x.Kind==3&& !sv b p x.A
def yS(b:au)(p:aw):aw:={jr b p with aF:=gN (jr b p).aF λi=>dead b (jr b p) (gt b.ae i)}
def xi(b:au)(p:aw):List Act:=(gr p.aF λi=>iZ p (gt b.ae i)).map qN++(gr (jr b p).aF λi=>dead b (jr b p) (gt b.ae i)).map qN
def lE(b:au)(p:aw):aw:=rH b (yS b p)
def ae_{q:aw}{j:Int}(h:∀k,gt q.aF k=ab->gt p.aF k=ab):∀n,eR b q j n<=eR b p j n:=by
 intro n;induction n with
 |zero=>exact bw _
 |succ n ih=>
  unfold eR;by_cases hc:(gt b.ae n).Kind=3∧(gt b.ae n).B=j∧gt q.aF n=ab
  ·rw[aG hc,aG ⟨hc.1,hc.2.1,h n hc.2.2⟩];omega
  ·rw[aK hc];omega
def QI{q:aw}(h:bi b p=0)(hl:q.aF.length=p.aF.length)(hs:q.aj=p.aj)(hm:q.aW=p.aW)(hb:q.aR=p.aR)(hc:∀k,gt q.aF k=ab->gt p.aF k=ab):bi b q=0:=by obtain⟨h1,⟨s1,s2,s3⟩,⟨g1,g2⟩,g3,g4⟩:=ff.1 h;refine ff.2 ⟨h1,⟨by omega,by rw[hs];exact s2,by rw[hm];exact s3⟩,⟨by rw[hb];exact g1,by rw[hb];exact g2⟩,by rw[hs];exact g3,λk hk=>?_⟩;rw[hm]at hk;obtain⟨a,c⟩:=g4 k hk;refine⟨by rw[hm];exact a,?_⟩;have:=ae_ (b:=b) (j:=(k:Int)) hc b.ae.length;omega
def GN{C:List Bool}{P:Nat->Bool}{k:Nat}(h:gt (gN C P) k=ab):gt C k=ab:=by
 by_cases hk:k<C.length
 ·rw[p_ hk]at h;cases hc:gt C k with
  |true=>rfl
  |false=>rw[hc]at h;cases h
 ·unfold gt at h;rw[List.getD_eq_getElem?_getD,List.getElem?_eq_none (by rw[kb];omega)]at h;exact Bool.noConfusion h
def QJ(h:bi b p=0):bi b (jr b p)=0:=QI h (kb _ _) rfl rfl rfl λk hk=>GN hk
def JU(h:bi b p=0):bi b (yS b p)=0:=QI (QJ h) (kb _ _) rfl rfl rfl λk hk=>GN hk
def ZV{q:aw}(hp:dp p)(hl:q.aF.length=p.aF.length)(hs:q.aj=p.aj)(hm:q.aW=p.aW)(hb:q.aR=p.aR):dp q:=by obtain⟨h1,h2,h3,h4⟩:=hp;refine⟨?_,by rw[hs];exact h2,by rw[hm];exact h3,by rw[hb];exact h4⟩;unfold Sm at h1⊢;omega
def Z0(hp:dp p):dp (jr b p):=ZV hp (kb _ _) rfl rfl rfl
def ZZ(hp:dp p):dp (yS b p):=ZV (Z0 (b:=b) hp) (kb _ _) rfl rfl rfl
def lF(h:bi b p=0):p.aF.length=b.ae.length∧p.aj.length=b.aj.length∧b.ae.length<=24∧b.aj.length<=8∧b.ay.length<=16∧p.aW.length=b.ay.length:=by obtain⟨⟨hl,_⟩,⟨s1,s2,s3⟩,_⟩:=ff.1 h;exact⟨s1,s2,hl.cZ,hl.src,hl.iL,s3⟩
def QP(h:bi b p=0){k:Nat}(hk:k<b.ae.length)(h2:(gt b.ae k).Kind=2):0<=(gt b.ae k).B∧(gt b.ae k).B<(p.aj.length:Int):=by obtain⟨s1,s2,_⟩:=lF h;have:=(((ff.1 h).1.2).1.1 k hk).2;rcases this with c|c|c<;>omega
def ans(hp:dp p)(h:bi b p=0){a:List Act}(ha:a.length<=1000000):KZ ⟨b,p,a⟩=aa (dV b (jr b p) (a++(gr p.aF λi=>iZ p (gt b.ae i)).map qN)):=by
 obtain⟨s1,s2,s3,_⟩:=lF h;unfold KZ;have e1:aI (Gw ⟨b,p,a⟩) (0,[])=aa (gr p.aF λi=>iZ p (gt b.ae i)):=by
  have:=dO (step:=Gw ⟨b,p,a⟩) (r:=gr p.aF λi=>iZ p (gt b.ae i)) (λk=>((k:Int),bC (λi=>gt p.aF i&&iZ p (gt b.ae i)) k)) b.ae.length (λk hk=>by
   have lY:=oi (λi=>gt p.aF i&&iZ p (gt b.ae i)) k;unfold Gw;simp only[ba hk,aH,aO hk,al,aO (l:=p.aF) (k:=k) (by omega),axE (b:=b) hp (x:=gt b.ae k) (QP h hk) a];rw[a_ (by omega),pd];cases gt p.aF k with
   |false=>simp
   |true=>
    cases iZ p (gt b.ae k)with
    |false=>simp
    |true=>simp only[aH,al,Bool.and_self];rw[cJ (by simp;omega)];rfl) (by
   unfold Gw;simp only[bI,aD,aC];unfold gr;rw[s1]) (by omega)
  simpa[bC]using this
 rw[e1];have eH:(gr p.aF λi=>iZ p (gt b.ae i)).length<=1000:=by have:=Bi p.aF λi=>iZ p (gt b.ae i);omega
 have e2:=Sf (b:=b) (p:=p) (a:=a) (l:=gr p.aF λi=>iZ p (gt b.ae i)) (by omega) eH (by omega) Bh;simp only[al];rw[show aI (C3 (gr p.aF λi=>iZ p (gt b.ae i))) (0,b.aA,b.ae,b.aj,b.ay,b.bh,b.aY,p.aF,p.aj,p.aW,p.aR,a)=_ from e2,U4];rfl
def anr(hb:fp b)(hp:dp p)(h:bi b p=0){a:List Act}(ha:a.length<=1000000):KY ⟨b,p,a⟩=aa (dV b {p with aF:=gN p.aF λi=>dead b p (gt b.ae i)} (a++(gr p.aF λi=>dead b p (gt b.ae i)).map qN)):=by
 obtain⟨s1,s2,s3,_⟩:=lF h;unfold KY;have e1:aI (C2 ⟨b,p,a⟩) (0,[],dV b p a)=aa (gr p.aF λi=>dead b p (gt b.ae i),dV b p a):=by
  have:=dO (step:=C2 ⟨b,p,a⟩) (r:=(gr p.aF λi=>dead b p (gt b.ae i),dV b p a)) (λk=>((k:Int),bC (λi=>gt p.aF i&&dead b p (gt b.ae i)) k,dV b p a)) b.ae.length (λk hk=>by
   have lY:=oi (λi=>gt p.aF i&&dead b p (gt b.ae i)) k;have xa:(⟨b.aA,b.ae,b.aj,b.ay,b.bh,b.aY⟩:au)=b:=rfl;have rA:(⟨p.aF,p.aj,p.aW,p.aR⟩:aw)=p:=rfl;unfold C2 Rp;simp only[dV,ba hk,aH,aO hk,al,aO (l:=p.aF) (k:=k) (by omega),xa,rA,abR hb hp];rw[a_ (by omega),pd];generalize bC (λi=>gt p.aF i&&dead b p (gt b.ae i)) k=R at lY⊢;unfold dead;cases gt p.aF k with
   |false=>simp
   |true=>
    cases(gt b.ae k).Kind==3 with
    |false=>simp
    |true=>
     cases sv b p (gt b.ae k).A with
     |true=>simp
     |false=>simp only[aH,al,Bool.and_self,Bool.not_false];rw[cJ (by simp;omega)];rfl) (by
   unfold C2;simp only[dV,bI,aD,aC];unfold gr;rw[s1]) (by omega)
  simpa[bC]using this
 rw[show aI (C2 ⟨b,p,a⟩) (0,[],b.aA,b.ae,b.aj,b.ay,b.bh,b.aY,p.aF,p.aj,p.aW,p.aR,a)=_ from e1];have eH:(gr p.aF λi=>dead b p (gt b.ae i)).length<=1000:=by have:=Bi p.aF λi=>dead b p (gt b.ae i);omega
 have e2:=Sf (b:=b) (p:=p) (a:=a) (l:=gr p.aF λi=>dead b p (gt b.ae i)) (by omega) eH (by omega) Bh;simp only[al];rw[show aI (aaC (gr p.aF λi=>dead b p (gt b.ae i),dV b p a)) (0,(dV b p a).1,(dV b p a).2.1,(dV b p a).2.2.1,(dV b p a).2.2.2.1,(dV b p a).2.2.2.2.1,(dV b p a).2.2.2.2.2.1,(dV b p a).2.2.2.2.2.2.1,(dV b p a).2.2.2.2.2.2.2.1,(dV b p a).2.2.2.2.2.2.2.2.1,(dV b p a).2.2.2.2.2.2.2.2.2.1,(dV b p a).2.2.2.2.2.2.2.2.2.2)=_ from e2,U4];rfl
def ax7(hb:fp b)(hp:dp p)(h:bi b p=0):Le ⟨b,p,[]⟩=aa (b.aA,b.ae,b.aj,b.ay,b.bh,b.aY,(yS b p).aF,(yS b p).aj,(yS b p).aW,(yS b p).aR,(lE b p).aF,(lE b p).aj,(lE b p).aW,(lE b p).aR,xi b p):=by obtain⟨s1,s2,s3,_⟩:=lF h;have eH:=Bi p.aF λi=>iZ p (gt b.ae i);unfold Le;rw[ans hp h (by simp)];simp only[al,dV];have e2:=anr (a:=[]++(gr p.aF λi=>iZ p (gt b.ae i)).map qN) hb (Z0 (b:=b) hp) (QJ h) (by simp only[oS,List.length_map];omega);rw[show(⟨⟨b.aA,b.ae,b.aj,b.ay,b.bh,b.aY⟩,⟨(jr b p).aF,(jr b p).aj,(jr b p).aW,(jr b p).aR⟩,[]++(gr p.aF λi=>iZ p (gt b.ae i)).map qN⟩:fD)=⟨b,jr b p,[]++(gr p.aF λi=>iZ p (gt b.ae i)).map qN⟩from rfl,e2];simp only[al,dV];have e3:=follow_eq hb (ZZ (b:=b) hp) (JU h);rw[show zB ⟨b.aA,b.ae,b.aj,b.ay,b.bh,b.aY⟩ ⟨gN (jr b p).aF λi=>dead b (jr b p) (gt b.ae i),(jr b p).aj,(jr b p).aW,(jr b p).aR⟩=_ from e3];simp only[al,oS];rfl
def ane{q:aw}(hc:∀k,k<b.ae.length->(gt b.ae k).Kind=1->gt q.aF k=gt p.aF k)(k:Nat)(hk:k<=b.ae.length)(f:List Int):gK b q k f=gK b p k f:=by
 induction k with
 |zero=>rfl
 |succ k ih=>
  unfold gK;rw[ih (by omega)];unfold oh;by_cases h1:(gt b.ae k).Kind=1
  ·rw[hc k (by omega) h1]
  ·rw[aK λh=>h1 h.1,aK λh=>h1 h.1]
def av1{q:aw}(hc:∀k,k<b.ae.length->(gt b.ae k).Kind=1->gt q.aF k=gt p.aF k):cq b q=cq b p:=by
 unfold cq;have:∀r f,rounds b q r f=rounds b p r f:=by
  intro r f;induction r with
  |zero=>rfl
  |succ r ih=>unfold rounds;rw[ih,ane hc _ (bw _)]
 exact this _ _
def find_congr{n:Nat}{P Q:Nat->Bool}(h:∀k,k<n->P k=Q k):(bV n).find? P=(bV n).find? Q:=by
 induction n with
 |zero=>rfl
 |succ n ih=>rw[List.range_succ,List.find?_append,List.find?_append,ih λk hk=>h k (by omega)];simp[List.find?_cons,h n (by omega)]
def abT{q:aw}{kind j:Int}(hc:∀k,k<b.ae.length->(gt b.ae k).Kind=kind->(gt b.ae k).B=j->gt q.aF k=gt p.aF k):gb b q kind j=gb b p kind j:=by
 unfold gb;rw[find_congr (P:=mT b q kind j) (Q:=mT b p kind j) λk hk=>by
  unfold mT;cases h1:(gt b.ae k).Kind==kind with
  |false=>rfl
  |true=>
   cases h2:(gt b.ae k).B==j with
   |false=>rfl
   |true=>rw[hc k hk (by simpa using h1) (by simpa using h2)]]
def axY{q:aw}(hl:q.aj.length=p.aj.length)(hs:∀j,j<p.aj.length->(gt q.aj j).State=(gt p.aj j).State)(hc:∀k,k<b.ae.length->(gt b.ae k).Kind=2->gt q.aF k=gt p.aF k)(j:Int):conn b q j=conn b p j:=by
 unfold conn;rw[hl];by_cases h:0<=j∧j<=(p.aj.length:Int)-1
 ·rw[aG h,aG h,hs j.toNat (by omega),abT λk hk h2 _=>hc k hk h2]
 ·rw[aK h,aK h]
structure mH(b:au)(p q:aw):Prop where
 len:q.aj.length=p.aj.length
 st:∀j,j<p.aj.length->(gt q.aj j).State=(gt p.aj j).State
 cl:∀k,k<b.ae.length->(gt b.ae k).Kind≠3->gt q.aF k=gt p.aF k
def mH.cq{q:aw}(h:mH b p q):cq b q=cq b p:=av1 λk hk h1=>h.cl k hk (by omega)
def mH.conn{q:aw}(h:mH b p q)(j:Int):conn b q j=conn b p j:=axY h.len h.st (λk hk h2=>h.cl k hk (by omega)) j
def mH.QN{q:aw}(h:mH b p q)(f:Nat):(dW b q f).aj=(dW b p f).aj∧(dW b q f).aA=(dW b p f).aA:=by
 unfold dW;refine⟨?_,?_⟩
 ·show bC (gU b q f) _=bC (gU b p f) _;congr 1;funext j;unfold gU;rw[h.cq,h.conn]
 ·show bC (iM b q f) _=bC (iM b p f) _;congr 1;funext j;unfold iM;rw[h.cq]
def mH.ofS{q:aw}(h:mH b p q)(hp:bi b p=0)(hq:bi b q=0)(k:Int):(fO b q k).1.aj=(fO b p k).1.aj:=by
 unfold fO;by_cases c:0<=k∧k<b.aA
 ·rw[aG ⟨hq,c⟩,aG ⟨hp,c⟩];show(eJ b q k).aj=(eJ b p k).aj;unfold eJ;rw[h.cq];exact(h.QN _).1
 ·rw[aK λx=>c x.2,aK λx=>c x.2]
def mH.sv{q:aw}(h:mH b p q)(hp:bi b p=0)(hq:bi b q=0)(k:Int):sv b q k=sv b p k:=by unfold Rx.sv;rw[h.ofS hp hq]
def aoE(h:bi b p=0):mH b (jr b p) (yS b p):=by obtain⟨s1,_⟩:=lF h;refine⟨rfl,λ_ _=>rfl,λk hk h3=>?_⟩;show gt (gN (jr b p).aF _) k=_;rw[p_ (by show k<(gN p.aF _).length;rw[kb];omega)];unfold dead;rw[dG h3];simp
def aoD(h:bi b p=0):mH b p (rH b p):=⟨vH,λj hj=>by rw[aeo hj],λ_ _ _=>rfl⟩
def mH.trans{q r:aw}(h:mH b p q)(h':mH b q r):mH b p r:=⟨by rw[h'.len,h.len],λj hj=>by rw[h'.st j (by rw[h.len];exact hj),h.st j hj],λk hk h3=>by rw[h'.cl k hk h3,h.cl k hk h3]⟩
end
end Rx
namespace Rx
def wH(b:au)(c:Int):Int:=(gt b.ay c.toNat).ky
def qd(b:au)(x y:Int):Bool:=ak (wH b x<wH b y)
def ap8{b:au}{x y:Int}(hx:0<=x∧x<(b.ay.length:Int))(hy:0<=y∧y<(b.ay.length:Int)):∃c,KD x y b=aa c∧ak (c<0)=qd b x y:=by
 unfold KD;rw[iI hx.1 hx.2,iI hy.1 hy.2];simp only[al,VU];refine⟨_,rfl,?_⟩;unfold qd wH;by_cases h1:(gt b.ay x.toNat).ky<(gt b.ay y.toNat).ky
 ·rw[aG h1,dT h1];rfl
 ·rw[aK h1,dF h1];split<;>rfl
def acf{b:au}{n:Nat}(hn:n=b.ay.length)(M_:n<=1000):
  ∀(j:Nat) (d:List Int),j<n->Ok n (λx=>0<=x∧x<(n:Int)) d->(∃k,k<=j∧ma (F3 0 b) k ((j:Int),d) (inner (qd b) j d))∧Ok n (λx=>0<=x∧x<(n:Int)) (inner (qd b) j d)
 |0,d,hj,h=>by refine⟨⟨0,bw _,.done ?_⟩,h⟩;simp[F3,inner]
 |j+1,d,hj,h=>by
  obtain⟨c,hc,hl⟩:=ap8 (b:=b) (by rw[<-hn];exact LD h hj) (by rw[<-hn];exact LD h (j:=j) (by omega));have hlen:=h.1;have e1:W (((j+1:Nat):Int)-1)=(j:Int):=by rw[bY (by omega) (by omega)];omega
  have i1:idx d ((j+1:Nat):Int)=aa (d.getD (j+1) 0):=Ti (by omega);have i2:idx d (j:Int)=aa (d.getD j 0):=Ti (by omega);have s1:df d ((j+1:Nat):Int) (d.getD j 0)=aa (d.set (j+1) (d.getD j 0)):=jy (by omega) _;have i3:idx (d.set (j+1) (d.getD j 0)) (j:Int)=aa ((d.set (j+1) (d.getD j 0)).getD j 0):=Ti (by simp;omega);have s2:df (d.set (j+1) (d.getD j 0)) (j:Int) (d.getD (j+1) 0)=aa (swapAt d j):=jy (by simp;omega) _;have sD:ak (((j+1:Nat):Int)>0)=ab:=vZ (by omega);cases aU:qd b (d.getD (j+1) 0) (d.getD j 0)with
  |true=>obtain⟨⟨k,hk,hr⟩,ho⟩:=acf hn M_ j (swapAt d j) (by omega) (aqj h hj);rw[inner,aG aU];refine⟨⟨k+1,by omega,.more ?_ hr⟩,ho⟩;rw[aU]at hl;simp only[F3,sD,aH,i1,e1,i2,al,hc,hl,s1,i3,s2]
  |false=>
   have bQ:¬(qd b (d.getD (j+1) 0) (d.getD j 0)=ab):=by rw[aU];simp
   rw[inner,aK bQ];refine⟨⟨0,by omega,.done ?_⟩,h⟩;rw[aU]at hl;simp only[F3,sD,aH,i1,e1,i2,al,hc,hl];rfl
def aa'{b:au}{n:Nat}(hn:n=b.ay.length)(M_:n<=1000):
  ∀(m i:Nat) (d:List Int),m+i=n->Ok n (λx=>0<=x∧x<(n:Int)) d->ma (CC 0 (n:Int) b) m ((i:Int),d) (outer (qd b) m i d)∧Ok n (λx=>0<=x∧x<(n:Int)) (outer (qd b) m i d)
 |0,i,d,hi,h=>by refine⟨.done ?_,h⟩;have:ak ((i:Int)<(n:Int))=ai:=Jl (by omega);simp only[CC,outer,this,aD,aC]
 |m+1,i,d,hi,h=>by obtain⟨⟨k,hk,hr⟩,ho⟩:=acf hn M_ i d (by omega) h;obtain⟨h1,h2⟩:=aa' hn M_ m (i+1) (inner (qd b) i d) (by omega) ho;have hd:ak ((i:Int)<(n:Int))=ab:=vZ (by omega);rw[outer];refine⟨.more ?_ h1,h2⟩;simp only[CC,hd,aH,ou hr (by omega),al,a_ (show i<1000000000000000000 by omega)]
def kO(b:au):List Int:=outer (qd b) (b.ay.length-1) 1 (kT b.ay.length)
def anR{b:au}(hn:b.ay.length<20):J0 (kT b.ay.length) b=aa (kO b):=by
 have hl:len (kT b.ay.length)=(b.ay.length:Int):=by unfold len;rw[D6]
 have TG:∀d,QU (b.ay.length:Int) b (0,20,d)=aa (.inr (0,d)):=λd=>by simp only[QU,dF (show ¬(20:Int)<=(b.ay.length:Int) by omega),aD,aC]
 have TF:QT (b.ay.length:Int) 20=aa (.inr ()):=by simp only[QT,dF (show ¬(20:Int)<(b.ay.length:Int) by omega),aD,aC]
 have hw:W (0+1)=((1:Nat):Int):=by rw[bY (by omega) (by omega)];rfl
 have ir:aI (CC 0 (b.ay.length:Int) b) (((1:Nat):Int),kT b.ay.length)=aa (kO b):=by
  by_cases h1:1<=b.ay.length
  ·obtain⟨h2,h3⟩:=aa' (b:=b) rfl (by omega) (b.ay.length-1) 1 (kT b.ay.length) (by omega) (aw9 _);exact ou h2 (by omega)
  ·have h0:b.ay.length=0:=by omega
   have:kO b=kT b.ay.length:=by unfold kO;rw[h0];rfl
   rw[this];refine ou (.done ?_) (kC _);simp only[CC,dF (show ¬((1:Nat):Int)<(b.ay.length:Int) by omega),aD,aC]
 simp only[J0,QV,hl,ou (.done (TG _)) (kC _),al,JY,hw,ir,ou (.done TF) (kC _)]
def abb(b:au):(kO b).Pairwise (λx y=>wH b x<wH b y∨wH b x=wH b y∧x<y)∧(kO b).Perm (kT b.ay.length):=by
 by_cases h1:1<=b.ay.length
 case neg=>
  have h0:b.ay.length=0:=by omega
  have e:kO b=[]:=by unfold kO;rw[h0];rfl
  rw[e,h0];exact⟨.nil,.refl _⟩
 have aU:∀x y,qd b x y=ab↔(λc=> -wH b c) y<(λc=> -wH b c) x:=λx y=>by
  unfold qd;rw[X6];try simp only
  omega
 have e:kO b=((kT b.ay.length).foldl (λa x=>oz (qd b) x a) []).reverse:=by
  unfold kO;obtain⟨x,xs,hx⟩:∃x xs,kT b.ay.length=x::xs:=by
   cases hf:kT b.ay.length with
   |nil=>have:=D6 b.ay.length;rw[hf]at this;simp at this;omega
   |cons x xs=>exact⟨x,xs,rfl⟩
  have hl:xs.length=b.ay.length-1:=by have:=D6 b.ay.length;rw[hx]at this;simp at this;omega
  have:=aa_ (qd b) xs [x];rw[hx,<-hl];exact this
 have h:=aem aU (kT b.ay.length) [] (aw8 _) (by simp) (by simp);rw[e];refine⟨(List.pairwise_reverse.2 h.1).imp λhb=>?_,(List.reverse_perm _).trans (by simpa using h.2)⟩;unfold Jk at hb;simp only at hb;omega
def ap9{b:au}{c:Int}:c∈kO b↔0<=c∧c<(b.ay.length:Int):=by
 rw[(abb b).2.mem_iff];unfold kT;rw[dC];constructor
 ·rintro⟨k,hk,rfl⟩;have:=er.1 hk;simp;omega
 ·rintro⟨h0,h1⟩;exact⟨c.toNat,er.2 (by omega),by simp;omega⟩
def aba(b:au):(kO b).length=b.ay.length:=by rw[(abb b).2.length_eq,D6]
def ap7{b:au}(hb:fp b)(h:ng b=0):KE b=aa (kO b):=by
 have hl:=(Bw.1 h).1.iL;unfold KE;rw[ae' hb,h];simp only[al,me,aD,aC];have e:aI (Gi b) (0,[])=aa (kT b.ay.length):=by
  have:=dO (step:=Gi b) (r:=kT b.ay.length) (λk=>((k:Int),kT k)) b.ay.length (λk hk=>by
   unfold Gi;rw[dT (c:=(k:Int)<len b.ay) (by unfold len;omega),cJ (by simp[D6];omega),a_ (by omega)];simp only[aH,al];unfold kT;rw[List.range_succ,qW];rfl) (by
   unfold Gi;simp only[bI,aD,aC]) (by omega)
  simpa[kT]using this
 rw[e];simp only[al,anR (b:=b) (by omega)]
def p9(b:au)(x:bt):List Int:=(kO b).filter λc=>decide (c∈x.ay)
def ap4{b:au}{x:bt}(hx:∀c∈x.ay,0<=c∧c<(b.ay.length:Int)){c:Int}:c∈p9 b x↔c∈x.ay:=by unfold p9;rw[List.mem_filter,ap9,X6];exact⟨λh=>h.2,λh=>⟨hx c h,h⟩⟩
def ap5(b:au)(x:bt):(p9 b x).length<=b.ay.length:=by have:=List.length_filter_le (λc=>decide (c∈x.ay)) (kO b);rw[aba]at this;exact this
def SY{x:bt}{c:Int}(hx:Sm x.ay):Gg c x=aa (!ak (c∈x.ay)):=by unfold Gg;rw[contains_eq hx];rfl
def anh{l:List Int}{i:Nat}{x:Int}(h:i<l.length):(l.set i x).take (i+1)=l.take i++[x]:=by
 rw[lh (by simpa using h),gE h,aG rfl];congr 1;refine jW (by simp) λk hk=>?_;have cT:k<i:=by simp at hk;omega
 rw[fH (by simp;omega),fH (by simp;omega)];simp[List.getElem_set];omega
def axJ{x:bt}(hx:Sm x.ay){l:List Int}(hl:l.length<=1000):Kg l x=aa (l.filter λc=>decide (c∈x.ay)):=by
 unfold Kg QZ;have h1:=vc (step:=F6 l x) (λk=>(k:Int)) l.length (λk=> !ak (gt l k∈x.ay)) (R:=λk=> .inr (k:Int)) (e:= .inl ()) (λk hk hp=>by
  unfold F6;simp only[ba hk,aH,aO hk,al,SY hx,hp,aD,aC];rw[a_ (by omega)]) (λk hk hp=>by
  unfold F6;simp only[ba hk,aH,aO hk,al,SY hx,hp]) (by
  unfold F6;simp only[bI,aD,aC]) (by omega)
 simp only[show((0:Nat):Int)=0 from rfl]at h1;rw[h1];cases hf:(bV l.length).find? (λk=> !ak (gt l k∈x.ay))with
 |none=>
  have gD:∀c∈l,decide (c∈x.ay)=ab:=λc hc=>by obtain⟨k,hk,rfl⟩:=om hc;have:=List.find?_eq_none.1 hf k (er.2 hk);simpa using this
  simp only[al,bu];rw[Fw.2 gD];rfl
 |some s=>
  have hs:=er.1 (List.mem_of_find?_eq_some hf);simp only[al,bB];rw[dG (by omega),a_ (by omega)];simp only[aD,aC];have DE:∀k,k<s->ak (gt l k∈x.ay)=ab:=λk hk=>by
   obtain⟨_,Xc,bs,h2,h3⟩:=List.find?_eq_some_iff_append.1 hf;have rC:Xc.length=s:=by
    have h4:(bV l.length)[Xc.length]? =aa s:=by rw[h2];simp
    rw[Jp (by have:=ik List.length h2;simp at this;omega)]at h4
    exact jM h4
   have iq:k∈Xc:=by have h4:(bV l.length)[k]? =aa k:=Jp (by omega);rw[h2,List.getElem?_append_left (by omega)]at h4;exact List.mem_of_getElem? h4
   have:=h3 k iq;simpa using this
  have DA:ak (gt l s∈x.ay)=ai:=by have:=(List.find?_eq_some_iff_append.1 hf).1;simpa using this
  have wX:Wp (aI (Kf x) ((s:Int),((s+1:Nat):Int),l)) λr=>∃n:Nat,r.1=(n:Int)∧n<=r.2.length∧r.2.length=l.length∧r.2.take n=l.filter λc=>decide (c∈x.ay):=by
   refine dS (l.length-(s+1)) (λt st=>∃n:Nat,st.1=(n:Int)∧st.2.1=((s+1+t:Nat):Int)∧n<s+1+t∧st.2.2.length=l.length∧st.2.2.take n=(l.take (s+1+t)).filter (λc=>decide (c∈x.ay))∧∀k,s+1+t<=k->k<l.length->gt st.2.2 k=gt l k) ⟨s,rfl,rfl,by omega,rfl,?_,λ_ _ _=>rfl⟩ (λt st ht hv=>?_) (λst hv=>?_) (by omega)
   ·simp only[Nat.add_zero];rw[lh hs,uG];have:(l.take s).filter (λc=>decide (c∈x.ay))=l.take s:=Fw.2 λc hc=>by
     obtain⟨k,hk,rfl⟩:=om hc;rw[oU]at hk;have:gt (l.take s) k=gt l k:=by rw[fH (by rw[oU];exact hk),fH (by omega)];simp
     rw[this];exact DE k (by omega)
    rw[this];simp[DA]
   ·obtain⟨m,z,c⟩:=st;obtain⟨n,rfl,rfl,hn,ql,wS,AF⟩:=hv;simp only at ql wS AF;have hk:s+1+t<l.length:=by omega
    have hgk:=AF (s+1+t) (bw _) hk;unfold Kf;simp only[ba (l:=c) (k:=s+1+t) (by omega),aH,aO (l:=c) (k:=s+1+t) (by omega),hgk,al,SY hx,Bool.not_not];rw[a_ (k:=s+1+t) (by omega)];cases hp:ak (gt l (s+1+t)∈x.ay)with
    |true=>
     simp only[aH,aO (l:=c) (k:=n) (by omega),al,jy (xs:=c) (j:=n) (by omega)];rw[a_ (by omega)];refine ar.2 ⟨n+1,rfl,rfl,by omega,by simp[ql],?_,λk h1 h2=>?_⟩
     ·simp only;rw[anh (by omega),wS,show s+1+(t+1)=(s+1+t)+1 by omega,lh hk,uG];simp[hp]
     ·simp only;rw[gE (by omega),aK (by omega)];exact AF k (by omega) h2
    |false=>
     simp only[aD,aC,al];refine ar.2 ⟨n,rfl,rfl,by omega,ql,?_,λk h1 h2=>AF k (by omega) h2⟩;try simp only
     rw[wS,show s+1+(t+1)=(s+1+t)+1 by omega,lh hk,uG];simp[hp]
   ·obtain⟨m,z,c⟩:=st;obtain⟨n,rfl,rfl,hn,ql,wS,AF⟩:=hv;simp only at ql wS;unfold Kf;rw[show s+1+(l.length-(s+1))=c.length by omega];simp only[bI,aD,aC];refine ar.2 ⟨n,rfl,(by show n<=c.length;omega),ql,?_⟩;try simp only
    rw[wS,show s+1+(l.length-(s+1))=l.length by omega,oR]
  obtain⟨⟨m,c⟩,e,n,rfl,hn,ql,wS⟩:=wX;simp only at hn ql wS;rw[e];have e1:dI c (n:Int) (len c)=aa (c.drop n):=Rl hn;have cY:(rL 0 c (n:Int)).length=c.length:=by unfold rL;simp;omega
  have e2:dI (rL 0 c (n:Int)) 0 (n:Int)=aa ((rL 0 c (n:Int)).take n):=CO (by omega);have e3:(rL 0 c (n:Int)).take n=c.take n:=by unfold rL;rw[List.take_append_of_le_length (by simp;omega),List.take_take,iE,Nat.min_self]
  simp only[al,e1,e2,e3,wS]
