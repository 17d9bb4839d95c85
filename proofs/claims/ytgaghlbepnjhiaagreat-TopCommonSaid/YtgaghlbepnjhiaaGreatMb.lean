import Derived.Test.YtgaghlbepnjhiaaGreatMa
set_option linter.all false
open Bool renaming false->ae,false_eq_true->aC,true->ab
open Decidable renaming decide->ak
open Int renaming eq_ofNat_of_zero_le->nF,toNat_natCast->iQ
open List renaming filter_append->uL,filter_eq_self->F6,getElem?_range->J3,length_pos_iff->xK,length_take->o9,map_append->mS,mem_cons->cj,mem_cons_of_mem->eR,mem_cons_self->kI,mem_map->dk,mem_of_mem_take->uI,mem_range->ew,nil_append->o7,pairwise_cons->pY,range->bW,take_length->oZ
open Nat renaming le_refl->bw,zero_le->jS
open Option renaming bind_some->al,some->aa
open Option.some renaming inj->kb
open Sum renaming elim_inl->bx,elim_inr->bE
noncomputable section
namespace Go.Proofs.YtgaghlbepnjhiaaGreat
open Go Go.RowKit Dp
namespace Rx
def aoq(a:Int):(a% 3600=if a.tmod 3600<0 then a.tmod 3600+3600 else a.tmod 3600)∧-3600<a.tmod 3600∧a.tmod 3600<3600:=by
 by_cases ha:0<=a
 ·rw[Int.tmod_eq_emod_of_nonneg ha,aK (by omega)];exact⟨rfl,by omega,by omega⟩
 ·have hn:a.tmod 3600= -((-a)% 3600):=by
   rw[<-Int.tmod_eq_emod_of_nonneg (show 0<= -a by omega),Int.neg_tmod,Int.neg_neg]
  rw[hn];refine⟨?_,by omega,by omega⟩;split<;>omega
def E3{p:aw}(h:dA p):rh p=aa (p.aE,p.aj,p.aT,p.aP):=by obtain⟨h1,h2,h3,h4⟩:=h;unfold Sm at*;unfold rh GN GO u6 zY;rw[cJ (by simp;omega),cJ (by simp;omega),cJ (by simp;omega),cJ (by simp;omega)];rfl
section
variable {b:au} {p:aw}
def dif(a c:Int):Int:=if(c% 3600-a% 3600)% 3600>1800 then(c% 3600-a% 3600)% 3600-3600 else(c% 3600-a% 3600)% 3600
def agr(b:au)(x y:bu):Prop:=((0<=x.a_∧0<=y.a_)∧x.a_<=6000∧y.a_<=6000)∧(x.a_-y.a_<=b.a_∧y.a_-x.a_<=b.a_)∧dif x.bn y.bn<=b.bn∧-dif x.bn y.bn<=b.bn
instance(b:au)(x y:bu):Decidable (agr b x y):=by unfold agr;exact inferInstance
def SmR(x:bu):Prop:=(-100000000000000000<=x.a_∧x.a_<=100000000000000000)∧-100000000000000000<=x.bn∧x.bn<=100000000000000000
def SmR.of{x:bu}(h:gY x):SmR x:=by obtain⟨_,_,⟨h1,h2⟩,h3,h4⟩:=h;exact⟨⟨by omega,by omega⟩,by omega,by omega⟩
def wT(x y:bu):bu:={x with a_:=y.a_,bn:=y.bn}
def kO(S:List bu)(y:bu):List Int->List bu
 |[]=>S
 |k::l=>kO (S.set k.toNat (wT (gt S k.toNat) y)) y l
def GZ(y:bu):∀(l:List Int) (S:List bu),(kO S y l).length=S.length
 |[],_=>rfl
 |k::l,S=>by unfold kO;rw[GZ y l];simp
def Sx(y:bu)(k:Int):∀(l:List Int) (S:List bu),kO S y (l++[k])=(kO S y l).set k.toNat (wT (gt (kO S y l) k.toNat) y)
 |[],_=>rfl
 |j::l,S=>by show kO _ y (l++[k])=_;rw[Sx y k l];rfl
def apK{l:List Int}{y:bu}(hl:Sm l)(h:∀k∈l,0<=k∧k<p.aj.length):Gs p l y=aa (kO p.aj y l):=by
 have hr:=dR (step:=Gr l y) (λk=>((k:Int),kO p.aj y (l.take k))) l.length (r:=kO p.aj y l) (λk hk=>by
  obtain⟨k0,k1⟩:=h _ (cX hk);obtain⟨j,hj⟩:=nF k0;have hj:gt l k=(j:Int):=hj;have dt:j<(kO p.aj y (l.take k)).length:=by rw[GZ];omega
  have vI:j<((kO p.aj y (l.take k)).set j {gt (kO p.aj y (l.take k)) j with a_:=y.a_}).length:=by simpa using dt
  simp only[Gr,aZ hk,aH,aM hk,al,Option.bind_fun_some,bx,bE,bT,hj,aM dt,jK dt,aM vI,jK vI,aY (eT hl hk),gV dt,lr hk,Sx,iQ,List.set_set];rfl) (by simp only[Gr,bC,aC,aB,oZ])
 unfold Gs;have UB:aG (Gr l y) ((0:Int),p.aj)=aa (kO p.aj y l):=hr;rw[UB];rfl
end
end Rx
namespace Rx
def Sy(y:bu):∀(l:List Int) (S:List bu) (j:Nat),(∀k∈l,0<=k∧k<S.length)->gt (kO S y l) j=if(j:Int)∈l then wT (gt S j) y else gt S j
 |[],S,j,_=>by simp[kO]
 |k::l,S,j,h=>by
  obtain⟨k0,k1⟩:=h k kI;have ih:=Sy y l (S.set k.toNat (wT (gt S k.toNat) y)) j (λq hq=>by rw[List.length_set];exact h q (eR _ hq));show gt (kO (S.set k.toNat (wT (gt S k.toNat) y)) y l) j=_;rw[ih,gV (by omega)];by_cases mb:j=k.toNat
  ·have e:(j:Int)=k:=by omega
   rw[aI mb,aI (show(j:Int)∈k::l by rw[e];exact kI)];by_cases hl:(j:Int)∈l
   ·rw[aI hl,<-mb];rfl
   ·rw[aK hl,<-mb]
  ·have e:(j:Int)≠k:=by omega
   rw[aK mb];by_cases hl:(j:Int)∈l
   ·rw[aI hl,aI (eR _ hl)]
   ·rw[aK hl,aK (λhh=>by rcases cj.1 hh with h|h;exact e h;exact hl h)]
section
variable {b:au} {p:aw}
def lD(b:au)(p:aw)(k:Nat):Nat:=(gt (eP b p (conn b p (k:Int)).1).aj 0).toNat
def kB(b:au)(p:aw)(k:Nat):bu:=if(conn b p (k:Int)).2=ab then wT (gt p.aj k) (gt p.aj (lD b p k))else gt p.aj k
def lL(b:au)(p:aw):List bu:=(bW p.aj.length).map (kB b p)
def rP(b:au)(p:aw):aw:=⟨p.aE,lL b p,p.aT,p.aP⟩
def vQ:(lL b p).length=p.aj.length:=by simp[lL]
def y5{k:Nat}(h:k<p.aj.length):gt (lL b p) k=kB b p k:=by unfold lL;rw[lK _ h]
def AN{x:bz}(hx:x∈bq b p){s:Int}(hs:s∈x.aj):∃j:Nat,s=(j:Int)∧j<b.aj.length∧(conn b p (j:Int)).2=ab∧x=eP b p (conn b p (j:Int)).1:=by obtain⟨f,hf,rfl,_⟩:=AB.1 hx;obtain⟨j,h1,h2,h3,h4⟩:=ML.1 hs;refine⟨j,h4,h1,h2,?_⟩;unfold eP;rw[h3,iQ]
def RF(hb:cI b){j:Nat}(hj:j<b.aj.length)(hc:(conn b p (j:Int)).2=ab):eP b p (conn b p (j:Int)).1∈bq b p∧(j:Int)∈(eP b p (conn b p (j:Int)).1).aj:=by have sS:=WO hb hc;refine⟨(ac7 hb sS.1 sS.2).1,?_⟩;unfold eP;have:=(BC (p:=p) hb (show(conn b p (j:Int)).1.toNat<b.aA.toNat by omega)).1;exact ML.2 ⟨j,hj,hc,by omega,rfl⟩
def acV(hb:cI b){j:Nat}(hj:j<b.aj.length)(hc:(conn b p (j:Int)).2=ab):
  gt (eP b p (conn b p (j:Int)).1).aj 0=(lD b p j:Int)∧lD b p j<b.aj.length∧(conn b p (lD b p j:Int)).2=ab∧eP b p (conn b p (lD b p j:Int)).1=eP b p (conn b p (j:Int)).1∧lD b p (lD b p j)=lD b p j:=by
 obtain⟨h1,h2⟩:=RF hb hj hc
 have hlen:0<(eP b p (conn b p (j:Int)).1).aj.length:=List.length_pos_of_mem h2
 obtain⟨i,e1,e2,e3,e4⟩:=AN h1 (cX hlen)
 have e5:lD b p j=i:=by unfold lD;rw[e1,iQ]
 rw[e5]
 refine⟨e1,e2,e3,e4.symm,?_⟩
 unfold lD
 rw[<-e4,e1,iQ]
def axu(hb:cI b)(hl:gy b)(D5:p.aj.length=b.aj.length):aG (KA p (p.aE,p.aj,p.aT,p.aP) (bq b p)) ((0:Int),p.aj)=aa (lL b p):=by
 have pM:=hl.jp;have mG:=hl.src;have lI:=Hy (b:=b) (p:=p);refine xT.1 ?_;refine dy (bq b p).length (λk s=>∃out,s=((k:Int),out)∧out.length=p.aj.length∧∀j,j<p.aj.length->gt out j=if ∃q,q<k∧(j:Int)∈(gt (bq b p) q).aj then kB b p j else gt p.aj j) ⟨_,rfl,rfl,λj hj=>by rw[aK (by rintro⟨q,hq,_⟩;omega)]⟩ ?_ ?_
 ·rintro k s hk ⟨out,rfl,h1,h2⟩;have hx:=cX hk;have yJ:∀s∈(gt (bq b p) k).aj,0<=s∧s<(p.aj.length:Int):=λs hs=>by obtain⟨j,rfl,h,_⟩:=AN hx hs;omega
  unfold KA;simp only[aZ hk,aH,aM hk,al];have pG:∀j:Nat,(∃q,q<k+1∧(j:Int)∈(gt (bq b p) q).aj)↔(∃q,q<k∧(j:Int)∈(gt (bq b p) q).aj)∨(j:Int)∈(gt (bq b p) k).aj:=λj=>by
   constructor
   ·rintro⟨q,hq,h⟩;by_cases UC:q=k
    ·subst UC;exact .inr h
    ·exact .inl ⟨q,by omega,h⟩
   ·rintro(⟨q,hq,h⟩|h)
    ·exact⟨q,by omega,h⟩
    ·exact⟨k,by omega,h⟩
  by_cases h0:(gt (bq b p) k).aj.length=0
  ·have e1:ak (len (gt (bq b p) k).aj>0)=ae:=dF (by unfold len;omega);simp only[e1,aC,aB,al];refine aq.2 ⟨out,by rw[aY (by omega)],h1,λj hj=>?_⟩;rw[h2 j hj];have e2:(gt (bq b p) k).aj=[]:=List.length_eq_zero_iff.1 h0;have hi:(∃q,q<k+1∧(j:Int)∈(gt (bq b p) q).aj)↔(∃q,q<k∧(j:Int)∈(gt (bq b p) q).aj):=by rw[pG,e2];simp
   by_cases hh:∃q,q<k∧(j:Int)∈(gt (bq b p) q).aj
   ·rw[aI hh,aI (hi.2 hh)]
   ·rw[aK hh,aK (λh=>hh (hi.1 h))]
  ·have hlen:0<(gt (bq b p) k).aj.length:=by omega
   have e1:ak (len (gt (bq b p) k).aj>0)=ab:=dT (by unfold len;omega);obtain⟨i,f1,f2,f3,f4⟩:=AN hx (cX hlen);have e0:idx (gt (bq b p) k).aj 0=aa (i:Int):=by have:=aM hlen;rw[f1]at this;exact this
   have fO:Sm (gt (bq b p) k).aj:=by obtain⟨f,_,e,_⟩:=AB.1 hx;rw[e];have:=(DZ (b:=b) (p:=p) f).2.1;unfold Sm;omega
   have yK:=apK (p:=⟨p.aE,out,p.aT,p.aP⟩) (y:=gt p.aj i) fO (λs hs=>by have:=yJ s hs;simp only;omega);simp only[e1,aH,e0,aM (show i<p.aj.length by omega),al,yK];refine aq.2 ⟨_,by rw[aY (by omega)],by rw[GZ];exact h1,λj hj=>?_⟩;rw[Sy _ _ _ _ (λs hs=>by have:=yJ s hs;omega),h2 j hj];by_cases uf:(j:Int)∈(gt (bq b p) k).aj
   ·rw[aI uf,aI ((pG j).2 (.inr uf))];obtain⟨j',g1,g2,g3,g4⟩:=AN hx uf;have:j'=j:=by omega
    subst this;have H3:lD b p j'=i:=by unfold lD;rw[<-g4,f1,iQ]
    have hf:kB b p j'=wT (gt p.aj j') (gt p.aj i):=by unfold kB;rw[aI g3,H3]
    rw[hf];split<;>rfl
   ·rw[aK uf];by_cases hh:∃q,q<k∧(j:Int)∈(gt (bq b p) q).aj
    ·rw[aI hh,aI ((pG j).2 (.inl hh))]
    ·rw[aK hh,aK (λh=>((pG j).1 h).elim hh uf)]
 ·rintro s ⟨out,rfl,h1,h2⟩;unfold KA;simp only[bC,aC,aB];refine aq.2 ?_;have:out=lL b p:=by
   apply jZ
   ·rw[vQ,h1]
   ·intro j hj;rw[h2 j (by omega),y5 (by omega)];by_cases hc:(conn b p (j:Int)).2=ab
    ·obtain⟨g1,g2⟩:=RF hb (show j<b.aj.length by omega) hc;obtain⟨q,hq,e⟩:=lC g1;rw[aI ⟨q,hq,by rw[e];exact g2⟩]
    ·have hf:kB b p j=gt p.aj j:=by unfold kB;rw[aK hc]
     rw[hf];split<;>rfl
  rw[this]
def follow_eq(hb:fw b)(hp:dA p)(h:bo b p=0):zU b p=aa (0,p.aE,lL b p,p.aT,p.aP):=by
 obtain⟨⟨hl,hg⟩,⟨s1,s2,s3⟩,_⟩:=fi.1 h;unfold zU;have e:(bo b p !=0)=ae:=by rw[h];rfl
 simp only[xZ hb hp,al,e,aC,aB,E3 hp,TY hb hp h,axu hg.1 hl s2]
def WN{q:aw}(hc:q.aE=p.aE)(hl:q.aj.length=p.aj.length)(hs:∀j,j<p.aj.length->(gt q.aj j).State=(gt p.aj j).State)(j:Int):conn b q j=conn b p j:=by
 have Bi:gn b q 2 j=gn b p 2 j:=by unfold gn m9;rw[hc]
 unfold conn;rw[hl,Bi];by_cases h:0<=j∧j<=(p.aj.length:Int)-1
 ·rw[aI h,aI h,hs j.toNat (by omega)]
 ·rw[aK h,aK h]
def aou{q:aw}(hc:q.aE=p.aE)(k:Nat)(f:List Int):h_ b q k f=h_ b p k f:=by
 induction k with
 |zero=>rfl
 |succ k ih=>unfold h_;rw[ih];unfold oy;rw[hc]
def NZ{q:aw}(hc:q.aE=p.aE):cB b q=cB b p:=by
 unfold cB;generalize own b.aA.toNat=f;induction b.aA.toNat with
 |zero=>rfl
 |succ r ih=>unfold rounds;rw[ih,aou hc]
def asT{q:aw}(hc:q.aE=p.aE)(kind j:Int):gn b q kind j=gn b p kind j:=by unfold gn m9;rw[hc]
def atg{q:aw}(hc:q.aE=p.aE)(hl:q.aj.length=p.aj.length)(hs:∀j,j<p.aj.length->(gt q.aj j).State=(gt p.aj j).State)(f:Nat):dZ b q f=dZ b p f:=by
 unfold dZ;have e1:iZ b q f=iZ b p f:=by funext i;unfold iZ;rw[NZ hc]
 have e2:ik b q f=ik b p f:=by funext i;unfold ik;rw[NZ hc,WN hc hl hs]
 have e3:iu b q f=iu b p f:=by funext i;unfold iu;rw[NZ hc,asT hc]
 rw[e1,e2,e3]
def atk{q:aw}(hc:q.aE=p.aE)(hl:q.aj.length=p.aj.length)(hs:∀j,j<p.aj.length->(gt q.aj j).State=(gt p.aj j).State)(k:Int):eP b q k=eP b p k:=by unfold eP;rw[atg hc hl hs,NZ hc]
def asZ{q:aw}(hc:q.aE=p.aE)(hl:q.aj.length=p.aj.length)(hs:∀j,j<p.aj.length->(gt q.aj j).State=(gt p.aj j).State)(k:Nat):lD b q k=lD b p k:=by unfold lD;rw[WN hc hl hs,atk hc hl hs]
def aaC{q:aw}(h:bo b p=0)(hc:q.aE=p.aE)(hl:q.aj.length=p.aj.length)(sN:q.aT=p.aT)(nV:q.aP=p.aP)(hr:∀k,k<q.aj.length->gY (gt q.aj k)):bo b q=0:=by
 obtain⟨h1,⟨s1,s2,s3⟩,g1,g2,g3⟩:=fi.1 h;have av3:∀j n,eZ b q j n=eZ b p j n:=λj n=>I5 λi _ _ _=>by rw[hc]
 refine fi.2 ⟨h1,⟨by rw[hc];exact s1,by rw[hl];exact s2,by rw[sN];exact s3⟩,by rw[nV];exact g1,hr,λk hk=>?_⟩;have:=g3 k (by rw[<-sN];exact hk);unfold uF at this⊢;rw[sN,av3];exact this
def axw(j:Nat):(kB b p j).State=(gt p.aj j).State:=by unfold kB;split<;>rfl
def afi{j:Nat}(hj:j<p.aj.length):(gt (rP b p).aj j).State=(gt p.aj j).State:=by show(gt (lL b p) j).State=_;rw[y5 hj,axw]
def ap5{x y:bu}(hx:gY x)(hy:gY y):gY (wT x y):=⟨hx.1,hx.2.1,hy.2.2.1,hy.2.2.2⟩
def aaD(h:bo b p=0):bo b (rP b p)=0:=by
 obtain⟨⟨hl,hg⟩,⟨s1,s2,s3⟩,g1,g2,g3⟩:=fi.1 h;refine aaC h rfl vQ rfl rfl λk hk=>?_;have da:k<p.aj.length:=by rw[<-vQ (b:=b)];exact hk
 show gY (gt (lL b p) k);rw[y5 da];unfold kB;split
 ·rename_i hc;obtain⟨_,e,_⟩:=acV hg.1 (show k<b.aj.length by omega) hc;exact ap5 (g2 k da) (g2 _ (by omega))
 ·exact g2 k da
def afh(h:bo b p=0):lL b (rP b p)=lL b p:=by
 obtain⟨⟨hl,hg⟩,⟨s1,s2,s3⟩,g1,g2,g3⟩:=fi.1 h;have b6:∀j,j<p.aj.length->(gt (rP b p).aj j).State=(gt p.aj j).State:=λj hj=>afi hj;have hlen:(rP b p).aj.length=p.aj.length:=vQ;apply jZ
 ·rw[vQ,vQ,hlen]
 ·intro k hk;rw[vQ,hlen]at hk;rw[y5 (by omega),y5 hk];have e1:gt (rP b p).aj k=kB b p k:=y5 hk;unfold kB at e1⊢;rw[WN (p:=p) (q:=rP b p) rfl hlen b6,asZ (p:=p) (q:=rP b p) rfl hlen b6];by_cases hc:(conn b p (k:Int)).2=ab
  ·rw[aI hc]at e1⊢;obtain⟨_,e2,e3,_,e5⟩:=acV hg.1 (show k<b.aj.length by omega) hc;have e6:gt (rP b p).aj (lD b p k)=kB b p (lD b p k):=y5 (by omega);unfold kB at e6;rw[aI e3,e5]at e6;rw[aI hc,e1,e6];rfl
  ·rw[aK hc]at e1⊢;rw[aK hc];exact e1
end
end Rx
namespace Rx
open Classical
def abg(x y:bu):(x.State==y.State&&(x.gX==y.gX&&(x.a_==y.a_&&x.bn==y.bn)))=ab↔x=y:=by obtain⟨a,b,c,d⟩:=x;obtain⟨a',b',c',d'⟩:=y;simp
def abZ(x y:Part):(x.Kind==y.Kind&&x.Number==y.Number)=ab↔x=y:=by obtain⟨a,b⟩:=x;obtain⟨a',b'⟩:=y;simp
section
variable {b:au} {p:aw}
end
def aaR{b:au}{p:aw}(h:dA p):dA (rP b p):=⟨h.1,by show Sm (lL b p);unfold Sm;rw[vQ];exact h.2.1,h.2.2.1,h.2.2.2⟩
end Rx
namespace Rx
def swapAt(d:List Int)(j:Nat):List Int:=(d.set (j+1) (d.getD j 0)).set j (d.getD (j+1) 0)
def inner(lt:Int->Int->Bool):Nat->List Int->List Int
 |0,d=>d
 |j+1,d=>if lt (d.getD (j+1) 0) (d.getD j 0)=ab then inner lt j (swapAt d j)else d
def outer(lt:Int->Int->Bool):Nat->Nat->List Int->List Int
 |0,_,d=>d
 |m+1,i,d=>outer lt m (i+1) (inner lt i d)
def Ok(n:Nat)(p:Int->Prop)(d:List Int):Prop:=d.length=n∧∀x∈d,p x
def Mu{n:Nat}{p:Int->Prop}{d:List Int}(h:Ok n p d){j:Nat}(hj:j<n):p (d.getD j 0):=by
 have hl:=h.1;have:d.getD j 0=d[j]:=by simp[List.getD,hl,hj]
 rw[this];exact h.2 _ (List.getElem_mem _)
def arz{n:Nat}{p:Int->Prop}{d:List Int}(h:Ok n p d){j:Nat}(hj:j+1<n):Ok n p (swapAt d j):=by
 refine⟨by simp[swapAt,h.1],λx hx=>?_⟩;unfold swapAt at hx;rcases List.mem_or_eq_of_mem_set hx with hx|rfl
 ·rcases List.mem_or_eq_of_mem_set hx with hx|rfl
  ·exact h.2 x hx
  ·exact Mu h (by omega)
 ·exact Mu h hj
def pt(r:List Int):Int:=r.foldr (·+·) 0
def rest(total:Int)(r:List Int)(s:Int)(i:Int):Int:=(total*r.getD i.toNat 0)% s
def kY(n:Nat):List Int:=(bW n).map Int.ofNat
def Ez(n:Nat):(kY n).length=n:=by simp[kY]
def aoJ{l:List Int}{B:Int}(h:∀x∈l,0<=x∧x<=B):0<=pt l∧pt l<=B*l.length:=by
 induction l with
 |nil=>simp[pt]
 |cons x l ih=>
  have h1:=ih λy hy=>h y (eR _ hy);have h2:=h x kI;have:pt (x::l)=x+pt l:=rfl;rw[this];have e:B*((x::l).length:Int)=B*l.length+B:=by simp[Int.mul_add]
  rw[e];omega
def ayn(n:Nat):Ok n (λx=>0<=x∧x<n) (kY n):=by refine⟨Ez n,λx hx=>?_⟩;obtain⟨k,hk,rfl⟩:=dk.1 hx;have:=ew.1 hk;exact⟨Int.natCast_nonneg k,by simpa using this⟩
section
variable {r:List Int} {total s:Int}
def Ua{d:List Int}{j:Nat}(h:j<d.length):idx d (j:Int)=aa (d.getD j 0):=aM h
end
def oG(lt:Int->Int->Bool)(x:Int):List Int->List Int
 |[]=>[x]
 |y::l=>if lt x y=ab then y::oG lt x l else x::y::l
def ada(lt:Int->Int->Bool)(x:Int):∀l:List Int,(oG lt x l).length=l.length+1
 |[]=>rfl
 |y::l=>by
  unfold oG;split
  ·simp[ada lt x l]
  ·rfl
def M7(lt:Int->Int->Bool)(x:Int):∀l:List Int,(oG lt x l).Perm (x::l)
 |[]=>List.Perm.refl _
 |y::l=>by
  unfold oG;split
  ·exact((M7 lt x l).cons y).trans (List.Perm.swap x y l)
  ·exact List.Perm.refl _
def axj(l m:List Int)(a:Int):(l++a::m).getD l.length 0=a:=by simp[List.getD]
def ade(lt:Int->Int->Bool)(x:Int):∀(l post:List Int),inner lt l.length (l.reverse++x::post)=(oG lt x l).reverse++post
 |[],post=>rfl
 |y::l,post=>by
  have hl:l.reverse.length=l.length:=List.length_reverse;have e0:(y::l).reverse++x::post=l.reverse++y::x::post:=by simp
  have e1:(l.reverse++y::x::post).getD l.length 0=y:=by rw[<-hl];exact axj _ _ _
  have e2:(l.reverse++y::x::post).getD (l.length+1) 0=x:=by simp
  rw[e0];show inner lt (l.length+1) _=_;rw[inner,e1,e2,oG];split
  ·rename_i h;have e3:swapAt (l.reverse++y::x::post) l.length=l.reverse++x::y::post:=by
    unfold swapAt;rw[e1,e2,List.set_append_right _ _ (by omega),hl];have:l.length+1-l.length=1:=by omega
    rw[this,List.set_append_right _ _ (by omega),hl,Nat.sub_self];rfl
   rw[e3,ade lt x l (y::post)];simp
  ·simp
def ab3(lt:Int->Int->Bool):∀(xs l:List Int),outer lt xs.length l.length (l.reverse++xs)=(xs.foldl (λa x=>oG lt x a) l).reverse
 |[],l=>by simp[outer]
 |x::xs,l=>by show outer lt (xs.length+1) l.length _=_;rw[outer,ade lt x l xs];have:=ab3 lt xs (oG lt x l);rw[ada]at this;rw[this];rfl
def J0(f:Int->Int)(a b:Int):Prop:=f a<f b∨(f a=f b∧b<a)
def ac'{lt:Int->Int->Bool}{f:Int->Int}(aS:∀x y,lt x y=ab↔f y<f x){x:Int}:∀{l:List Int},(∀y∈l,y<x)->l.Pairwise (J0 f)->(oG lt x l).Pairwise (J0 f)
 |[],_,_=>by simp[oG]
 |y::l,hx,h=>by
  have h':=pY.1 h;unfold oG;split
  ·rename_i hh;have hf:=(aS x y).1 hh;refine pY.2 ⟨λz hz=>?_,ac' aS (λz hz=>hx z (eR _ hz)) h'.2⟩;have oH:=(M7 lt x l).mem_iff.1 hz;rcases cj.1 oH with rfl|oH
   ·exact .inl hf
   ·exact h'.1 z oH
  ·rename_i hh;have hf:f x<=f y:=by apply Int.not_lt.1;intro h2;exact hh ((aS x y).2 h2)
   refine pY.2 ⟨λz hz=>?_,h⟩;have hzx:=hx z hz;have M_:f y<=f z:=by
    rcases cj.1 hz with rfl|hz
    ·exact Int.le_refl _
    ·rcases h'.1 z hz with h3|h3<;>omega
   rcases Int.lt_or_le (f x) (f z)with h4|h4
   ·exact .inl h4
   ·exact .inr ⟨by omega,hzx⟩
def afg{lt:Int->Int->Bool}{f:Int->Int}(aS:∀x y,lt x y=ab↔f y<f x):∀(xs l:List Int),xs.Pairwise (·<·)->(∀y∈l,∀x∈xs,y<x)->l.Pairwise (J0 f)->
  (xs.foldl (λa x=>oG lt x a) l).Pairwise (J0 f)∧(xs.foldl (λa x=>oG lt x a) l).Perm (xs++l)
 |[],l,_,_,h=>⟨h,List.Perm.refl _⟩
 |x::xs,l,hp,hl,h=>by
  have qC:=pY.1 hp;have h1:=ac' aS (x:=x) (l:=l) (λy hy=>hl y hy x kI) h;have ih:=afg aS xs (oG lt x l) qC.2 (λy hy z hz=>by
   have gp:=(M7 lt x l).mem_iff.1 hy;rcases cj.1 gp with rfl|gp
   ·exact qC.1 z hz
   ·exact hl y gp z (eR _ hz)) h1
  refine⟨ih.1,ih.2.trans ?_⟩;exact((M7 lt x l).append_left xs).trans List.perm_middle
def aym(n:Nat):(kY n).Pairwise (·<·):=by unfold kY;rw[List.pairwise_map];exact List.pairwise_lt_range.imp λh=>by simpa using h
def aoK(a b:List Int):pt (a++b)=pt a+pt b:=by
 induction a with
 |nil=>simp[pt]
 |cons x a ih=>show x+pt (a++b)=x+pt a+pt b;rw[ih];omega
section
variable {r:List Int} {total:Int}
end
end Rx
namespace Rx
section
variable {b:au} {p:aw}
def nI(f:Nat->Int)(l:List Int):Int:=pt (l.map λk=>f k.toNat)
def aaB(f:Nat->Int)(l:List Int)(k:Int):nI f (l++[k])=nI f l+f k.toNat:=by unfold nI;rw[mS,aoK];simp[pt]
def KB{f:Nat->Int}{l:List Int}{B:Int}(h:∀k∈l,0<=f k.toNat∧f k.toNat<=B):0<=nI f l∧nI f l<=B*l.length:=by
 have:=aoJ (l:=l.map λk=>f k.toNat) (B:=B) (λx hx=>by obtain⟨k,hk,rfl⟩:=dk.1 hx;exact h k hk)
 simpa[nI]using this
def MZ(p:aw)(x:bz):Int:=if x.aj=[]then 0 else nI (gt p.aT) x.ay
def yn(b:au)(x:bz):Int:=nI (λk=>(gt b.aj k).iE) x.aj
def acb(hg:cI b)(k:Int):(∀c∈(fV b p k).1.ay,0<=c∧c<b.ay.length)∧(∀c∈(fV b p k).1.aj,0<=c∧c<b.aj.length)∧(fV b p k).1.ay.length<=b.ay.length∧(fV b p k).1.aj.length<=b.aj.length:=by
 unfold fV;split
 ·have h:=DZ (b:=b) (p:=p) (gt (cB b p) k.toNat).toNat;refine⟨λc hc=>?_,λc hc=>?_,h.2.2,h.2.1⟩
  ·obtain⟨j,hj,_,_,e⟩:=acv.1 hc;omega
  ·obtain⟨j,hj,_,_,e⟩:=ML.1 hc;omega
 ·exact⟨λc hc=>(by cases hc),λc hc=>(by cases hc),jS _,jS _⟩
def M0(h:bo b p=0){k:Nat}(hk:k<b.ay.length):0<=gt p.aT k∧gt p.aT k<=50000:=by obtain⟨⟨hl,hg⟩,⟨s1,s2,s3⟩,g1,g2,g3⟩:=fi.1 h;have h1:=(g3 k (by omega)).1;have h2:=(hg.2.2.2.2 k hk).2.1;omega
def SV(h:bo b p=0){k:Nat}(hk:k<b.aj.length):1<=(gt b.aj k).iE∧(gt b.aj k).iE<=50000:=by obtain⟨⟨hl,hg⟩,_⟩:=fi.1 h;exact(hg.2.2.2.1 k hk).1
def MA(h:bo b p≠0)(k:Int):(fV b p k).1=⟨[],[],[]⟩:=by unfold fV;rw[aK (λhn=>h hn.1)]
def asD(hb:fw b)(hp:dA p)(k:Int):JE b p k=aa (MZ p (fV b p k).1):=by
 by_cases h:bo b p=0
 case neg=>
  unfold JE;rw[of_eq hb hp];have e:pA b p k=([],[],[],(fV b p k).2):=by unfold pA;rw[MA h]
  rw[e,MA h];rfl
 obtain⟨⟨hl,hg⟩,⟨s1,s2,s3⟩,_⟩:=fi.1 h;obtain⟨h1,h2,h3,h4⟩:=acb (p:=p) hg.1 k;have h8:=hl.iY;generalize hx:(fV b p k).1=x at*;have yQ:=dR (step:=Fq p (pA b p k)) (λi=>(if x.aj=[]then 0 else nI (gt p.aT) (x.ay.take i),(i:Int))) x.ay.length (r:=MZ p x) (λi hi=>by
  obtain⟨c0,c1⟩:=h1 _ (cX hi);obtain⟨c,ec⟩:=nF c0;have ec:gt x.ay i=(c:Int):=ec;have hc:c<p.aT.length:=by omega
  have e1:(pA b p k).2.2.1=x.ay:=by rw[<-hx];rfl
  have e2:(pA b p k).2.1=x.aj:=by rw[<-hx];rfl
  have sS:=KB (f:=gt p.aT) (l:=x.ay.take i) (B:=50000) (λc hc=>by have:=h1 c (uI hc);exact M0 h (by omega))
  have hlen:(x.ay.take i).length<=16:=by simp;omega
  have Ik:=M0 h (k:=c) (by omega);by_cases hs:x.aj=[]
  ·simp only[Fq,e1,e2,hs,aZ hi,aH,aM hi,ec,al,dF (show ¬len ([]:List Int)>0 by decide),aC,aB,aY (show i<1000000000000000000 by omega)]
  ·have oI:len x.aj>0:=by have:=xK.2 hs;unfold len;omega
   simp only[Fq,e1,e2,aK hs,aZ hi,aH,aM hi,ec,al,dT oI,aM hc,aY (show i<1000000000000000000 by omega),lr hi,aaB,iQ];rw[bX (by omega) (by omega)]) (by
  have e1:(pA b p k).2.2.1=x.ay:=by rw[<-hx];rfl
  simp only[Fq,e1,bC,aC,aB,oZ];rfl)
 unfold JE;have e0:(if x.aj=[]then(0:Int)else nI (gt p.aT) (x.ay.take 0),((0:Nat):Int))=(0,0):=by simp[nI,pt]
 have Nt:aG (Fq p (pA b p k)) (if x.aj=[]then(0:Int)else nI (gt p.aT) (x.ay.take 0),((0:Nat):Int))=_:=yQ;rw[e0]at Nt;simp only[of_eq hb hp,al,Nt]
def aqV(hb:fw b)(hp:dA p)(k:Int):JD b p k=aa (yn b (fV b p k).1):=by
 by_cases h:bo b p=0
 case neg=>
  unfold JD;rw[of_eq hb hp];have e:pA b p k=([],[],[],(fV b p k).2):=by unfold pA;rw[MA h]
  rw[e,MA h];rfl
 obtain⟨⟨hl,hg⟩,⟨s1,s2,s3⟩,_⟩:=fi.1 h;obtain⟨h1,h2,h3,h4⟩:=acb (p:=p) hg.1 k;have h8:=hl.src;generalize hx:(fV b p k).1=x at*;have e2:(pA b p k).2.1=x.aj:=by rw[<-hx];rfl
 have yQ:=dR (step:=JC b (pA b p k)) (λi=>(nI (λk=>(gt b.aj k).iE) (x.aj.take i),(i:Int))) x.aj.length (r:=yn b x) (λi hi=>by
  obtain⟨c0,c1⟩:=h2 _ (cX hi);obtain⟨c,ec⟩:=nF c0;have ec:gt x.aj i=(c:Int):=ec;have hc:c<b.aj.length:=by omega
  have sS:=KB (f:=λk=>(gt b.aj k).iE) (l:=x.aj.take i) (B:=50000) (λc hc=>by have:=h2 c (uI hc);have:=SV h (k:=c.toNat) (by omega);exact⟨by omega,this.2⟩)
  have hlen:(x.aj.take i).length<=8:=by simp;omega
  have Ik:=SV h (k:=c) (by omega);simp only[JC,e2,aZ hi,aH,aM hi,ec,al,aM hc,aY (show i<1000000000000000000 by omega),lr hi,aaB,iQ];rw[bX (by omega) (by omega)]) (by
  simp only[JC,e2,bC,aC,aB,oZ];rfl)
 unfold JD;have Nt:aG (JC b (pA b p k)) (0,0)=_:=yQ;simp only[of_eq hb hp,al,Nt]
def Hx(hg:cI b){x:bz}(hx:x∈bq b p):(∀c∈x.ay,0<=c∧c<b.ay.length)∧(∀c∈x.aj,0<=c∧c<b.aj.length)∧x.ay.length<=b.ay.length∧x.aj.length<=b.aj.length∧0<x.aA.length:=by
 obtain⟨f,hf,e,bM⟩:=AB.1 hx;have h:=DZ (b:=b) (p:=p) f;rw[e];refine⟨λc hc=>?_,λc hc=>?_,h.2.2,h.2.1,xK.2 bM⟩
 ·obtain⟨j,hj,_,_,e⟩:=acv.1 hc;omega
 ·obtain⟨j,hj,_,_,e⟩:=ML.1 hc;omega
def atm(h:bo b p=0){x:bz}(hx:x∈bq b p):(fV b p (gt x.aA 0)).1=x:=by obtain⟨⟨hl,hg⟩,_⟩:=fi.1 h;have hb0:=(Hx hg.1 hx).2.2.2.2;obtain⟨h1,h2,h3⟩:=ac6 hx (cX hb0);unfold fV;rw[aI ⟨h,h1,by omega⟩];exact h3.symm
end
end Rx
namespace Rx
def S5{p q:Part}(h1:p.Kind=q.Kind)(h2:p.Number=q.Number):p=q:=by cases p;cases q;simp at h1 h2;rw[h1,h2]
section
variable {b:au} {p:aw}
def di(p:aw)(k n:Int):Bool:=dB ((⟨k,n⟩:Part)∈p.aP)
def akv(hp:dA p)(k n:Int):tr p k n=aa (di p k n):=by
 have hl:=hp.2.2.2;unfold tr GL KL;have e1:∀i,((k==(gt p.aP i).Kind&&n==(gt p.aP i).Number)=ab↔gt p.aP i=(⟨k,n⟩:Part)):=λi=>by simp only[Bool.and_eq_true,sf];exact⟨λ⟨h1,h2⟩=>S5 h1.symm h2.symm,λh=>by rw[h];exact⟨rfl,rfl⟩⟩
 by_cases hm:(⟨k,n⟩:Part)∈p.aP
 ·have hw:Wp (aG (wH p.aP ⟨k,n⟩) 0) λr=>∃q:Nat,r= .inr (q:Int):=by
   obtain⟨j,hj,he⟩:=lC hm;refine dy p.aP.length (λk s=>s=(k:Int)∧k<=j) ⟨rfl,by omega⟩ (λi s hi hv=>?_) (λs hv=>by omega) (aaQ hl);obtain⟨rfl,hv⟩:=hv;unfold wH;simp only[aZ hi,aH,aM hi,al];cases hb:(k==(gt p.aP i).Kind&&n==(gt p.aP i).Number)with
   |true=>simp only[aH];exact aq.2 ⟨i,rfl⟩
   |false=>
    simp only[aC,aB];refine aq.2 ⟨aY (eT hl hi),?_⟩;by_cases e:i=j
    ·subst e;rw[(e1 i).2 he]at hb;cases hb
    ·omega
  obtain⟨r,e,q,rfl⟩:=hw;rw[e];unfold di;rw[fG hm];simp only[al,bE];rw[dT (by omega)]
 ·have e:aG (wH p.aP ⟨k,n⟩) 0=aa (.inl ()):=dR (r:=Sum.inl ()) (λk=>(k:Int)) p.aP.length (λi hi=>by
   unfold wH;simp only[aZ hi,aH,aM hi,al];cases hb:(k==(gt p.aP i).Kind&&n==(gt p.aP i).Number)with
   |true=>exact(hm ((e1 i).1 hb▸cX hi)).elim
   |false=>simp only[aC,aB];rw[aY (eT hl hi)]) (by
   unfold wH;simp only[bC,aC,aB]) (aaQ hl)
  rw[e];unfold di;rw[fH hm];simp only[al,bx];rw[dF (by omega)]
def sI(b:au)(p:aw)(k:Int):Bool:=ak (0<(fV b p k).1.aj.length)
def acO(hb:fw b)(hp:dA p)(k:Int):Fl b p k=aa (sI b p k):=asH hb hp k
def jl(p:aw)(x:cL):Bool:=di p 3 x.A||(if x.Kind=1 then di p 3 x.B else if x.Kind=2 then di p 1 x.B||((gt p.aj x.B.toNat).State !=2)else di p 4 x.B)
def ayW(hp:dA p){x:cL}(hx:x.Kind=2->0<=x.B∧x.B<p.aj.length)(a:List Act):L8 ⟨b,p,a⟩ x=aa (jl p x):=by
 unfold L8 Dj jl;simp only[akv hp,al];cases di p 3 x.A with
 |true=>simp only[aH,Bool.true_or]
 |false=>
  simp only[aC,aB,Bool.false_or];by_cases h1:x.Kind=1
  ·rw[gu h1,aI h1];simp only[aH]
  ·rw[dL h1,aK h1];simp only[aC,aB];by_cases h2:x.Kind=2
   ·rw[gu h2,aI h2];simp only[aH];cases di p 1 x.B with
    |true=>simp only[aH,al,Bool.true_or]
    |false=>have:=hx h2;simp only[aC,aB,iI this.1 this.2,al,Bool.false_or]
   ·rw[dL h2,aK h2];simp only[aC,aB]
def ic(C:List Bool)(P:Nat->Bool):List Bool:=(bW C.length).map λi=>gt C i&& !P i
def kn(C:List Bool)(P:Nat->Bool):(ic C P).length=C.length:=by simp[ic]
def ql{C:List Bool}{P:Nat->Bool}{i:Nat}(h:i<C.length):gt (ic C P) i=(gt C i&& !P i):=lK _ h
def qX(i:Int):Act:=⟨2,i,0⟩
def gJ(C:List Bool)(P:Nat->Bool):List Int:=bG (λi=>gt C i&&P i) C.length
def dY(b:au)(p:aw)(a:List Act):Int×List cL×List Source×List Consumer×Int×Int×List Bool×List bu×List Int×List Part×List Act:=(b.aA,b.ah,b.aj,b.ay,b.bn,b.a_,p.aE,p.aj,p.aT,p.aP,a)
def Ms(C:List Bool)(l:List Int)(h:∀k∈l,0<=k∧k<(C.length:Int)):∀i,gt (l.foldl (λc k=>c.set k.toNat ae) C) i=(gt C i&& !ak ((i:Int)∈l))∧(l.foldl (λc k=>c.set k.toNat ae) C).length=C.length:=by
 induction l generalizing C with
 |nil=>intro i;simp
 |cons k l ih=>
  intro i;have hk:=h k (by simp);have:=ih (C.set k.toNat ae) (λj hj=>by have:=h j (by simp[hj]);simpa using this) i;simp only[List.foldl_cons];rw[this.1,this.2];refine⟨?_,by simp⟩;rw[gV (by omega)];by_cases e:i=k.toNat
  ·have:(i:Int)=k:=by omega
   rw[aI e,this];simp
  ·have:(i:Int)≠k:=by omega
   rw[aK e];simp[this]
def Tb{b:au}{p:aw}{a:List Act}{l:List Int}(hC:p.aE.length<=1000)(hl:l.length<=1000)(ha:a.length<=10000000)(h:∀k∈l,0<=k∧k<(p.aE.length:Int)):
  aG (Dz l) (0,dY b p a)=aa (dY b {p with aE:=l.foldl (λc k=>c.set k.toNat ae) p.aE} (a++l.map qX)):=by
 have:=dR (step:=Dz l) (r:=dY b {p with aE:=l.foldl (λc k=>c.set k.toNat ae) p.aE} (a++l.map qX)) (λk=>((k:Int),dY b {p with aE:=(l.take k).foldl (λc k=>c.set k.toNat ae) p.aE} (a++(l.take k).map qX))) l.length (λk hk=>by
  have hg:=h _ (cX hk);have lH:=(Ms p.aE (l.take k) (λj hj=>h j (uI hj)) 0).2;unfold Dz G9;simp only[dY,aZ hk,aH,aM hk,al];rw[iI (l:=(l.take k).foldl (λc k=>c.set k.toNat ae) p.aE) hg.1 (by rw[lH];exact hg.2),Dl hg.1 (by rw[lH];exact hg.2),cJ (by simp;omega),aY (by omega)];simp only[al,lr hk,List.foldl_append,List.foldl_cons,List.foldl_nil,mS,List.map_cons,List.map_nil,List.append_assoc];rfl) (by
  unfold Dz;simp only[dY,bC,aC,aB,oZ]) (by omega)
 simpa using this
def BE{C:List Bool}{P:Nat->Bool}:∀k∈gJ C P,0<=k∧k<(C.length:Int):=λk hk=>by obtain⟨i,hi,_,rfl⟩:=yz.1 hk;omega
def VX(C:List Bool)(P:Nat->Bool):(gJ C P).foldl (λc k=>c.set k.toNat ae) C=ic C P:=by
 refine jZ (by rw[(Ms C (gJ C P) BE 0).2,kn]) λi hi=>?_;rw[(Ms C (gJ C P) BE 0).2]at hi;rw[(Ms C (gJ C P) BE i).1,ql hi];cases hc:gt C i with
 |false=>simp
 |true=>
  simp only[Bool.true_and];congr 1;cases hP:P i with
  |true=>exact wh (yz.2 ⟨i,hi,by simp[hc,hP],rfl⟩)
  |false=>
   refine J1 λhm=>?_;obtain⟨j,_,hj,e⟩:=yz.1 hm;have:i=j:=by omega
   subst this;rw[hP]at hj;simp at hj
def BF(C:List Bool)(P:Nat->Bool):(gJ C P).length<=C.length:=oz _ _
def jF(b:au)(p:aw):aw:={p with aE:=ic p.aE λi=>jl p (gt b.ah i)}
def dead(b:au)(p:aw)(x:cL):Bool:=x.Kind==3&& !sI b p x.A
def zg(b:au)(p:aw):aw:={jF b p with aE:=ic (jF b p).aE λi=>dead b (jF b p) (gt b.ah i)}
def xw(b:au)(p:aw):List Act:=(gJ p.aE λi=>jl p (gt b.ah i)).map qX++(gJ (jF b p).aE λi=>dead b (jF b p) (gt b.ah i)).map qX
def lM(b:au)(p:aw):aw:=rP b (zg b p)
def af6{q:aw}{j:Int}(h:∀k,gt q.aE k=ab->gt p.aE k=ab):∀n,eZ b q j n<=eZ b p j n:=by
 intro n;induction n with
 |zero=>exact bw _
 |succ n ih=>
  unfold eZ;by_cases hc:(gt b.ah n).Kind=3∧(gt b.ah n).B=j∧gt q.aE n=ab
  ·rw[aI hc,aI ⟨hc.1,hc.2.1,h n hc.2.2⟩];omega
  ·rw[aK hc];omega
def Rz{q:aw}(h:bo b p=0)(hl:q.aE.length=p.aE.length)(hs:q.aj=p.aj)(hm:q.aT=p.aT)(hb:q.aP=p.aP)(hc:∀k,gt q.aE k=ab->gt p.aE k=ab):bo b q=0:=by obtain⟨h1,⟨s1,s2,s3⟩,⟨g1,g2⟩,g3,g4⟩:=fi.1 h;refine fi.2 ⟨h1,⟨by omega,by rw[hs];exact s2,by rw[hm];exact s3⟩,⟨by rw[hb];exact g1,by rw[hb];exact g2⟩,by rw[hs];exact g3,λk hk=>?_⟩;rw[hm]at hk;obtain⟨a,c⟩:=g4 k hk;refine⟨by rw[hm];exact a,?_⟩;have:=af6 (b:=b) (j:=(k:Int)) hc b.ah.length;omega
def Hk{C:List Bool}{P:Nat->Bool}{k:Nat}(h:gt (ic C P) k=ab):gt C k=ab:=by
 by_cases hk:k<C.length
 ·rw[ql hk]at h;cases hc:gt C k with
  |true=>rfl
  |false=>rw[hc]at h;cases h
 ·unfold gt at h;rw[List.getD_eq_getElem?_getD,List.getElem?_eq_none (by rw[kn];omega)]at h;exact Bool.noConfusion h
def RA(h:bo b p=0):bo b (jF b p)=0:=Rz h (kn _ _) rfl rfl rfl λk hk=>Hk hk
def KC(h:bo b p=0):bo b (zg b p)=0:=Rz (RA h) (kn _ _) rfl rfl rfl λk hk=>Hk hk
def aaP{q:aw}(hp:dA p)(hl:q.aE.length=p.aE.length)(hs:q.aj=p.aj)(hm:q.aT=p.aT)(hb:q.aP=p.aP):dA q:=by obtain⟨h1,h2,h3,h4⟩:=hp;refine⟨?_,by rw[hs];exact h2,by rw[hm];exact h3,by rw[hb];exact h4⟩;unfold Sm at h1⊢;omega
def aaU(hp:dA p):dA (jF b p):=aaP hp (kn _ _) rfl rfl rfl
def aaT(hp:dA p):dA (zg b p):=aaP (aaU (b:=b) hp) (kn _ _) rfl rfl rfl
def lN(h:bo b p=0):p.aE.length=b.ah.length∧p.aj.length=b.aj.length∧b.ah.length<=24∧b.aj.length<=8∧b.ay.length<=16∧p.aT.length=b.ay.length:=by obtain⟨⟨hl,_⟩,⟨s1,s2,s3⟩,_⟩:=fi.1 h;exact⟨s1,s2,hl.di,hl.src,hl.iY,s3⟩
def RG(h:bo b p=0){k:Nat}(hk:k<b.ah.length)(h2:(gt b.ah k).Kind=2):0<=(gt b.ah k).B∧(gt b.ah k).B<(p.aj.length:Int):=by obtain⟨s1,s2,_⟩:=lN h;have:=(((fi.1 h).1.2).1.1 k hk).2;rcases this with c|c|c<;>omega
def aoH(hp:dA p)(h:bo b p=0){a:List Act}(ha:a.length<=1000000):LX ⟨b,p,a⟩=aa (dY b (jF b p) (a++(gJ p.aE λi=>jl p (gt b.ah i)).map qX)):=by
 obtain⟨s1,s2,s3,_⟩:=lN h;unfold LX;have e1:aG (G7 ⟨b,p,a⟩) (0,[])=aa (gJ p.aE λi=>jl p (gt b.ah i)):=by
  have:=dR (step:=G7 ⟨b,p,a⟩) (r:=gJ p.aE λi=>jl p (gt b.ah i)) (λk=>((k:Int),bG (λi=>gt p.aE i&&jl p (gt b.ah i)) k)) b.ah.length (λk hk=>by
   have l_:=oz (λi=>gt p.aE i&&jl p (gt b.ah i)) k;unfold G7;simp only[aZ hk,aH,aM hk,al,aM (l:=p.aE) (k:=k) (by omega),ayW (b:=b) hp (x:=gt b.ah k) (RG h hk) a];rw[aY (by omega),py];cases gt p.aE k with
   |false=>simp
   |true=>
    cases jl p (gt b.ah k)with
    |false=>simp
    |true=>simp only[aH,al,Bool.and_self];rw[cJ (by simp;omega)];rfl) (by
   unfold G7;simp only[bC,aC,aB];unfold gJ;rw[s1]) (by omega)
  simpa[bG]using this
 rw[e1];have eL:(gJ p.aE λi=>jl p (gt b.ah i)).length<=1000:=by have:=BF p.aE λi=>jl p (gt b.ah i);omega
 have e2:=Tb (b:=b) (p:=p) (a:=a) (l:=gJ p.aE λi=>jl p (gt b.ah i)) (by omega) eL (by omega) BE;simp only[al];rw[show aG (Dz (gJ p.aE λi=>jl p (gt b.ah i))) (0,b.aA,b.ah,b.aj,b.ay,b.bn,b.a_,p.aE,p.aj,p.aT,p.aP,a)=_ from e2,VX];rfl
def aoG(hb:fw b)(hp:dA p)(h:bo b p=0){a:List Act}(ha:a.length<=1000000):LW ⟨b,p,a⟩=aa (dY b {p with aE:=ic p.aE λi=>dead b p (gt b.ah i)} (a++(gJ p.aE λi=>dead b p (gt b.ah i)).map qX)):=by
 obtain⟨s1,s2,s3,_⟩:=lN h;unfold LW;have e1:aG (Dy ⟨b,p,a⟩) (0,[],dY b p a)=aa (gJ p.aE λi=>dead b p (gt b.ah i),dY b p a):=by
  have:=dR (step:=Dy ⟨b,p,a⟩) (r:=(gJ p.aE λi=>dead b p (gt b.ah i),dY b p a)) (λk=>((k:Int),bG (λi=>gt p.aE i&&dead b p (gt b.ah i)) k,dY b p a)) b.ah.length (λk hk=>by
   have l_:=oz (λi=>gt p.aE i&&dead b p (gt b.ah i)) k;have xm:(⟨b.aA,b.ah,b.aj,b.ay,b.bn,b.a_⟩:au)=b:=rfl;have rH:(⟨p.aE,p.aj,p.aT,p.aP⟩:aw)=p:=rfl;unfold Dy Sl;simp only[dY,aZ hk,aH,aM hk,al,aM (l:=p.aE) (k:=k) (by omega),xm,rH,acO hb hp];rw[aY (by omega),py];generalize bG (λi=>gt p.aE i&&dead b p (gt b.ah i)) k=R at l_⊢;unfold dead;cases gt p.aE k with
   |false=>simp
   |true=>
    cases(gt b.ah k).Kind==3 with
    |false=>simp
    |true=>
     cases sI b p (gt b.ah k).A with
     |true=>simp
     |false=>simp only[aH,al,Bool.and_self,Bool.not_false];rw[cJ (by simp;omega)];rfl) (by
   unfold Dy;simp only[dY,bC,aC,aB];unfold gJ;rw[s1]) (by omega)
  simpa[bG]using this
 rw[show aG (Dy ⟨b,p,a⟩) (0,[],b.aA,b.ah,b.aj,b.ay,b.bn,b.a_,p.aE,p.aj,p.aT,p.aP,a)=_ from e1];have eL:(gJ p.aE λi=>dead b p (gt b.ah i)).length<=1000:=by have:=BF p.aE λi=>dead b p (gt b.ah i);omega
 have e2:=Tb (b:=b) (p:=p) (a:=a) (l:=gJ p.aE λi=>dead b p (gt b.ah i)) (by omega) eL (by omega) BE;simp only[al];rw[show aG (abu (gJ p.aE λi=>dead b p (gt b.ah i),dY b p a)) (0,(dY b p a).1,(dY b p a).2.1,(dY b p a).2.2.1,(dY b p a).2.2.2.1,(dY b p a).2.2.2.2.1,(dY b p a).2.2.2.2.2.1,(dY b p a).2.2.2.2.2.2.1,(dY b p a).2.2.2.2.2.2.2.1,(dY b p a).2.2.2.2.2.2.2.2.1,(dY b p a).2.2.2.2.2.2.2.2.2.1,(dY b p a).2.2.2.2.2.2.2.2.2.2)=_ from e2,VX];rfl
def azr(hb:fw b)(hp:dA p)(h:bo b p=0):L9 ⟨b,p,[]⟩=aa (b.aA,b.ah,b.aj,b.ay,b.bn,b.a_,(zg b p).aE,(zg b p).aj,(zg b p).aT,(zg b p).aP,(lM b p).aE,(lM b p).aj,(lM b p).aT,(lM b p).aP,xw b p):=by obtain⟨s1,s2,s3,_⟩:=lN h;have eL:=BF p.aE λi=>jl p (gt b.ah i);unfold L9;rw[aoH hp h (by simp)];simp only[al,dY];have e2:=aoG (a:=[]++(gJ p.aE λi=>jl p (gt b.ah i)).map qX) hb (aaU (b:=b) hp) (RA h) (by simp only[o7,List.length_map];omega);rw[show(⟨⟨b.aA,b.ah,b.aj,b.ay,b.bn,b.a_⟩,⟨(jF b p).aE,(jF b p).aj,(jF b p).aT,(jF b p).aP⟩,[]++(gJ p.aE λi=>jl p (gt b.ah i)).map qX⟩:fM)=⟨b,jF b p,[]++(gJ p.aE λi=>jl p (gt b.ah i)).map qX⟩from rfl,e2];simp only[al,dY];have e3:=follow_eq hb (aaT (b:=b) hp) (KC h);rw[show zU ⟨b.aA,b.ah,b.aj,b.ay,b.bn,b.a_⟩ ⟨ic (jF b p).aE λi=>dead b (jF b p) (gt b.ah i),(jF b p).aj,(jF b p).aT,(jF b p).aP⟩=_ from e3];simp only[al,o7];rfl
def aot{q:aw}(hc:∀k,k<b.ah.length->(gt b.ah k).Kind=1->gt q.aE k=gt p.aE k)(k:Nat)(hk:k<=b.ah.length)(f:List Int):h_ b q k f=h_ b p k f:=by
 induction k with
 |zero=>rfl
 |succ k ih=>
  unfold h_;rw[ih (by omega)];unfold oy;by_cases h1:(gt b.ah k).Kind=1
  ·rw[hc k (by omega) h1]
  ·rw[aK λh=>h1 h.1,aK λh=>h1 h.1]
def axf{q:aw}(hc:∀k,k<b.ah.length->(gt b.ah k).Kind=1->gt q.aE k=gt p.aE k):cB b q=cB b p:=by
 unfold cB;have:∀r f,rounds b q r f=rounds b p r f:=by
  intro r f;induction r with
  |zero=>rfl
  |succ r ih=>unfold rounds;rw[ih,aot hc _ (bw _)]
 exact this _ _
def find_congr{n:Nat}{P Q:Nat->Bool}(h:∀k,k<n->P k=Q k):(bW n).find? P=(bW n).find? Q:=by
 induction n with
 |zero=>rfl
 |succ n ih=>rw[List.range_succ,List.find?_append,List.find?_append,ih λk hk=>h k (by omega)];simp[List.find?_cons,h n (by omega)]
def acQ{q:aw}{kind j:Int}(hc:∀k,k<b.ah.length->(gt b.ah k).Kind=kind->(gt b.ah k).B=j->gt q.aE k=gt p.aE k):gn b q kind j=gn b p kind j:=by
 unfold gn;rw[find_congr (P:=m9 b q kind j) (Q:=m9 b p kind j) λk hk=>by
  unfold m9;cases h1:(gt b.ah k).Kind==kind with
  |false=>rfl
  |true=>
   cases h2:(gt b.ah k).B==j with
   |false=>rfl
   |true=>rw[hc k hk (by simpa using h1) (by simpa using h2)]]
def aze{q:aw}(hl:q.aj.length=p.aj.length)(hs:∀j,j<p.aj.length->(gt q.aj j).State=(gt p.aj j).State)(hc:∀k,k<b.ah.length->(gt b.ah k).Kind=2->gt q.aE k=gt p.aE k)(j:Int):conn b q j=conn b p j:=by
 unfold conn;rw[hl];by_cases h:0<=j∧j<=(p.aj.length:Int)-1
 ·rw[aI h,aI h,hs j.toNat (by omega),acQ λk hk h2 _=>hc k hk h2]
 ·rw[aK h,aK h]
structure mN(b:au)(p q:aw):Prop where
 len:q.aj.length=p.aj.length
 st:∀j,j<p.aj.length->(gt q.aj j).State=(gt p.aj j).State
 cl:∀k,k<b.ah.length->(gt b.ah k).Kind≠3->gt q.aE k=gt p.aE k
def mN.cB{q:aw}(h:mN b p q):cB b q=cB b p:=axf λk hk h1=>h.cl k hk (by omega)
def mN.conn{q:aw}(h:mN b p q)(j:Int):conn b q j=conn b p j:=aze h.len h.st (λk hk h2=>h.cl k hk (by omega)) j
def mN.RE{q:aw}(h:mN b p q)(f:Nat):(dZ b q f).aj=(dZ b p f).aj∧(dZ b q f).aA=(dZ b p f).aA:=by
 unfold dZ;refine⟨?_,?_⟩
 ·show bG (ik b q f) _=bG (ik b p f) _;congr 1;funext j;unfold ik;rw[h.cB,h.conn]
 ·show bG (iZ b q f) _=bG (iZ b p f) _;congr 1;funext j;unfold iZ;rw[h.cB]
def mN.ofS{q:aw}(h:mN b p q)(hp:bo b p=0)(hq:bo b q=0)(k:Int):(fV b q k).1.aj=(fV b p k).1.aj:=by
 unfold fV;by_cases c:0<=k∧k<b.aA
 ·rw[aI ⟨hq,c⟩,aI ⟨hp,c⟩];show(eP b q k).aj=(eP b p k).aj;unfold eP;rw[h.cB];exact(h.RE _).1
 ·rw[aK λx=>c x.2,aK λx=>c x.2]
def mN.sI{q:aw}(h:mN b p q)(hp:bo b p=0)(hq:bo b q=0)(k:Int):sI b q k=sI b p k:=by unfold Rx.sI;rw[h.ofS hp hq]
def apT(h:bo b p=0):mN b (jF b p) (zg b p):=by obtain⟨s1,_⟩:=lN h;refine⟨rfl,λ_ _=>rfl,λk hk h3=>?_⟩;show gt (ic (jF b p).aE _) k=_;rw[ql (by show k<(ic p.aE _).length;rw[kn];omega)];unfold dead;rw[dL h3];simp
def apS(h:bo b p=0):mN b p (rP b p):=⟨vQ,λj hj=>by rw[afi hj],λ_ _ _=>rfl⟩
def mN.trans{q r:aw}(h:mN b p q)(h':mN b q r):mN b p r:=⟨by rw[h'.len,h.len],λj hj=>by rw[h'.st j (by rw[h.len];exact hj),h.st j hj],λk hk h3=>by rw[h'.cl k hk h3,h.cl k hk h3]⟩
end
end Rx
namespace Rx
def wQ(b:au)(c:Int):Int:=(gt b.ay c.toNat).kE
def qq(b:au)(x y:Int):Bool:=ak (wQ b x<wQ b y)
def ark{b:au}{x y:Int}(hx:0<=x∧x<(b.ay.length:Int))(hy:0<=y∧y<(b.ay.length:Int)):∃c,Lz x y b=aa c∧ak (c<0)=qq b x y:=by
 unfold Lz;rw[iI hx.1 hx.2,iI hy.1 hy.2];simp only[al,WS];refine⟨_,rfl,?_⟩;unfold qq wQ;by_cases h1:(gt b.ay x.toNat).kE<(gt b.ay y.toNat).kE
 ·rw[aI h1,dT h1];rfl
 ·rw[aK h1,dF h1];split<;>rfl
def adb{b:au}{n:Nat}(hn:n=b.ay.length)(NV:n<=1000):
  ∀(j:Nat) (d:List Int),j<n->Ok n (λx=>0<=x∧x<(n:Int)) d->(∃k,k<=j∧mh (GD 0 b) k ((j:Int),d) (inner (qq b) j d))∧Ok n (λx=>0<=x∧x<(n:Int)) (inner (qq b) j d)
 |0,d,hj,h=>by refine⟨⟨0,bw _,.done ?_⟩,h⟩;simp[GD,inner]
 |j+1,d,hj,h=>by
  obtain⟨c,hc,hl⟩:=ark (b:=b) (by rw[<-hn];exact Mu h hj) (by rw[<-hn];exact Mu h (j:=j) (by omega));have hlen:=h.1;have e1:W (((j+1:Nat):Int)-1)=(j:Int):=by rw[bX (by omega) (by omega)];omega
  have i1:idx d ((j+1:Nat):Int)=aa (d.getD (j+1) 0):=Ua (by omega);have i2:idx d (j:Int)=aa (d.getD j 0):=Ua (by omega);have s1:dq d ((j+1:Nat):Int) (d.getD j 0)=aa (d.set (j+1) (d.getD j 0)):=jK (by omega) _;have i3:idx (d.set (j+1) (d.getD j 0)) (j:Int)=aa ((d.set (j+1) (d.getD j 0)).getD j 0):=Ua (by simp;omega);have s2:dq (d.set (j+1) (d.getD j 0)) (j:Int) (d.getD (j+1) 0)=aa (swapAt d j):=jK (by simp;omega) _;have oI:ak (((j+1:Nat):Int)>0)=ab:=wh (by omega);cases aS:qq b (d.getD (j+1) 0) (d.getD j 0)with
  |true=>obtain⟨⟨k,hk,hr⟩,ho⟩:=adb hn NV j (swapAt d j) (by omega) (arz h hj);rw[inner,aI aS];refine⟨⟨k+1,by omega,.more ?_ hr⟩,ho⟩;rw[aS]at hl;simp only[GD,oI,aH,i1,e1,i2,al,hc,hl,s1,i3,s2]
  |false=>
   have bM:¬(qq b (d.getD (j+1) 0) (d.getD j 0)=ab):=by rw[aS];simp
   rw[inner,aK bM];refine⟨⟨0,by omega,.done ?_⟩,h⟩;rw[aS]at hl;simp only[GD,oI,aH,i1,e1,i2,al,hc,hl];rfl
def ab4{b:au}{n:Nat}(hn:n=b.ay.length)(NV:n<=1000):
  ∀(m i:Nat) (d:List Int),m+i=n->Ok n (λx=>0<=x∧x<(n:Int)) d->mh (C7 0 (n:Int) b) m ((i:Int),d) (outer (qq b) m i d)∧Ok n (λx=>0<=x∧x<(n:Int)) (outer (qq b) m i d)
 |0,i,d,hi,h=>by refine⟨.done ?_,h⟩;have:ak ((i:Int)<(n:Int))=ae:=J1 (by omega);simp only[C7,outer,this,aC,aB]
 |m+1,i,d,hi,h=>by obtain⟨⟨k,hk,hr⟩,ho⟩:=adb hn NV i d (by omega) h;obtain⟨h1,h2⟩:=ab4 hn NV m (i+1) (inner (qq b) i d) (by omega) ho;have hd:ak ((i:Int)<(n:Int))=ab:=wh (by omega);rw[outer];refine⟨.more ?_ h1,h2⟩;simp only[C7,hd,aH,oD hr (by omega),al,aY (show i<1000000000000000000 by omega)]
def kT(b:au):List Int:=outer (qq b) (b.ay.length-1) 1 (kY b.ay.length)
def ao5{b:au}(hn:b.ay.length<20):KI (kY b.ay.length) b=aa (kT b):=by
 have hl:len (kY b.ay.length)=(b.ay.length:Int):=by unfold len;rw[Ez]
 have Uw:∀d,RL (b.ay.length:Int) b (0,20,d)=aa (.inr (0,d)):=λd=>by simp only[RL,dF (show ¬(20:Int)<=(b.ay.length:Int) by omega),aC,aB]
 have Uv:RK (b.ay.length:Int) 20=aa (.inr ()):=by simp only[RK,dF (show ¬(20:Int)<(b.ay.length:Int) by omega),aC,aB]
 have hw:W (0+1)=((1:Nat):Int):=by rw[bX (by omega) (by omega)];rfl
 have gI:aG (C7 0 (b.ay.length:Int) b) (((1:Nat):Int),kY b.ay.length)=aa (kT b):=by
  by_cases h1:1<=b.ay.length
  ·obtain⟨h2,h3⟩:=ab4 (b:=b) rfl (by omega) (b.ay.length-1) 1 (kY b.ay.length) (by omega) (ayn _);exact oD h2 (by omega)
  ·have h0:b.ay.length=0:=by omega
   have:kT b=kY b.ay.length:=by unfold kT;rw[h0];rfl
   rw[this];refine oD (.done ?_) (jS _);simp only[C7,dF (show ¬((1:Nat):Int)<(b.ay.length:Int) by omega),aC,aB]
 simp only[KI,RM,hl,oD (.done (Uw _)) (jS _),al,KG,hw,gI,oD (.done Uv) (jS _)]
def ab6(b:au):(kT b).Pairwise (λx y=>wQ b x<wQ b y∨wQ b x=wQ b y∧x<y)∧(kT b).Perm (kY b.ay.length):=by
 by_cases h1:1<=b.ay.length
 case neg=>
  have h0:b.ay.length=0:=by omega
  have e:kT b=[]:=by unfold kT;rw[h0];rfl
  rw[e,h0];exact⟨.nil,.refl _⟩
 have aS:∀x y,qq b x y=ab↔(λc=> -wQ b c) y<(λc=> -wQ b c) x:=λx y=>by
  unfold qq;rw[YX];try simp only
  omega
 have e:kT b=((kY b.ay.length).foldl (λa x=>oG (qq b) x a) []).reverse:=by
  unfold kT;obtain⟨x,xs,hx⟩:∃x xs,kY b.ay.length=x::xs:=by
   cases hf:kY b.ay.length with
   |nil=>have:=Ez b.ay.length;rw[hf]at this;simp at this;omega
   |cons x xs=>exact⟨x,xs,rfl⟩
  have hl:xs.length=b.ay.length-1:=by have:=Ez b.ay.length;rw[hx]at this;simp at this;omega
  have:=ab3 (qq b) xs [x];rw[hx,<-hl];exact this
 have h:=afg aS (kY b.ay.length) [] (aym _) (by simp) (by simp);rw[e];refine⟨(List.pairwise_reverse.2 h.1).imp λhb=>?_,(List.reverse_perm _).trans (by simpa using h.2)⟩;unfold J0 at hb;simp only at hb;omega
def arl{b:au}{c:Int}:c∈kT b↔0<=c∧c<(b.ay.length:Int):=by
 rw[(ab6 b).2.mem_iff];unfold kY;rw[dk];constructor
 ·rintro⟨k,hk,rfl⟩;have:=ew.1 hk;simp;omega
 ·rintro⟨h0,h1⟩;exact⟨c.toNat,ew.2 (by omega),by simp;omega⟩
def ab5(b:au):(kT b).length=b.ay.length:=by rw[(ab6 b).2.length_eq,Ez]
def arj{b:au}(hb:fw b)(h:nr b=0):LA b=aa (kT b):=by
 have hl:=(BS.1 h).1.iY;unfold LA;rw[af7 hb,h];simp only[al,kG,aC,aB];have e:aG (GU b) (0,[])=aa (kY b.ay.length):=by
  have:=dR (step:=GU b) (r:=kY b.ay.length) (λk=>((k:Int),kY k)) b.ay.length (λk hk=>by
   unfold GU;rw[dT (c:=(k:Int)<len b.ay) (by unfold len;omega),cJ (by simp[Ez];omega),aY (by omega)];simp only[aH,al];unfold kY;rw[List.range_succ,mS];rfl) (by
   unfold GU;simp only[bC,aC,aB]) (by omega)
  simpa[kY]using this
 rw[e];simp only[al,ao5 (b:=b) (by omega)]
def qk(b:au)(x:bz):List Int:=(kT b).filter λc=>decide (c∈x.ay)
def arf{b:au}{x:bz}(hx:∀c∈x.ay,0<=c∧c<(b.ay.length:Int)){c:Int}:c∈qk b x↔c∈x.ay:=by unfold qk;rw[List.mem_filter,arl,YX];exact⟨λh=>h.2,λh=>⟨hx c h,h⟩⟩
def arh(b:au)(x:bz):(qk b x).length<=b.ay.length:=by have:=List.length_filter_le (λc=>decide (c∈x.ay)) (kT b);rw[ab5]at this;exact this
def TS{x:bz}{c:Int}(hx:Sm x.ay):GS c x=aa (!ak (c∈x.ay)):=by unfold GS;rw[contains_eq hx];rfl
def aow{l:List Int}{i:Nat}{x:Int}(h:i<l.length):(l.set i x).take (i+1)=l.take i++[x]:=by
 rw[lr (by simpa using h),gV h,aI rfl];congr 1;refine jZ (by simp) λk hk=>?_;have da:k<i:=by simp at hk;omega
 rw[fQ (by simp;omega),fQ (by simp;omega)];simp[List.getElem_set];omega
def ay1{x:bz}(hx:Sm x.ay){l:List Int}(hl:l.length<=1000):KY l x=aa (l.filter λc=>decide (c∈x.ay)):=by
 unfold KY RT;have h1:=vw (step:=GH l x) (λk=>(k:Int)) l.length (λk=> !ak (gt l k∈x.ay)) (R:=λk=> .inr (k:Int)) (e:= .inl ()) (λk hk hp=>by
  unfold GH;simp only[aZ hk,aH,aM hk,al,TS hx,hp,aC,aB];rw[aY (by omega)]) (λk hk hp=>by
  unfold GH;simp only[aZ hk,aH,aM hk,al,TS hx,hp]) (by
  unfold GH;simp only[bC,aC,aB]) (by omega)
 simp only[show((0:Nat):Int)=0 from rfl]at h1;rw[h1];cases hf:(bW l.length).find? (λk=> !ak (gt l k∈x.ay))with
 |none=>
  have gU:∀c∈l,decide (c∈x.ay)=ab:=λc hc=>by obtain⟨k,hk,rfl⟩:=lC hc;have:=List.find?_eq_none.1 hf k (ew.2 hk);simpa using this
  simp only[al,bx];rw[F6.2 gU];rfl
 |some s=>
  have hs:=ew.1 (List.mem_of_find?_eq_some hf);simp only[al,bE];rw[dL (by omega),aY (by omega)];simp only[aC,aB];have D_:∀k,k<s->ak (gt l k∈x.ay)=ab:=λk hk=>by
   obtain⟨_,X5,bs,h2,h3⟩:=List.find?_eq_some_iff_append.1 hf;have lH:X5.length=s:=by
    have h4:(bW l.length)[X5.length]? =aa s:=by rw[h2];simp
    rw[J3 (by have:=iF List.length h2;simp at this;omega)]at h4
    exact kb h4
   have iJ:k∈X5:=by have h4:(bW l.length)[k]? =aa k:=J3 (by omega);rw[h2,List.getElem?_append_left (by omega)]at h4;exact List.mem_of_getElem? h4
   have:=h3 k iJ;simpa using this
  have D6:ak (gt l s∈x.ay)=ae:=by have:=(List.find?_eq_some_iff_append.1 hf).1;simpa using this
  have xe:Wp (aG (KX x) ((s:Int),((s+1:Nat):Int),l)) λr=>∃n:Nat,r.1=(n:Int)∧n<=r.2.length∧r.2.length=l.length∧r.2.take n=l.filter λc=>decide (c∈x.ay):=by
   refine dy (l.length-(s+1)) (λt st=>∃n:Nat,st.1=(n:Int)∧st.2.1=((s+1+t:Nat):Int)∧n<s+1+t∧st.2.2.length=l.length∧st.2.2.take n=(l.take (s+1+t)).filter (λc=>decide (c∈x.ay))∧∀k,s+1+t<=k->k<l.length->gt st.2.2 k=gt l k) ⟨s,rfl,rfl,by omega,rfl,?_,λ_ _ _=>rfl⟩ (λt st ht hv=>?_) (λst hv=>?_) (by omega)
   ·simp only[Nat.add_zero];rw[lr hs,uL];have:(l.take s).filter (λc=>decide (c∈x.ay))=l.take s:=F6.2 λc hc=>by
     obtain⟨k,hk,rfl⟩:=lC hc;rw[o9]at hk;have:gt (l.take s) k=gt l k:=by rw[fQ (by rw[o9];exact hk),fQ (by omega)];simp
     rw[this];exact D_ k (by omega)
    rw[this];simp[D6]
   ·obtain⟨m,z,c⟩:=st;obtain⟨n,rfl,rfl,hn,qE,w7,A3⟩:=hv;simp only at qE w7 A3;have hk:s+1+t<l.length:=by omega
    have hgk:=A3 (s+1+t) (bw _) hk;unfold KX;simp only[aZ (l:=c) (k:=s+1+t) (by omega),aH,aM (l:=c) (k:=s+1+t) (by omega),hgk,al,TS hx,Bool.not_not];rw[aY (k:=s+1+t) (by omega)];cases hp:ak (gt l (s+1+t)∈x.ay)with
    |true=>
     simp only[aH,aM (l:=c) (k:=n) (by omega),al,jK (xs:=c) (j:=n) (by omega)];rw[aY (by omega)];refine aq.2 ⟨n+1,rfl,rfl,by omega,by simp[qE],?_,λk h1 h2=>?_⟩
     ·simp only;rw[aow (by omega),w7,show s+1+(t+1)=(s+1+t)+1 by omega,lr hk,uL];simp[hp]
     ·simp only;rw[gV (by omega),aK (by omega)];exact A3 k (by omega) h2
    |false=>
     simp only[aC,aB,al];refine aq.2 ⟨n,rfl,rfl,by omega,qE,?_,λk h1 h2=>A3 k (by omega) h2⟩;try simp only
     rw[w7,show s+1+(t+1)=(s+1+t)+1 by omega,lr hk,uL];simp[hp]
   ·obtain⟨m,z,c⟩:=st;obtain⟨n,rfl,rfl,hn,qE,w7,A3⟩:=hv;simp only at qE w7;unfold KX;rw[show s+1+(l.length-(s+1))=c.length by omega];simp only[bC,aC,aB];refine aq.2 ⟨n,rfl,(by show n<=c.length;omega),qE,?_⟩;try simp only
    rw[w7,show s+1+(l.length-(s+1))=l.length by omega,oZ]
  obtain⟨⟨m,c⟩,e,n,rfl,hn,qE,w7⟩:=xe;simp only at hn qE w7;rw[e];have e1:dH c (n:Int) (len c)=aa (c.drop n):=Lt hn;have dh:(rT 0 c (n:Int)).length=c.length:=by unfold rT;simp;omega
  have e2:dH (rT 0 c (n:Int)) 0 (n:Int)=aa ((rT 0 c (n:Int)).take n):=Dh (by omega);have e3:(rT 0 c (n:Int)).take n=c.take n:=by unfold rT;rw[List.take_append_of_le_length (by simp;omega),List.take_take,iQ,Nat.min_self]
  simp only[al,e1,e2,e3,w7]
