import Derived.Test.YtncbfgppjfcijaaGreatMa
import Derived.Test.YtncbfgppjfcijaaGreatRz
import Derived.Test.YtncbfgppjfcijaaGreatPg
import Derived.KernelRfl
set_option linter.unusedVariables false
set_option linter.unusedSimpArgs false
open Bool renaming false_eq_true→aqG
open Int renaming eq_ofNat_of_zero_le→ara,toNat_natCast→aq8
open List renaming filter_append→arK,getElem?_range→asd,length_pos_iff→arR,length_take→arU,map_append→arI,mem_cons→aqR,mem_cons_of_mem→aq7,mem_cons_self→arG,mem_map→aqX,mem_range→aqV,nil_append→arT,pairwise_cons→ar',range→aqN,take_length→arw
open Nat renaming le_refl→aqM,zero_le→arj
open Option renaming bind_fun_some→aqQ,bind_some→aqF
open Option.some renaming inj→are
open Sum renaming elim_inl→aqI,elim_inr→aqJ
noncomputable section
namespace Go.Proofs.YtncbfgppjfcijaaGreat
open Go Go.RowKit Dp
namespace Rx
theorem QT(a:Int):(a% 3600=if a.tmod 3600<0 then a.tmod 3600+3600 else a.tmod 3600)∧-3600<a.tmod 3600∧a.tmod 3600<3600:=by
 by_cases ha:0≤a
 · rw[Int.tmod_eq_emod_of_nonneg ha,if_neg (by omega)]
   exact⟨rfl,by omega,by omega⟩
 · have hn:a.tmod 3600= -((-a)% 3600):=by
    rw[←Int.tmod_eq_emod_of_nonneg (show 0≤-a by omega),Int.neg_tmod,Int.neg_neg]
   rw[hn]
   refine⟨?_,by omega,by omega⟩
   split<;>omega
theorem norm_eq{a:Int}(h1: -100000000000000000≤a)(h2:a≤100000000000000000):nV a=some (a% 3600):=by
 have e0:jh a 3600=some (a.tmod 3600):=by unfold jh;rw[if_neg (by decide)]
 obtain⟨e1,e2⟩:=QT a
 unfold nV
 rw[e0]
 simp only[aqF,aqQ,aqI,aqJ,aZ]
 by_cases h:a.tmod 3600<0
 · rw[dT h,if_pos rfl,be (by omega) (by omega),e1,if_pos h]
 · rw[dF h,if_neg (by simp),e1,if_neg h]
theorem oY{p:ae}(h:bA p):lJ p=some (p.aq,p.aa,p.aE,p.aA):=by
 obtain⟨h1,h2,h3,h4⟩:=h
 unfold Sm at*
 unfold lJ JL JM wP JO
 rw[cp (by simp;omega),cp (by simp;omega),cp (by simp;omega),cp (by simp;omega)]
 rfl
def tick(x:aC):aC:=if x.State=2 then{x with aG:=(x.aG+36*(x.aB-5000))% 3600} else x
def pk(p:ae):ae:=⟨p.aq,p.aa.map tick,p.aE,p.aA⟩
def ib(l:List aC)(k:Nat):List aC:=(aqN l.length).map fun i=>if i<k then tick (gt l i) else gt l i
theorem ace(l:List aC):ib l 0=l:=by
 apply fp
 · simp[ib]
 · intro k hk
   have bH:k<l.length:=by simpa[ib] using hk
   unfold ib
   rw[fV _ bH,if_neg (by omega)]
theorem acg(l:List aC):ib l l.length=l.map tick:=by
 apply fp
 · simp[ib]
 · intro k hk
   have bH:k<l.length:=by simpa[ib] using hk
   unfold ib
   rw[fV _ bH,if_pos bH,fx (l:=l.map tick) (by simpa using bH),List.getElem_map,fx bH]
theorem acf(l:List aC){k:Nat}(hk:k<l.length):(ib l k).set k (tick (gt l k))=ib l (k+1):=by
 apply fp
 · simp[ib]
 · intro i hi
   have ck:i<l.length:=by simpa[ib] using hi
   rw[dz (by simpa[ib] using hk)]
   unfold ib
   rw[fV _ ck,fV _ ck]
   by_cases h:i=k
   · subst h;rw[if_pos rfl,if_pos (by omega)]
   · rw[if_neg h]
     by_cases h2:i<k
     · rw[if_pos h2,if_pos (by omega)]
     · rw[if_neg h2,if_neg (by omega)]
theorem acb{p:ae}(hp:bA p)(hr:∀k,k<p.aa.length→dq (gt p.aa k)):ay (zI p) ((0:Int),p.aa)=some (p.aa.map tick):=by
 have df:=hp.2.1
 have h:=dE (step:=zI p) (fun k=>((k:Int),ib p.aa k)) p.aa.length (r:=ib p.aa p.aa.length) (fun k hk=>by
  have hx:=hr k hk
  obtain⟨_,_,⟨f0,f1⟩,p0,p1⟩:=hx
  have hl:k<(ib p.aa k).length:=by simpa[ib] using hk
  have hg:gt (ib p.aa k) k=gt p.aa k:=by
   unfold ib;rw[fV _ hk,if_neg (by omega)]
  have hw:W ((gt p.aa k).aG+W (36*W ((gt p.aa k).aB-5000)))=(gt p.aa k).aG+36*((gt p.aa k).aB-5000):=by
   rw[be (x:=(gt p.aa k).aB-5000) (by omega) (by omega),be (x:=36*((gt p.aa k).aB-5000)) (by omega) (by omega),be (by omega) (by omega)]
  simp only[zI,aQ hk,if_true,az hk,aqF,aqQ,aqI,aqJ,aZ,aU (cM hp.2.1 hk),hw]
  have ht:=acf p.aa hk
  unfold tick at ht
  by_cases hs:(gt p.aa k).State=2
  · rw[if_pos hs] at ht
    simp only[eh hs,if_true,norm_eq (a:=(gt p.aa k).aG+36*((gt p.aa k).aB-5000)) (by omega) (by omega),az hl,aqF,aqQ,aqI,aqJ,aZ,fg hl,hg,ht]
  · rw[if_neg hs] at ht
    have:ib p.aa (k+1)=ib p.aa k:=by
     rw[←ht,←hg]
     apply fp
     · simp
     · intro i hi
       rw[dz hl]
       split
       · rename_i e;rw[e]
       · rfl
    simp only[bY hs,aqG,if_false,aqF,aqQ,aqI,aqJ,aZ,this]) (by simp only[zI,bl,aqG,if_false])
 rw[acg] at h
 have h0:=ace p.aa
 simp only[h0] at h
 exact h
theorem acd{b:aj}{p:ae}(hb:bP b)(hp:bA p)(h:aJ b p=0):DC b p=some (0,p.aq,p.aa.map tick,p.aE,p.aA):=by
 obtain⟨_,_,_,hr,_⟩:=bM.1 h
 unfold DC
 have e:(aJ b p !=0)=false:=by rw[h];rfl
 simp only[mH hb hp,aqF,aqQ,aqI,aqJ,aZ,e,aqG,if_false,oY hp,acb hp hr]
section
variable {b:aj} {p:ae}
theorem rX(h:aJ b p=0){k:Int}(h0:0≤k)(h1:k<b.ak):cD b p k=(aW b p k,true):=by
 unfold cD;rw[if_pos ⟨h,h0,h1⟩]
def lead(b:aj)(p:ae)(k:Int):Int×Bool:=if(cD b p k).1.aa=[] then(0,false) else(gt (cD b p k).1.aa 0,true)
theorem Lx(hb:bP b)(hp:bA p)(k:Int):uc b p k=some (lead b p k):=by
 unfold uc lead
 simp only[of_eq hb hp,ji,aqF,aqQ,aqI,aqJ,aZ]
 by_cases h:(cD b p k).1.aa=[]
 · simp only[h]
   rfl
 · have hl:=arR.2 h
   have e:(len (cD b p k).1.aa==0)=false:=bY (by unfold len;omega)
   have ei:idx (cD b p k).1.aa 0=some (gt (cD b p k).1.aa 0):=az hl
   simp only[e,aqG,if_false,h,ei,aqF,aqQ,aqI,aqJ,aZ]
def me(a c:Int):Int:=if(c% 3600-a% 3600)% 3600>1800 then(c% 3600-a% 3600)% 3600-3600 else(c% 3600-a% 3600)% 3600
theorem akZ(a c:Int): -1800<me a c∧me a c≤1800:=by unfold me;split<;>omega
theorem akY{a c:Int}(h1: -100000000000000000≤a)(h2:a≤100000000000000000)(h3: -100000000000000000≤c)(h4:c≤100000000000000000):H6 a c=some (me a c):=by
 unfold H6 me
 simp only[norm_eq h1 h2,norm_eq h3 h4,aqF,aqQ,aqI,aqJ,aZ]
 rw[be (x:=c% 3600-a% 3600) (by omega) (by omega),norm_eq (by omega) (by omega)]
 simp only[aqF,aqQ,aqI,aqJ,aZ]
 by_cases h:(c% 3600-a% 3600)% 3600>1800
 · simp only[dT h,if_true,if_pos h,aqF,aqQ,aqI,aqJ,aZ,be (x:=(c% 3600-a% 3600)% 3600-3600) (by omega) (by omega)]
 · simp only[dF h,aqG,if_false,if_neg h,aqF,aqQ,aqI,aqJ,aZ]
def H9(b:aj)(x y:aC):Prop:=((0≤x.aB∧0≤y.aB)∧x.aB≤6000∧y.aB≤6000)∧(x.aB-y.aB≤b.aB∧y.aB-x.aB≤b.aB)∧me x.aG y.aG≤b.aG∧-me x.aG y.aG≤b.aG
instance(b:aj)(x y:aC):Decidable (H9 b x y):=by unfold H9;exact inferInstance
def tD(x:aC):Prop:=(-100000000000000000≤x.aB∧x.aB≤100000000000000000)∧-100000000000000000≤x.aG∧x.aG≤100000000000000000
theorem tD.of{x:aC}(h:dq x):tD x:=by
 obtain⟨_,_,⟨h1,h2⟩,h3,h4⟩:=h
 exact⟨⟨by omega,by omega⟩,by omega,by omega⟩
theorem ZN{x y:aC}(hx:tD x)(hy:tD y):zJ b x y=some (decide (H9 b x y)):=by
 obtain⟨⟨f1,f2⟩,p1,p2⟩:=hx
 obtain⟨⟨f3,f4⟩,p3,p4⟩:=hy
 have hd:=akZ x.aG y.aG
 unfold zJ
 simp only[akY p1 p2 p3 p4,aqF,aqQ,aqI,aqJ,aZ]
 rw[be (x:=x.aB-y.aB) (by omega) (by omega),be (x:=y.aB-x.aB) (by omega) (by omega),be (x:= -me x.aG y.aG) (by omega) (by omega)]
 have e1:(if y.aB<x.aB then y.aB else x.aB)<0↔¬(0≤x.aB∧0≤y.aB):=by split<;>omega
 have e2:(if x.aB<y.aB then y.aB else x.aB)>6000↔¬(x.aB≤6000∧y.aB≤6000):=by split<;>omega
 have e3:(if x.aB-y.aB<y.aB-x.aB then y.aB-x.aB else x.aB-y.aB)≤b.aB↔(x.aB-y.aB≤b.aB∧y.aB-x.aB≤b.aB):=by split<;>omega
 have e4:(if me x.aG y.aG< -me x.aG y.aG then-me x.aG y.aG else me x.aG y.aG)≤b.aG↔(me x.aG y.aG≤b.aG∧-me x.aG y.aG≤b.aG):=by split<;>omega
 simp only[e1,e2,e3,e4]
 unfold H9
 by_cases q1:0≤x.aB∧0≤y.aB
 · by_cases q2:x.aB≤6000∧y.aB≤6000
   · by_cases q3:x.aB-y.aB≤b.aB∧y.aB-x.aB≤b.aB
     · simp[q1,q2,q3]
     · simp[q1,q2,q3]
   · simp[q1,q2]
 · simp[q1]
def oy(x y:aC):aC:={x with aB:=y.aB,aG:=y.aG}
def gD(S:List aC)(y:aC):List Int→List aC
 |[]=>S
 |k::l=>gD (S.set k.toNat (oy (gt S k.toNat) y)) y l
theorem wU(y:aC):∀(l:List Int) (S:List aC),(gD S y l).length=S.length
 |[],_=>rfl
 |k::l,S=>by unfold gD;rw[wU y l];simp
theorem J5(y:aC)(k:Int):∀(l:List Int) (S:List aC),gD S y (l++[k])=(gD S y l).set k.toNat (oy (gt (gD S y l) k.toNat) y)
 |[],_=>rfl
 |j::l,S=>by
  show gD _ y (l++[k])=_
  rw[J5 y k l]
  rfl
theorem Rk{l:List Int}{y:aC}(hl:Sm l)(h:∀k∈l,0≤k∧k<p.aa.length):wx p l y=some (gD p.aa y l):=by
 have hr:=dE (step:=zH l y) (fun k=>((k:Int),gD p.aa y (l.take k))) l.length (r:=gD p.aa y l) (fun k hk=>by
  obtain⟨k0,k1⟩:=h _ (cV hk)
  obtain⟨j,hj⟩:=ara k0
  have hj:gt l k=(j:Int):=hj
  have bW:j<(gD p.aa y (l.take k)).length:=by rw[wU];omega
  have pR:j<((gD p.aa y (l.take k)).set j {gt (gD p.aa y (l.take k)) j with aB:=y.aB}).length:=by simpa using bW
  simp only[zH,aQ hk,if_true,az hk,aqF,aqQ,aqI,aqJ,aZ,hj,az bW,fg bW,az pR,fg pR,aU (cM hl hk),dz bW,iM hk,J5,aq8,List.set_set]
  rfl) (by simp only[zH,bl,aqG,if_false,arw])
 unfold wx
 have Mg:ay (zH l y) ((0:Int),p.aa)=some (gD p.aa y l):=hr
 rw[Mg]
 rfl
end
end Rx
namespace Rx
theorem Ej(y:aC):∀(l:List Int) (S:List aC) (j:Nat),(∀k∈l,0≤k∧k<S.length)→gt (gD S y l) j=if(j:Int)∈l then oy (gt S j) y else gt S j
 |[],S,j,_=>by simp[gD]
 |k::l,S,j,h=>by
  obtain⟨k0,k1⟩:=h k arG
  have ih:=Ej y l (S.set k.toNat (oy (gt S k.toNat) y)) j (fun q hq=>by rw[List.length_set];exact h q (aq7 _ hq))
  show gt (gD (S.set k.toNat (oy (gt S k.toNat) y)) y l) j=_
  rw[ih,dz (by omega)]
  by_cases lq:j=k.toNat
  · have e:(j:Int)=k:=by omega
    rw[if_pos lq,if_pos (show(j:Int)∈k::l by rw[e];exact arG)]
    by_cases hl:(j:Int)∈l
    · rw[if_pos hl,←lq];rfl
    · rw[if_neg hl,←lq]
  · have e:(j:Int)≠k:=by omega
    rw[if_neg lq]
    by_cases hl:(j:Int)∈l
    · rw[if_pos hl,if_pos (aq7 _ hl)]
    · rw[if_neg hl,if_neg (fun hh=>by rcases aqR.1 hh with h|h;exact e h;exact hl h)]
section
variable {b:aj} {p:ae}
def eH(b:aj)(p:ae)(k:Nat):Nat:=(gt (aW b p (conn b p (k:Int)).1).aa 0).toNat
def gm(b:aj)(p:ae)(k:Nat):aC:=if(conn b p (k:Int)).2=true then oy (gt p.aa k) (gt p.aa (eH b p k)) else gt p.aa k
def cH(b:aj)(p:ae):List aC:=(aqN p.aa.length).map (gm b p)
def m8(b:aj)(p:ae):ae:=⟨p.aq,cH b p,p.aE,p.aA⟩
theorem nN:(cH b p).length=p.aa.length:=by simp[cH]
theorem pZ{k:Nat}(h:k<p.aa.length):gt (cH b p) k=gm b p k:=by unfold cH;rw[fV _ h]
theorem pF{x:aR}(hx:x∈aT b p){s:Int}(hs:s∈x.aa):∃j:Nat,s=(j:Int)∧j<b.aa.length∧(conn b p (j:Int)).2=true∧x=aW b p (conn b p (j:Int)).1:=by
 obtain⟨f,hf,rfl,_⟩:=uv.1 hx
 obtain⟨j,h1,h2,h3,h4⟩:=Fc.1 hs
 refine⟨j,h4,h1,h2, ?_⟩
 unfold aW
 rw[h3,aq8]
theorem DM(hb:bn b){j:Nat}(hj:j<b.aa.length)(hc:(conn b p (j:Int)).2=true):aW b p (conn b p (j:Int)).1∈aT b p∧(j:Int)∈(aW b p (conn b p (j:Int)).1).aa:=by
 have mW:=GZ hb hc
 refine⟨(xE hb mW.1 mW.2).1, ?_⟩
 unfold aW
 have:=(vr (p:=p) hb (show(conn b p (j:Int)).1.toNat<b.ak.toNat by omega)).1
 exact Fc.2 ⟨j,hj,hc,by omega,rfl⟩
theorem Fu(hb:bn b){j:Nat}(hj:j<b.aa.length)(hc:(conn b p (j:Int)).2=true):
  gt (aW b p (conn b p (j:Int)).1).aa 0=(eH b p j:Int)∧eH b p j<b.aa.length∧(conn b p (eH b p j:Int)).2=true∧aW b p (conn b p (eH b p j:Int)).1=aW b p (conn b p (j:Int)).1∧eH b p (eH b p j)=eH b p j:=by
 obtain⟨h1,h2⟩:=DM hb hj hc
 have hlen:0<(aW b p (conn b p (j:Int)).1).aa.length:=List.length_pos_of_mem h2
 obtain⟨i,e1,e2,e3,e4⟩:=pF h1 (cV hlen)
 have e5:eH b p j=i:=by unfold eH;rw[e1,aq8]
 rw[e5]
 refine⟨e1,e2,e3,e4.symm, ?_⟩
 unfold eH
 rw[←e4,e1,aq8]
theorem ajT(hb:bn b)(hl:dS b)(xL:p.aa.length=b.aa.length):ay (DF p (p.aq,p.aa,p.aE,p.aA) (aT b p)) ((0:Int),p.aa)=some (cH b p):=by
 have jI:=hl.fe
 have iS:=hl.src
 have ke:=xF (b:=b) (p:=p)
 refine I7.1 ?_
 refine dO (aT b p).length (fun k s=>∃out,s=((k:Int),out)∧out.length=p.aa.length∧∀j,j<p.aa.length→gt out j=if ∃q,q<k∧(j:Int)∈(gt (aT b p) q).aa then gm b p j else gt p.aa j) ⟨_,rfl,rfl,fun j hj=>by rw[if_neg (by rintro⟨q,hq,_⟩;omega)]⟩ ?_ ?_
 · rintro k s hk ⟨out,rfl,h1,h2⟩
   have hx:=cV hk
   have sv:∀s∈(gt (aT b p) k).aa,0≤s∧s<(p.aa.length:Int):=fun s hs=>by
    obtain⟨j,rfl,h,_⟩:=pF hx hs
    omega
   unfold DF
   simp only[aQ hk,if_true,az hk,aqF]
   have ld:∀j:Nat,(∃q,q<k+1∧(j:Int)∈(gt (aT b p) q).aa)↔(∃q,q<k∧(j:Int)∈(gt (aT b p) q).aa)∨(j:Int)∈(gt (aT b p) k).aa:=fun j=>by
    constructor
    · rintro⟨q,hq,h⟩
      by_cases Mh:q=k
      · subst Mh;exact .inr h
      · exact .inl ⟨q,by omega,h⟩
    · rintro(⟨q,hq,h⟩|h)
      · exact⟨q,by omega,h⟩
      · exact⟨k,by omega,h⟩
   by_cases h0:(gt (aT b p) k).aa.length=0
   · have e1:decide (len (gt (aT b p) k).aa>0)=false:=dF (by unfold len;omega)
     simp only[e1,aqG,if_false,aqF]
     refine al.2 ⟨out,by rw[aU (by omega)],h1,fun j hj=> ?_⟩
     rw[h2 j hj]
     have e2:(gt (aT b p) k).aa=[]:=List.length_eq_zero_iff.1 h0
     have hi:(∃q,q<k+1∧(j:Int)∈(gt (aT b p) q).aa)↔(∃q,q<k∧(j:Int)∈(gt (aT b p) q).aa):=by
      rw[ld,e2];simp
     by_cases hh:∃q,q<k∧(j:Int)∈(gt (aT b p) q).aa
     · rw[if_pos hh,if_pos (hi.2 hh)]
     · rw[if_neg hh,if_neg (fun h=>hh (hi.1 h))]
   · have hlen:0<(gt (aT b p) k).aa.length:=by omega
     have e1:decide (len (gt (aT b p) k).aa>0)=true:=dT (by unfold len;omega)
     obtain⟨i,f1,f2,f3,f4⟩:=pF hx (cV hlen)
     have e0:idx (gt (aT b p) k).aa 0=some (i:Int):=by
      have:=az hlen
      rw[f1] at this
      exact this
     have df:Sm (gt (aT b p) k).aa:=by
      obtain⟨f,_,e,_⟩:=uv.1 hx
      rw[e]
      have:=(qJ (b:=b) (p:=p) f).2.1
      unfold Sm;omega
     have pJ:=Rk (p:=⟨p.aq,out,p.aE,p.aA⟩) (y:=gt p.aa i) df (fun s hs=>by have:=sv s hs;simp only;omega)
     simp only[e1,if_true,e0,az (show i<p.aa.length by omega),aqF,pJ]
     refine al.2 ⟨_,by rw[aU (by omega)],by rw[wU];exact h1,fun j hj=> ?_⟩
     rw[Ej _ _ _ _ (fun s hs=>by have:=sv s hs;omega),h2 j hj]
     by_cases oJ:(j:Int)∈(gt (aT b p) k).aa
     · rw[if_pos oJ,if_pos ((ld j).2 (.inr oJ))]
       obtain⟨j',g1,g2,g3,g4⟩:=pF hx oJ
       have:j'=j:=by omega
       subst this
       have lV:eH b p j'=i:=by unfold eH;rw[←g4,f1,aq8]
       have hf:gm b p j'=oy (gt p.aa j') (gt p.aa i):=by unfold gm;rw[if_pos g3,lV]
       rw[hf]
       split<;>rfl
     · rw[if_neg oJ]
       by_cases hh:∃q,q<k∧(j:Int)∈(gt (aT b p) q).aa
       · rw[if_pos hh,if_pos ((ld j).2 (.inl hh))]
       · rw[if_neg hh,if_neg (fun h=>((ld j).1 h).elim hh oJ)]
 · rintro s ⟨out,rfl,h1,h2⟩
   unfold DF
   simp only[bl,aqG,if_false]
   refine al.2 ?_
   have:out=cH b p:=by
    apply fp
    · rw[nN,h1]
    · intro j hj
      rw[h2 j (by omega),pZ (by omega)]
      by_cases hc:(conn b p (j:Int)).2=true
      · obtain⟨g1,g2⟩:=DM hb (show j<b.aa.length by omega) hc
        obtain⟨q,hq,e⟩:=kY g1
        rw[if_pos ⟨q,hq,by rw[e];exact g2⟩]
      · have hf:gm b p j=gt p.aa j:=by unfold gm;rw[if_neg hc]
        rw[hf]
        split<;>rfl
   rw[this]
theorem follow_eq(hb:bP b)(hp:bA p)(h:aJ b p=0):rH b p=some (0,p.aq,cH b p,p.aE,p.aA):=by
 obtain⟨⟨hl,hg⟩,⟨s1,s2,s3⟩,_⟩:=bM.1 h
 unfold rH
 have e:(aJ b p !=0)=false:=by rw[h];rfl
 simp only[mH hb hp,aqF,e,aqG,if_false,oY hp,Fy hb hp h,ajT hg.1 hl s2]
theorem GY{q:ae}(hc:q.aq=p.aq)(hl:q.aa.length=p.aa.length)(hs:∀j,j<p.aa.length→(gt q.aa j).State=(gt p.aa j).State)(j:Int):conn b q j=conn b p j:=by
 have qT:de b q 2 j=de b p 2 j:=by
  unfold de iE
  rw[hc]
 unfold conn
 rw[hl,qT]
 by_cases h:0≤j∧j≤(p.aa.length:Int)-1
 · rw[if_pos h,if_pos h,hs j.toNat (by omega)]
 · rw[if_neg h,if_neg h]
theorem acv{q:ae}(hc:q.aq=p.aq)(k:Nat)(f:List Int):eE b q k f=eE b p k f:=by
 induction k with
 |zero=>rfl
 |succ k ih=>unfold eE;rw[ih];unfold kw;rw[hc]
theorem BS{q:ae}(hc:q.aq=p.aq):bu b q=bu b p:=by
 unfold bu
 generalize own b.ak.toNat=f
 induction b.ak.toNat with
 |zero=>rfl
 |succ r ih=>unfold rounds;rw[ih,acv hc]
theorem SX{q:ae}(hc:q.aq=p.aq)(kind j:Int):de b q kind j=de b p kind j:=by
 unfold de iE
 rw[hc]
theorem agh{q:ae}(hc:q.aq=p.aq)(hl:q.aa.length=p.aa.length)(hs:∀j,j<p.aa.length→(gt q.aa j).State=(gt p.aa j).State)(f:Nat):cn b q f=cn b p f:=by
 unfold cn
 have e1:fy b q f=fy b p f:=by funext i;unfold fy;rw[BS hc]
 have e2:eF b q f=eF b p f:=by funext i;unfold eF;rw[BS hc,GY hc hl hs]
 have e3:eT b q f=eT b p f:=by funext i;unfold eT;rw[BS hc,SX hc]
 rw[e1,e2,e3]
theorem agl{q:ae}(hc:q.aq=p.aq)(hl:q.aa.length=p.aa.length)(hs:∀j,j<p.aa.length→(gt q.aa j).State=(gt p.aa j).State)(k:Int):aW b q k=aW b p k:=by
 unfold aW
 rw[agh hc hl hs,BS hc]
theorem S5{q:ae}(hc:q.aq=p.aq)(hl:q.aa.length=p.aa.length)(hs:∀j,j<p.aa.length→(gt q.aa j).State=(gt p.aa j).State)(k:Nat):eH b q k=eH b p k:=by
 unfold eH
 rw[GY hc hl hs,agl hc hl hs]
theorem DG{q:ae}(h:aJ b p=0)(hc:q.aq=p.aq)(hl:q.aa.length=p.aa.length)(nH:q.aE=p.aE)(jq:q.aA=p.aA)(hr:∀k,k<q.aa.length→dq (gt q.aa k)):aJ b q=0:=by
 obtain⟨h1,⟨s1,s2,s3⟩,g1,g2,g3⟩:=bM.1 h
 have aiH:∀j n,cI b q j n=cI b p j n:=fun j n=>yH fun i _ _ _=>by rw[hc]
 refine bM.2 ⟨h1,⟨by rw[hc];exact s1,by rw[hl];exact s2,by rw[nH];exact s3⟩,by rw[jq];exact g1,hr,fun k hk=> ?_⟩
 have:=g3 k (by rw[←nH];exact hk)
 unfold o8 at this⊢
 rw[nH,aiH]
 exact this
theorem ajV(j:Nat):(gm b p j).State=(gt p.aa j).State:=by unfold gm;split<;>rfl
theorem Vh{j:Nat}(hj:j<p.aa.length):(gt (m8 b p).aa j).State=(gt p.aa j).State:=by
 show(gt (cH b p) j).State=_
 rw[pZ hj,ajV]
theorem RA{x y:aC}(hx:dq x)(hy:dq y):dq (oy x y):=⟨hx.1,hx.2.1,hy.2.2.1,hy.2.2.2⟩
theorem Jg(h:aJ b p=0):aJ b (m8 b p)=0:=by
 obtain⟨⟨hl,hg⟩,⟨s1,s2,s3⟩,g1,g2,g3⟩:=bM.1 h
 refine DG h rfl nN rfl rfl fun k hk=> ?_
 have bH:k<p.aa.length:=by rw[←nN (b:=b)];exact hk
 show dq (gt (cH b p) k)
 rw[pZ bH]
 unfold gm
 split
 · rename_i hc
   obtain⟨_,e,_⟩:=Fu hg.1 (show k<b.aa.length by omega) hc
   exact RA (g2 k bH) (g2 _ (by omega))
 · exact g2 k bH
theorem Vg(h:aJ b p=0):cH b (m8 b p)=cH b p:=by
 obtain⟨⟨hl,hg⟩,⟨s1,s2,s3⟩,g1,g2,g3⟩:=bM.1 h
 have bD:∀j,j<p.aa.length→(gt (m8 b p).aa j).State=(gt p.aa j).State:=fun j hj=>Vh hj
 have hlen:(m8 b p).aa.length=p.aa.length:=nN
 apply fp
 · rw[nN,nN,hlen]
 · intro k hk
   rw[nN,hlen] at hk
   rw[pZ (by omega),pZ hk]
   have e1:gt (m8 b p).aa k=gm b p k:=pZ hk
   unfold gm at e1⊢
   rw[GY (p:=p) (q:=m8 b p) rfl hlen bD,S5 (p:=p) (q:=m8 b p) rfl hlen bD]
   by_cases hc:(conn b p (k:Int)).2=true
   · rw[if_pos hc] at e1⊢
     obtain⟨_,e2,e3,_,e5⟩:=Fu hg.1 (show k<b.aa.length by omega) hc
     have e6:gt (m8 b p).aa (eH b p k)=gm b p (eH b p k):=pZ (by omega)
     unfold gm at e6
     rw[if_pos e3,e5] at e6
     rw[if_pos hc,e1,e6]
     rfl
   · rw[if_neg hc] at e1⊢
     rw[if_neg hc]
     exact e1
end
end Rx
namespace Rx
open Classical
theorem RE(x y:aC):(x.State==y.State&&(x.ew==y.ew&&(x.aB==y.aB&&x.aG==y.aG)))=true↔x=y:=by
 obtain⟨a,b,c,d⟩:=x
 obtain⟨a',b',c',d'⟩:=y
 simp
theorem KA(x y:Part):(x.Kind==y.Kind&&x.Number==y.Number)=true↔x=y:=by
 obtain⟨a,b⟩:=x
 obtain⟨a',b'⟩:=y
 simp
section
variable {b:aj} {p:ae}
theorem acx{x:aC}(h:dq x):dq (tick x):=by
 obtain⟨h1,h2,h3,h4⟩:=h
 unfold tick
 split
 · exact⟨h1,h2,h3,by simp only;omega,by simp only;omega⟩
 · exact⟨h1,h2,h3,h4⟩
theorem acw(x:aC):(tick x).State=x.State:=by unfold tick;split<;>rfl
theorem Du{k:Nat}(hk:k<p.aa.length):gt (pk p).aa k=tick (gt p.aa k):=by
 show gt (p.aa.map tick) k=_
 rw[fx (by simpa using hk),List.getElem_map,fx hk]
theorem wu:(pk p).aa.length=p.aa.length:=by show(p.aa.map tick).length=_;simp
theorem acO(h:aJ b p=0):aJ b (pk p)=0:=by
 obtain⟨_,_,_,g2,_⟩:=bM.1 h
 refine DG h rfl wu rfl rfl fun k hk=> ?_
 rw[wu] at hk
 rw[Du hk]
 exact acx (g2 k hk)
theorem VS{j:Nat}(hc:(conn b p (j:Int)).2=true):(gt p.aa j).State=2:=by
 unfold conn at hc
 by_cases h1:0≤(j:Int)∧(j:Int)≤(p.aa.length:Int)-1
 · rw[if_pos h1] at hc
   by_cases h2:(gt p.aa ((j:Int)).toNat).State=2
   · rw[aq8] at h2;exact h2
   · rw[if_neg h2] at hc;cases hc
 · rw[if_neg h1] at hc;cases hc
theorem Vd(aio:∀k,k<p.aa.length→(conn b p (k:Int)).2=true→(gt p.aa k).aB=(gt p.aa (eH b p k)).aB∧(gt p.aa k).aG=(gt p.aa (eH b p k)).aG):cH b p=p.aa:=by
 apply fp
 · exact nN
 · intro k hk
   rw[nN] at hk
   rw[pZ hk]
   unfold gm
   split
   · rename_i hc
     obtain⟨h1,h2⟩:=aio k hk hc
     unfold oy
     rw[←h1,←h2]
   · rfl
theorem Ve(h:cH b p=p.aa){k:Nat}(hk:k<p.aa.length)(hc:(conn b p (k:Int)).2=true):(gt p.aa k).aB=(gt p.aa (eH b p k)).aB∧(gt p.aa k).aG=(gt p.aa (eH b p k)).aG:=by
 have e:gt (cH b p) k=gt p.aa k:=by rw[h]
 rw[pZ hk] at e
 unfold gm at e
 rw[if_pos hc] at e
 rw[←e]
 exact⟨rfl,rfl⟩
theorem ajU(h:aJ b p=0)(hf:cH b p=p.aa):cH b (pk p)=(pk p).aa:=by
 obtain⟨⟨hl,hg⟩,⟨s1,s2,s3⟩,g1,g2,g3⟩:=bM.1 h
 have bD:∀j,j<p.aa.length→(gt (pk p).aa j).State=(gt p.aa j).State:=fun j hj=>by rw[Du hj,acw]
 refine Vd fun k hk hc=> ?_
 rw[wu] at hk
 rw[GY (p:=p) (q:=pk p) rfl wu bD] at hc
 rw[S5 (p:=p) (q:=pk p) rfl wu bD]
 obtain⟨_,e2,e3,_,_⟩:=Fu hg.1 (show k<b.aa.length by omega) hc
 obtain⟨f1,f2⟩:=Ve hf hk hc
 rw[Du hk,Du (show eH b p k<p.aa.length by omega)]
 unfold tick
 rw[if_pos (VS hc),if_pos (VS e3)]
 simp only[f1,f2]
 exact⟨trivial,trivial⟩
end
theorem Jq{b:aj}{p:ae}(h:bA p):bA (m8 b p):=⟨h.1,by show Sm (cH b p);unfold Sm;rw[nN];exact h.2.1,h.2.2.1,h.2.2.2⟩
theorem ac_{p:ae}(h:bA p):bA (pk p):=⟨h.1,by unfold Sm;rw[wu];exact h.2.1,h.2.2.1,h.2.2.2⟩
end Rx
namespace Rx
def swapAt(d:List Int)(j:Nat):List Int:=(d.set (j+1) (d.getD j 0)).set j (d.getD (j+1) 0)
def inner(lt:Int→Int→Bool):Nat→List Int→List Int
 |0,d=>d
 |j+1,d=>if lt (d.getD (j+1) 0) (d.getD j 0)=true then inner lt j (swapAt d j) else d
def outer(lt:Int→Int→Bool):Nat→Nat→List Int→List Int
 |0,_,d=>d
 |m+1,i,d=>outer lt m (i+1) (inner lt i d)
def Ok(n:Nat)(p:Int→Prop)(d:List Int):Prop:=d.length=n∧∀x∈d,p x
theorem EZ{n:Nat}{p:Int→Prop}{d:List Int}(h:Ok n p d){j:Nat}(hj:j<n):p (d.getD j 0):=by
 have hl:=h.1
 have:d.getD j 0=d[j]:=by simp[List.getD,hl,hj]
 rw[this]
 exact h.2 _ (List.getElem_mem _)
theorem ae5{n:Nat}{p:Int→Prop}{d:List Int}(h:Ok n p d){j:Nat}(hj:j+1<n):Ok n p (swapAt d j):=by
 refine⟨by simp[swapAt,h.1],fun x hx=> ?_⟩
 unfold swapAt at hx
 rcases List.mem_or_eq_of_mem_set hx with hx|rfl
 · rcases List.mem_or_eq_of_mem_set hx with hx|rfl
   · exact h.2 x hx
   · exact EZ h (by omega)
 · exact EZ h hj
def iy(r:List Int):Int:=r.foldr (·+·) 0
def rest(total:Int)(r:List Int)(s:Int)(i:Int):Int:=(total*r.getD i.toNat 0)% s
def ik(n:Nat):List Int:=(aqN n).map Int.ofNat
def Rat(r:List Int):Prop:=r.length≤8∧∀x∈r,1≤x∧x≤50000
theorem acM{r:List Int}(h:∀x∈r,1≤x∧x≤50000):(r.length:Int)≤iy r∧iy r≤50000*r.length:=by
 induction r with
 |nil=>simp[iy]
 |cons x r ih=>
  have h1:=ih fun y hy=>h y (aq7 _ hy)
  have h2:=h x arG
  have:iy (x::r)=x+iy r:=rfl
  rw[this]
  simp only[List.length_cons]
  omega
theorem yd(n:Nat):(ik n).length=n:=by simp[ik]
theorem acL{l:List Int}{B:Int}(h:∀x∈l,0≤x∧x≤B):0≤iy l∧iy l≤B*l.length:=by
 induction l with
 |nil=>simp[iy]
 |cons x l ih=>
  have h1:=ih fun y hy=>h y (aq7 _ hy)
  have h2:=h x arG
  have:iy (x::l)=x+iy l:=rfl
  rw[this]
  have e:B*((x::l).length:Int)=B*l.length+B:=by simp[Int.mul_add]
  rw[e]
  omega
theorem akv(n:Nat):Ok n (fun x=>0≤x∧x<n) (ik n):=by
 refine⟨yd n,fun x hx=> ?_⟩
 obtain⟨k,hk,rfl⟩:=aqX.1 hx
 have:=aqV.1 hk
 exact⟨Int.natCast_nonneg k,by simpa using this⟩
section
variable {r:List Int} {total s:Int}
theorem LO{d:List Int}{j:Nat}(h:j<d.length):idx d (j:Int)=some (d.getD j 0):=az h
end
def kC(lt:Int→Int→Bool)(x:Int):List Int→List Int
 |[]=>[x]
 |y::l=>if lt x y=true then y::kC lt x l else x::y::l
theorem Ti(lt:Int→Int→Bool)(x:Int):∀l:List Int,(kC lt x l).length=l.length+1
 |[]=>rfl
 |y::l=>by
  unfold kC
  split
  · simp[Ti lt x l]
  · rfl
theorem Fz(lt:Int→Int→Bool)(x:Int):∀l:List Int,(kC lt x l).Perm (x::l)
 |[]=>List.Perm.refl _
 |y::l=>by
  unfold kC
  split
  · exact((Fz lt x l).cons y).trans (List.Perm.swap x y l)
  · exact List.Perm.refl _
theorem ajK(l m:List Int)(a:Int):(l++a::m).getD l.length 0=a:=by simp[List.getD]
theorem Tk(lt:Int→Int→Bool)(x:Int):∀(l post:List Int),inner lt l.length (l.reverse++x::post)=(kC lt x l).reverse++post
 |[],post=>rfl
 |y::l,post=>by
  have hl:l.reverse.length=l.length:=List.length_reverse
  have e0:(y::l).reverse++x::post=l.reverse++y::x::post:=by simp
  have e1:(l.reverse++y::x::post).getD l.length 0=y:=by rw[←hl];exact ajK _ _ _
  have e2:(l.reverse++y::x::post).getD (l.length+1) 0=x:=by
   simp
  rw[e0]
  show inner lt (l.length+1) _=_
  rw[inner,e1,e2,kC]
  split
  · rename_i h
    have e3:swapAt (l.reverse++y::x::post) l.length=l.reverse++x::y::post:=by
     unfold swapAt
     rw[e1,e2,List.set_append_right _ _ (by omega),hl]
     have:l.length+1-l.length=1:=by omega
     rw[this,List.set_append_right _ _ (by omega),hl,Nat.sub_self]
     rfl
    rw[e3,Tk lt x l (y::post)]
    simp
  · simp
theorem Sa(lt:Int→Int→Bool):∀(xs l:List Int),outer lt xs.length l.length (l.reverse++xs)=(xs.foldl (fun a x=>kC lt x a) l).reverse
 |[],l=>by simp[outer]
 |x::xs,l=>by
  show outer lt (xs.length+1) l.length _=_
  rw[outer,Tk lt x l xs]
  have:=Sa lt xs (kC lt x l)
  rw[Ti] at this
  rw[this]
  rfl
def C8(f:Int→Int)(a b:Int):Prop:=f a<f b∨(f a=f b∧b<a)
theorem Th{lt:Int→Int→Bool}{f:Int→Int}(aK:∀x y,lt x y=true↔f y<f x){x:Int}:∀{l:List Int},(∀y∈l,y<x)→l.Pairwise (C8 f)→(kC lt x l).Pairwise (C8 f)
 |[],_,_=>by simp[kC]
 |y::l,hx,h=>by
  have h':=ar'.1 h
  unfold kC
  split
  · rename_i hh
    have hf:=(aK x y).1 hh
    refine ar'.2 ⟨fun z hz=> ?_,Th aK (fun z hz=>hx z (aq7 _ hz)) h'.2⟩
    have kD:=(Fz lt x l).mem_iff.1 hz
    rcases aqR.1 kD with rfl|kD
    · exact .inl hf
    · exact h'.1 z kD
  · rename_i hh
    have hf:f x≤f y:=by
     apply Int.not_lt.1
     intro h2
     exact hh ((aK x y).2 h2)
    refine ar'.2 ⟨fun z hz=> ?_,h⟩
    have hzx:=hx z hz
    have sp:f y≤f z:=by
     rcases aqR.1 hz with rfl|hz
     · exact Int.le_refl _
     · rcases h'.1 z hz with h3|h3<;>omega
    rcases Int.lt_or_le (f x) (f z) with h4|h4
    · exact .inl h4
    · exact .inr ⟨by omega,hzx⟩
theorem Vf{lt:Int→Int→Bool}{f:Int→Int}(aK:∀x y,lt x y=true↔f y<f x):∀(xs l:List Int),xs.Pairwise (·<·)→(∀y∈l,∀x∈xs,y<x)→l.Pairwise (C8 f)→
  (xs.foldl (fun a x=>kC lt x a) l).Pairwise (C8 f)∧(xs.foldl (fun a x=>kC lt x a) l).Perm (xs++l)
 |[],l,_,_,h=>⟨h,List.Perm.refl _⟩
 |x::xs,l,hp,hl,h=>by
  have kG:=ar'.1 hp
  have h1:=Th aK (x:=x) (l:=l) (fun y hy=>hl y hy x arG) h
  have ih:=Vf aK xs (kC lt x l) kG.2 (fun y hy z hz=>by
   have er:=(Fz lt x l).mem_iff.1 hy
   rcases aqR.1 er with rfl|er
   · exact kG.1 z hz
   · exact hl y er z (aq7 _ hz)) h1
  refine⟨ih.1,ih.2.trans ?_⟩
  exact((Fz lt x l).append_left xs).trans List.perm_middle
theorem aku(n:Nat):(ik n).Pairwise (·<·):=by
 unfold ik
 rw[List.pairwise_map]
 exact List.pairwise_lt_range.imp fun h=>by simpa using h
theorem acN(a b:List Int):iy (a++b)=iy a+iy b:=by
 induction a with
 |nil=>simp[iy]
 |cons x a ih=>show x+iy (a++b)=x+iy a+iy b;rw[ih];omega
section
variable {r:List Int} {total:Int}
end
end Rx
namespace Rx
section
variable {b:aj} {p:ae}
def jx(f:Nat→Int)(l:List Int):Int:=iy (l.map fun k=>f k.toNat)
theorem Q0(f:Nat→Int)(l:List Int)(k:Int):jx f (l++[k])=jx f l+f k.toNat:=by
 unfold jx
 rw[arI,acN]
 simp[iy]
theorem zK{f:Nat→Int}{l:List Int}{B:Int}(h:∀k∈l,0≤f k.toNat∧f k.toNat≤B):0≤jx f l∧jx f l≤B*l.length:=by
 have:=acL (l:=l.map fun k=>f k.toNat) (B:=B) (fun x hx=>by
  obtain⟨k,hk,rfl⟩:=aqX.1 hx
  exact h k hk)
 simpa[jx] using this
def jk(p:ae)(x:aR):Int:=if x.aa=[] then 0 else jx (gt p.aE) x.ai
def fa(b:aj)(x:aR):Int:=jx (fun k=>(gt b.aa k).dg) x.aa
theorem Sn(hg:bn b)(k:Int):(∀c∈(cD b p k).1.ai,0≤c∧c<b.ai.length)∧(∀c∈(cD b p k).1.aa,0≤c∧c<b.aa.length)∧(cD b p k).1.ai.length≤b.ai.length∧(cD b p k).1.aa.length≤b.aa.length:=by
 unfold cD
 split
 · have h:=qJ (b:=b) (p:=p) (gt (bu b p) k.toNat).toNat
   refine⟨fun c hc=> ?_,fun c hc=> ?_,h.2.2,h.2.1⟩
   · obtain⟨j,hj,_,_,e⟩:=SC.1 hc
     omega
   · obtain⟨j,hj,_,_,e⟩:=Fc.1 hc
     omega
 · exact⟨fun c hc=>(by cases hc),fun c hc=>(by cases hc),arj _,arj _⟩
theorem A3(h:aJ b p=0){k:Nat}(hk:k<b.ai.length):0≤gt p.aE k∧gt p.aE k≤50000:=by
 obtain⟨⟨hl,hg⟩,⟨s1,s2,s3⟩,g1,g2,g3⟩:=bM.1 h
 have h1:=(g3 k (by omega)).1
 have h2:=(hg.2.2.2.2 k hk).2.1
 omega
theorem AL(h:aJ b p=0){k:Nat}(hk:k<b.aa.length):1≤(gt b.aa k).dg∧(gt b.aa k).dg≤50000:=by
 obtain⟨⟨hl,hg⟩,_⟩:=bM.1 h
 exact(hg.2.2.2.1 k hk).1
theorem E3(h:aJ b p≠0)(k:Int):(cD b p k).1=⟨[],[],[]⟩:=by unfold cD;rw[if_neg (fun hn=>h hn.1)]
theorem Lk(hb:bP b)(hp:bA p)(k:Int):rq b p k=some (jk p (cD b p k).1):=by
 by_cases h:aJ b p=0
 case neg=>
  unfold rq
  rw[of_eq hb hp]
  have e:ji b p k=([],[],[],(cD b p k).2):=by unfold ji;rw[E3 h]
  rw[e,E3 h]
  rfl
 obtain⟨⟨hl,hg⟩,⟨s1,s2,s3⟩,_⟩:=bM.1 h
 obtain⟨h1,h2,h3,h4⟩:=Sn (p:=p) hg.1 k
 have h8:=hl.eL
 generalize hx:(cD b p k).1=x at*
 have qR:=dE (step:=y9 p (ji b p k)) (fun i=>(if x.aa=[] then 0 else jx (gt p.aE) (x.ai.take i),(i:Int))) x.ai.length (r:=jk p x) (fun i hi=>by
  obtain⟨c0,c1⟩:=h1 _ (cV hi)
  obtain⟨c,ec⟩:=ara c0
  have ec:gt x.ai i=(c:Int):=ec
  have hc:c<p.aE.length:=by omega
  have e1:(ji b p k).2.2.1=x.ai:=by rw[←hx];rfl
  have e2:(ji b p k).2.1=x.aa:=by rw[←hx];rfl
  have mW:=zK (f:=gt p.aE) (l:=x.ai.take i) (B:=50000) (fun c hc=>by
   have:=h1 c (List.mem_of_mem_take hc)
   exact A3 h (by omega))
  have hlen:(x.ai.take i).length≤16:=by simp;omega
  have q7:=A3 h (k:=c) (by omega)
  by_cases hs:x.aa=[]
  · simp only[y9,e1,e2,hs,aQ hi,if_true,az hi,ec,aqF,dF (show ¬len ([]:List Int)>0 by decide),aqG,if_false,aU (show i<1000000000000000000 by omega)]
  · have nE:len x.aa>0:=by have:=arR.2 hs;unfold len;omega
    simp only[y9,e1,e2,if_neg hs,aQ hi,if_true,az hi,ec,aqF,dT nE,az hc,aU (show i<1000000000000000000 by omega),iM hi,Q0,aq8]
    rw[be (by omega) (by omega)]) (by
  have e1:(ji b p k).2.2.1=x.ai:=by rw[←hx];rfl
  simp only[y9,e1,bl,aqG,if_false,arw]
  rfl)
 unfold rq
 have e0:(if x.aa=[] then(0:Int) else jx (gt p.aE) (x.ai.take 0),((0:Nat):Int))=(0,0):=by simp[jx,iy]
 have FR:ay (y9 p (ji b p k)) (if x.aa=[] then(0:Int) else jx (gt p.aE) (x.ai.take 0),((0:Nat):Int))=_:=qR
 rw[e0] at FR
 simp only[of_eq hb hp,aqF,FR]
theorem Ks(hb:bP b)(hp:bA p)(k:Int):rn b p k=some (fa b (cD b p k).1):=by
 by_cases h:aJ b p=0
 case neg=>
  unfold rn
  rw[of_eq hb hp]
  have e:ji b p k=([],[],[],(cD b p k).2):=by unfold ji;rw[E3 h]
  rw[e,E3 h]
  rfl
 obtain⟨⟨hl,hg⟩,⟨s1,s2,s3⟩,_⟩:=bM.1 h
 obtain⟨h1,h2,h3,h4⟩:=Sn (p:=p) hg.1 k
 have h8:=hl.src
 generalize hx:(cD b p k).1=x at*
 have e2:(ji b p k).2.1=x.aa:=by rw[←hx];rfl
 have qR:=dE (step:=CR b (ji b p k)) (fun i=>(jx (fun k=>(gt b.aa k).dg) (x.aa.take i),(i:Int))) x.aa.length (r:=fa b x) (fun i hi=>by
  obtain⟨c0,c1⟩:=h2 _ (cV hi)
  obtain⟨c,ec⟩:=ara c0
  have ec:gt x.aa i=(c:Int):=ec
  have hc:c<b.aa.length:=by omega
  have mW:=zK (f:=fun k=>(gt b.aa k).dg) (l:=x.aa.take i) (B:=50000) (fun c hc=>by
   have:=h2 c (List.mem_of_mem_take hc)
   have:=AL h (k:=c.toNat) (by omega)
   exact⟨by omega,this.2⟩)
  have hlen:(x.aa.take i).length≤8:=by simp;omega
  have q7:=AL h (k:=c) (by omega)
  simp only[CR,e2,aQ hi,if_true,az hi,ec,aqF,az hc,aU (show i<1000000000000000000 by omega),iM hi,Q0,aq8]
  rw[be (by omega) (by omega)]) (by
  simp only[CR,e2,bl,aqG,if_false,arw]
  rfl)
 unfold rn
 have FR:ay (CR b (ji b p k)) (0,0)=_:=qR
 simp only[of_eq hb hp,aqF,FR]
def EL(b:aj)(x:aR):List Int:=x.aa.map fun k=>(gt b.aa k.toNat).dg
theorem aer(x:aR):iy (EL b x)=fa b x:=by unfold EL fa jx;rfl
theorem qK(hg:bn b){x:aR}(hx:x∈aT b p):(∀c∈x.ai,0≤c∧c<b.ai.length)∧(∀c∈x.aa,0≤c∧c<b.aa.length)∧x.ai.length≤b.ai.length∧x.aa.length≤b.aa.length∧0<x.ak.length:=by
 obtain⟨f,hf,e,bg⟩:=uv.1 hx
 have h:=qJ (b:=b) (p:=p) f
 rw[e]
 refine⟨fun c hc=> ?_,fun c hc=> ?_,h.2.2,h.2.1,arR.2 bg⟩
 · obtain⟨j,hj,_,_,e⟩:=SC.1 hc
   omega
 · obtain⟨j,hj,_,_,e⟩:=Fc.1 hc
   omega
theorem agn(h:aJ b p=0){x:aR}(hx:x∈aT b p):(cD b p (gt x.ak 0)).1=x:=by
 obtain⟨⟨hl,hg⟩,_⟩:=bM.1 h
 have hb0:=(qK hg.1 hx).2.2.2.2
 obtain⟨h1,h2,h3⟩:=LC hx (cV hb0)
 unfold cD
 rw[if_pos ⟨h,h1,by omega⟩]
 exact h3.symm
theorem aet(h:aJ b p=0){x:aR}(hx:x∈aT b p):Rat (EL b x):=by
 obtain⟨⟨hl,hg⟩,_⟩:=bM.1 h
 obtain⟨h1,h2,h3,h4,_⟩:=qK hg.1 hx
 refine⟨by unfold EL;simp;have:=hl.src;omega,fun r hr=> ?_⟩
 obtain⟨k,hk,rfl⟩:=aqX.1 hr
 have:=h2 k hk
 exact AL h (by omega)
theorem afO(h:aJ b p=0){x:aR}(hx:x∈aT b p):0≤jk p x∧jk p x≤800000∧(x.aa=[]→jk p x=0):=by
 obtain⟨⟨hl,hg⟩,_⟩:=bM.1 h
 obtain⟨h1,h2,h3,h4,_⟩:=qK hg.1 hx
 have h8:=hl.eL
 have mW:=zK (f:=gt p.aE) (l:=x.ai) (B:=50000) (fun c hc=>by
  have:=h1 c hc
  exact A3 h (by omega))
 unfold jk
 refine⟨?_, ?_,fun e=>if_pos e⟩
 · split<;>omega
 · split<;>omega
end
end Rx
namespace Rx
theorem aeM{p q:Part}(h1:p.Kind=q.Kind)(h2:p.Number=q.Number):p=q:=by
 cases p;cases q;simp at h1 h2;rw[h1,h2]
section
variable {b:aj} {p:ae}
def bV(p:ae)(k n:Int):Bool:=dB ((⟨k,n⟩:Part)∈p.aA)
theorem Zq(hp:bA p)(k n:Int):jO p k n=some (bV p k n):=by
 have hl:=hp.2.2.2
 unfold jO D3 DR
 have e1:∀i,((k==(gt p.aA i).Kind&&n==(gt p.aA i).Number)=true↔gt p.aA i=(⟨k,n⟩:Part)):=fun i=>by
  simp only[Bool.and_eq_true,beq_iff_eq]
  exact⟨fun⟨h1,h2⟩=>aeM h1.symm h2.symm,fun h=>by rw[h];exact⟨rfl,rfl⟩⟩
 by_cases hm:(⟨k,n⟩:Part)∈p.aA
 · have hw:Wp (ay (oe p.aA ⟨k,n⟩) 0) fun r=>∃q:Nat,r= .inr (q:Int):=by
    obtain⟨j,hj,he⟩:=kY hm
    refine dO p.aA.length (fun k s=>s=(k:Int)∧k≤j) ⟨rfl,by omega⟩ (fun i s hi hv=> ?_) (fun s hv=>by omega) (Q9 hl)
    obtain⟨rfl,hv⟩:=hv
    unfold oe
    simp only[aQ hi,if_true,az hi,aqF]
    cases hb:(k==(gt p.aA i).Kind&&n==(gt p.aA i).Number) with
    |true=>simp only[if_true];exact al.2 ⟨i,rfl⟩
    |false=>
     simp only[aqG,if_false]
     refine al.2 ⟨aU (cM hl hi), ?_⟩
     by_cases e:i=j
     · subst e
       rw[(e1 i).2 he] at hb
       cases hb
     · omega
   obtain⟨r,e,q,rfl⟩:=hw
   rw[e]
   unfold bV
   rw[il hm]
   simp only[aqF,aqJ]
   rw[dT (by omega)]
 · have e:ay (oe p.aA ⟨k,n⟩) 0=some (.inl ()):=dE (r:=Sum.inl ()) (fun k=>(k:Int)) p.aA.length (fun i hi=>by
    unfold oe
    simp only[aQ hi,if_true,az hi,aqF]
    cases hb:(k==(gt p.aA i).Kind&&n==(gt p.aA i).Number) with
    |true=>exact(hm ((e1 i).1 hb▸cV hi)).elim
    |false=>
     simp only[aqG,if_false]
     rw[aU (cM hl hi)]) (by
    unfold oe
    simp only[bl,aqG,if_false]) (Q9 hl)
   rw[e]
   unfold bV
   rw[fq hm]
   simp only[aqF,aqI]
   rw[dF (by omega)]
def nC(b:aj)(p:ae)(k:Int):Bool:=decide (0<(cD b p k).1.aa.length)
theorem SV(hb:bP b)(hp:bA p)(k:Int):tu b p k=some (nC b p k):=Ln hb hp k
def fH(p:ae)(x:aO):Bool:=bV p 3 x.A||(if x.Kind=1 then bV p 3 x.B else if x.Kind=2 then bV p 1 x.B||((gt p.aa x.B.toNat).State !=2) else bV p 4 x.B)
theorem akX(hp:bA p){x:aO}(hx:x.Kind=2→0≤x.B∧x.B<p.aa.length)(a:List Act):EI ⟨b,p,a⟩ x=some (fH p x):=by
 unfold EI wR fH
 simp only[Zq hp,aqF]
 cases bV p 3 x.A with
 |true=>simp only[if_true,Bool.true_or]
 |false=>
  simp only[aqG,if_false,Bool.false_or]
  by_cases h1:x.Kind=1
  · rw[eh h1,if_pos h1]
    simp only[if_true]
  · rw[bY h1,if_neg h1]
    simp only[aqG,if_false]
    by_cases h2:x.Kind=2
    · rw[eh h2,if_pos h2]
      simp only[if_true]
      cases bV p 1 x.B with
      |true=>simp only[if_true,aqF,Bool.true_or]
      |false=>
       have:=hx h2
       simp only[aqG,if_false,fQ this.1 this.2,aqF,Bool.false_or]
    · rw[bY h2,if_neg h2]
      simp only[aqG,if_false]
def eG(C:List Bool)(P:Nat→Bool):List Bool:=(aqN C.length).map fun i=>gt C i&& !P i
theorem gV(C:List Bool)(P:Nat→Bool):(eG C P).length=C.length:=by simp[eG]
theorem lM{C:List Bool}{P:Nat→Bool}{i:Nat}(h:i<C.length):gt (eG C P) i=(gt C i&& !P i):=fV _ h
def mq(i:Int):Act:=⟨2,i,0⟩
def ef(C:List Bool)(P:Nat→Bool):List Int:=a_ (fun i=>gt C i&&P i) C.length
def cL(b:aj)(p:ae)(a:List Act):Int×List aO×List Source×List Consumer×Int×Int×List Bool×List aC×List Int×List Part×List Act:=(b.ak,b.ad,b.aa,b.ai,b.aG,b.aB,p.aq,p.aa,p.aE,p.aA,a)
theorem EX(C:List Bool)(l:List Int)(h:∀k∈l,0≤k∧k<(C.length:Int)):∀i,gt (l.foldl (fun c k=>c.set k.toNat false) C) i=(gt C i&& !decide ((i:Int)∈l))∧(l.foldl (fun c k=>c.set k.toNat false) C).length=C.length:=by
 induction l generalizing C with
 |nil=>intro i;simp
 |cons k l ih=>
  intro i
  have hk:=h k (by simp)
  have:=ih (C.set k.toNat false) (fun j hj=>by have:=h j (by simp[hj]);simpa using this) i
  simp only[List.foldl_cons]
  rw[this.1,this.2]
  refine⟨?_,by simp⟩
  rw[dz (by omega)]
  by_cases e:i=k.toNat
  · have:(i:Int)=k:=by omega
    rw[if_pos e,this];simp
  · have:(i:Int)≠k:=by omega
    rw[if_neg e]
    simp[this]
theorem KF{b:aj}{p:ae}{a:List Act}{l:List Int}(hC:p.aq.length≤1000)(hl:l.length≤1000)(ha:a.length≤10000000)(h:∀k∈l,0≤k∧k<(p.aq.length:Int)):
  ay (xc l) (0,cL b p a)=some (cL b {p with aq:=l.foldl (fun c k=>c.set k.toNat false) p.aq} (a++l.map mq)):=by
 have:=dE (step:=xc l) (r:=cL b {p with aq:=l.foldl (fun c k=>c.set k.toNat false) p.aq} (a++l.map mq)) (fun k=>((k:Int),cL b {p with aq:=(l.take k).foldl (fun c k=>c.set k.toNat false) p.aq} (a++(l.take k).map mq))) l.length (fun k hk=>by
  have hg:=h _ (cV hk)
  have nG:=(EX p.aq (l.take k) (fun j hj=>h j (List.mem_of_mem_take hj)) 0).2
  unfold xc Az
  simp only[cL,aQ hk,if_true,az hk,aqF]
  rw[fQ (l:=(l.take k).foldl (fun c k=>c.set k.toNat false) p.aq) hg.1 (by rw[nG];exact hg.2),wT hg.1 (by rw[nG];exact hg.2),cp (by simp;omega),aU (by omega)]
  simp only[aqF,iM hk,List.foldl_append,List.foldl_cons,List.foldl_nil,arI,List.map_cons,List.map_nil,List.append_assoc]
  rfl) (by
  unfold xc
  simp only[cL,bl,aqG,if_false,arw]) (by omega)
 simpa using this
theorem vw{C:List Bool}{P:Nat→Bool}:∀k∈ef C P,0≤k∧k<(C.length:Int):=fun k hk=>by
 obtain⟨i,hi,_,rfl⟩:=r_.1 hk
 omega
theorem Nx(C:List Bool)(P:Nat→Bool):(ef C P).foldl (fun c k=>c.set k.toNat false) C=eG C P:=by
 refine fp (by rw[(EX C (ef C P) vw 0).2,gV]) fun i hi=> ?_
 rw[(EX C (ef C P) vw 0).2] at hi
 rw[(EX C (ef C P) vw i).1,lM hi]
 cases hc:gt C i with
 |false=>simp
 |true=>
  simp only[Bool.true_and]
  congr 1
  cases hP:P i with
  |true=>exact decide_eq_true (r_.2 ⟨i,hi,by simp[hc,hP],rfl⟩)
  |false=>
   refine decide_eq_false fun hm=> ?_
   obtain⟨j,_,hj,e⟩:=r_.1 hm
   have:i=j:=by omega
   subst this
   rw[hP] at hj
   simp at hj
theorem vz(C:List Bool)(P:Nat→Bool):(ef C P).length≤C.length:=ky _ _
def fX(b:aj)(p:ae):ae:={p with aq:=eG p.aq fun i=>fH p (gt b.ad i)}
def dead(b:aj)(p:ae)(x:aO):Bool:=x.Kind==3&& !nC b p x.A
def sW(b:aj)(p:ae):ae:={fX b p with aq:=eG (fX b p).aq fun i=>dead b (fX b p) (gt b.ad i)}
def rh(b:aj)(p:ae):List Act:=(ef p.aq fun i=>fH p (gt b.ad i)).map mq++(ef (fX b p).aq fun i=>dead b (fX b p) (gt b.ad i)).map mq
def iJ(b:aj)(p:ae):ae:=m8 b (sW b p)
theorem V0{q:ae}{j:Int}(h:∀k,gt q.aq k=true→gt p.aq k=true):∀n,cI b q j n≤cI b p j n:=by
 intro n
 induction n with
 |zero=>exact aqM _
 |succ n ih=>
  unfold cI
  by_cases hc:(gt b.ad n).Kind=3∧(gt b.ad n).B=j∧gt q.aq n=true
  · rw[if_pos hc,if_pos ⟨hc.1,hc.2.1,h n hc.2.2⟩];omega
  · rw[if_neg hc];omega
theorem DH{q:ae}(h:aJ b p=0)(hl:q.aq.length=p.aq.length)(hs:q.aa=p.aa)(hm:q.aE=p.aE)(hb:q.aA=p.aA)(hc:∀k,gt q.aq k=true→gt p.aq k=true):aJ b q=0:=by
 obtain⟨h1,⟨s1,s2,s3⟩,⟨g1,g2⟩,g3,g4⟩:=bM.1 h
 refine bM.2 ⟨h1,⟨by omega,by rw[hs];exact s2,by rw[hm];exact s3⟩,⟨by rw[hb];exact g1,by rw[hb];exact g2⟩,by rw[hs];exact g3,fun k hk=> ?_⟩
 rw[hm] at hk
 obtain⟨a,c⟩:=g4 k hk
 refine⟨by rw[hm];exact a, ?_⟩
 have:=V0 (b:=b) (j:=(k:Int)) hc b.ad.length
 omega
theorem AS{C:List Bool}{P:Nat→Bool}{k:Nat}(h:gt (eG C P) k=true):gt C k=true:=by
 by_cases hk:k<C.length
 · rw[lM hk] at h
   cases hc:gt C k with
   |true=>rfl
   |false=>rw[hc] at h;cases h
 · unfold gt at h
   rw[List.getD_eq_getElem?_getD,List.getElem?_eq_none (by rw[gV];omega)] at h
   exact Bool.noConfusion h
theorem Jh(h:aJ b p=0):aJ b (fX b p)=0:=DH h (gV _ _) rfl rfl rfl fun k hk=>AS hk
theorem DI(h:aJ b p=0):aJ b (sW b p)=0:=DH (Jh h) (gV _ _) rfl rfl rfl fun k hk=>AS hk
theorem Q8{q:ae}(hp:bA p)(hl:q.aq.length=p.aq.length)(hs:q.aa=p.aa)(hm:q.aE=p.aE)(hb:q.aA=p.aA):bA q:=by
 obtain⟨h1,h2,h3,h4⟩:=hp
 refine⟨?_,by rw[hs];exact h2,by rw[hm];exact h3,by rw[hb];exact h4⟩
 unfold Sm at h1⊢;omega
theorem Rb(hp:bA p):bA (fX b p):=Q8 hp (gV _ _) rfl rfl rfl
theorem Ra(hp:bA p):bA (sW b p):=Q8 (Rb (b:=b) hp) (gV _ _) rfl rfl rfl
theorem iK(h:aJ b p=0):p.aq.length=b.ad.length∧p.aa.length=b.aa.length∧b.ad.length≤24∧b.aa.length≤8∧b.ai.length≤16∧p.aE.length=b.ai.length:=by
 obtain⟨⟨hl,_⟩,⟨s1,s2,s3⟩,_⟩:=bM.1 h
 exact⟨s1,s2,hl.bV,hl.src,hl.eL,s3⟩
theorem Jn(h:aJ b p=0){k:Nat}(hk:k<b.ad.length)(h2:(gt b.ad k).Kind=2):0≤(gt b.ad k).B∧(gt b.ad k).B<(p.aa.length:Int):=by
 obtain⟨s1,s2,_⟩:=iK h
 have:=(((bM.1 h).1.2).1.1 k hk).2
 rcases this with c|c|c<;>omega
theorem acI(hp:bA p)(h:aJ b p=0){a:List Act}(ha:a.length≤1000000):EE ⟨b,p,a⟩=some (cL b (fX b p) (a++(ef p.aq fun i=>fH p (gt b.ad i)).map mq)):=by
 obtain⟨s1,s2,s3,_⟩:=iK h
 unfold EE
 have e1:ay (Ax ⟨b,p,a⟩) (0,[])=some (ef p.aq fun i=>fH p (gt b.ad i)):=by
  have:=dE (step:=Ax ⟨b,p,a⟩) (r:=ef p.aq fun i=>fH p (gt b.ad i)) (fun k=>((k:Int),a_ (fun i=>gt p.aq i&&fH p (gt b.ad i)) k)) b.ad.length (fun k hk=>by
   have iT:=ky (fun i=>gt p.aq i&&fH p (gt b.ad i)) k
   unfold Ax
   simp only[aQ hk,if_true,az hk,aqF,az (l:=p.aq) (k:=k) (by omega),akX (b:=b) hp (x:=gt b.ad k) (Jn h hk) a]
   rw[aU (by omega),kU]
   cases gt p.aq k with
   |false=>simp
   |true=>
    cases fH p (gt b.ad k) with
    |false=>simp
    |true=>
     simp only[if_true,aqF,Bool.and_self]
     rw[cp (by simp;omega)]
     rfl) (by
   unfold Ax
   simp only[bl,aqG,if_false]
   unfold ef
   rw[s1]) (by omega)
  simpa[a_] using this
 rw[e1]
 have dG:(ef p.aq fun i=>fH p (gt b.ad i)).length≤1000:=by
  have:=vz p.aq fun i=>fH p (gt b.ad i)
  omega
 have e2:=KF (b:=b) (p:=p) (a:=a) (l:=ef p.aq fun i=>fH p (gt b.ad i)) (by omega) dG (by omega) vw
 simp only[aqF]
 rw[show ay (xc (ef p.aq fun i=>fH p (gt b.ad i))) (0,b.ak,b.ad,b.aa,b.ai,b.aG,b.aB,p.aq,p.aa,p.aE,p.aA,a)=_ from e2,Nx]
 rfl
theorem acH(hb:bP b)(hp:bA p)(h:aJ b p=0){a:List Act}(ha:a.length≤1000000):ED ⟨b,p,a⟩=some (cL b {p with aq:=eG p.aq fun i=>dead b p (gt b.ad i)} (a++(ef p.aq fun i=>dead b p (gt b.ad i)).map mq)):=by
 obtain⟨s1,s2,s3,_⟩:=iK h
 unfold ED
 have e1:ay (xa ⟨b,p,a⟩) (0,[],cL b p a)=some (ef p.aq fun i=>dead b p (gt b.ad i),cL b p a):=by
  have:=dE (step:=xa ⟨b,p,a⟩) (r:=(ef p.aq fun i=>dead b p (gt b.ad i),cL b p a)) (fun k=>((k:Int),a_ (fun i=>gt p.aq i&&dead b p (gt b.ad i)) k,cL b p a)) b.ad.length (fun k hk=>by
   have iT:=ky (fun i=>gt p.aq i&&dead b p (gt b.ad i)) k
   have nL:(⟨b.ak,b.ad,b.aa,b.ai,b.aG,b.aB⟩:aj)=b:=rfl
   have lj:(⟨p.aq,p.aa,p.aE,p.aA⟩:ae)=p:=rfl
   unfold xa JX
   simp only[cL,aQ hk,if_true,az hk,aqF,az (l:=p.aq) (k:=k) (by omega),nL,lj,SV hb hp]
   rw[aU (by omega),kU]
   generalize a_ (fun i=>gt p.aq i&&dead b p (gt b.ad i)) k=R at iT⊢
   unfold dead
   cases gt p.aq k with
   |false=>simp
   |true=>
    cases(gt b.ad k).Kind==3 with
    |false=>simp
    |true=>
     cases nC b p (gt b.ad k).A with
     |true=>simp
     |false=>
      simp only[if_true,aqF,Bool.and_self,Bool.not_false]
      rw[cp (by simp;omega)]
      rfl) (by
   unfold xa
   simp only[cL,bl,aqG,if_false]
   unfold ef
   rw[s1]) (by omega)
  simpa[a_] using this
 rw[show ay (xa ⟨b,p,a⟩) (0,[],b.ak,b.ad,b.aa,b.ai,b.aG,b.aB,p.aq,p.aa,p.aE,p.aA,a)=_ from e1]
 have dG:(ef p.aq fun i=>dead b p (gt b.ad i)).length≤1000:=by
  have:=vz p.aq fun i=>dead b p (gt b.ad i)
  omega
 have e2:=KF (b:=b) (p:=p) (a:=a) (l:=ef p.aq fun i=>dead b p (gt b.ad i)) (by omega) dG (by omega) vw
 simp only[aqF]
 rw[show ay (RN (ef p.aq fun i=>dead b p (gt b.ad i),cL b p a)) (0,(cL b p a).1,(cL b p a).2.1,(cL b p a).2.2.1,(cL b p a).2.2.2.1,(cL b p a).2.2.2.2.1,(cL b p a).2.2.2.2.2.1,(cL b p a).2.2.2.2.2.2.1,(cL b p a).2.2.2.2.2.2.2.1,(cL b p a).2.2.2.2.2.2.2.2.1,(cL b p a).2.2.2.2.2.2.2.2.2.1,(cL b p a).2.2.2.2.2.2.2.2.2.2)=_ from e2,Nx]
 rfl
theorem aln(hb:bP b)(hp:bA p)(h:aJ b p=0):EJ ⟨b,p,[]⟩=some (b.ak,b.ad,b.aa,b.ai,b.aG,b.aB,(sW b p).aq,(sW b p).aa,(sW b p).aE,(sW b p).aA,(iJ b p).aq,(iJ b p).aa,(iJ b p).aE,(iJ b p).aA,rh b p):=by
 obtain⟨s1,s2,s3,_⟩:=iK h
 have dG:=vz p.aq fun i=>fH p (gt b.ad i)
 unfold EJ
 rw[acI hp h (by simp)]
 simp only[aqF,cL]
 have e2:=acH (a:=[]++(ef p.aq fun i=>fH p (gt b.ad i)).map mq) hb (Rb (b:=b) hp) (Jh h) (by simp only[arT,List.length_map];omega)
 rw[show(⟨⟨b.ak,b.ad,b.aa,b.ai,b.aG,b.aB⟩,⟨(fX b p).aq,(fX b p).aa,(fX b p).aE,(fX b p).aA⟩,[]++(ef p.aq fun i=>fH p (gt b.ad i)).map mq⟩:dP)=⟨b,fX b p,[]++(ef p.aq fun i=>fH p (gt b.ad i)).map mq⟩ from rfl,e2]
 simp only[aqF,cL]
 have e3:=follow_eq hb (Ra (b:=b) hp) (DI h)
 rw[show rH ⟨b.ak,b.ad,b.aa,b.ai,b.aG,b.aB⟩ ⟨eG (fX b p).aq fun i=>dead b (fX b p) (gt b.ad i),(fX b p).aa,(fX b p).aE,(fX b p).aA⟩=_ from e3]
 simp only[aqF,arT]
 rfl
theorem acu{q:ae}(hc:∀k,k<b.ad.length→(gt b.ad k).Kind=1→gt q.aq k=gt p.aq k)(k:Nat)(hk:k≤b.ad.length)(f:List Int):eE b q k f=eE b p k f:=by
 induction k with
 |zero=>rfl
 |succ k ih=>
  unfold eE
  rw[ih (by omega)]
  unfold kw
  by_cases h1:(gt b.ad k).Kind=1
  · rw[hc k (by omega) h1]
  · rw[if_neg fun h=>h1 h.1,if_neg fun h=>h1 h.1]
theorem ajI{q:ae}(hc:∀k,k<b.ad.length→(gt b.ad k).Kind=1→gt q.aq k=gt p.aq k):bu b q=bu b p:=by
 unfold bu
 have:∀r f,rounds b q r f=rounds b p r f:=by
  intro r f
  induction r with
  |zero=>rfl
  |succ r ih=>unfold rounds;rw[ih,acu hc _ (aqM _)]
 exact this _ _
theorem find_congr{n:Nat}{P Q:Nat→Bool}(h:∀k,k<n→P k=Q k):(aqN n).find? P=(aqN n).find? Q:=by
 induction n with
 |zero=>rfl
 |succ n ih=>rw[List.range_succ,List.find?_append,List.find?_append,ih fun k hk=>h k (by omega)];simp[List.find?_cons,h n (by omega)]
theorem SY{q:ae}{kind j:Int}(hc:∀k,k<b.ad.length→(gt b.ad k).Kind=kind→(gt b.ad k).B=j→gt q.aq k=gt p.aq k):de b q kind j=de b p kind j:=by
 unfold de
 rw[find_congr (P:=iE b q kind j) (Q:=iE b p kind j) fun k hk=>by
  unfold iE
  cases h1:(gt b.ad k).Kind==kind with
  |false=>rfl
  |true=>
   cases h2:(gt b.ad k).B==j with
   |false=>rfl
   |true=>rw[hc k hk (by simpa using h1) (by simpa using h2)]]
theorem ald{q:ae}(hl:q.aa.length=p.aa.length)(hs:∀j,j<p.aa.length→(gt q.aa j).State=(gt p.aa j).State)(hc:∀k,k<b.ad.length→(gt b.ad k).Kind=2→gt q.aq k=gt p.aq k)(j:Int):conn b q j=conn b p j:=by
 unfold conn
 rw[hl]
 by_cases h:0≤j∧j≤(p.aa.length:Int)-1
 · rw[if_pos h,if_pos h,hs j.toNat (by omega),SY fun k hk h2 _=>hc k hk h2]
 · rw[if_neg h,if_neg h]
structure jt(b:aj)(p q:ae):Prop where
 len:q.aa.length=p.aa.length
 st:∀j,j<p.aa.length→(gt q.aa j).State=(gt p.aa j).State
 cl:∀k,k<b.ad.length→(gt b.ad k).Kind≠3→gt q.aq k=gt p.aq k
theorem jt.bu{q:ae}(h:jt b p q):bu b q=bu b p:=ajI fun k hk h1=>h.cl k hk (by omega)
theorem jt.conn{q:ae}(h:jt b p q)(j:Int):conn b q j=conn b p j:=ald h.len h.st (fun k hk h2=>h.cl k hk (by omega)) j
theorem jt.Jl{q:ae}(h:jt b p q)(f:Nat):(cn b q f).aa=(cn b p f).aa∧(cn b q f).ak=(cn b p f).ak:=by
 unfold cn
 refine⟨?_, ?_⟩
 · show a_ (eF b q f) _=a_ (eF b p f) _
   congr 1
   funext j
   unfold eF
   rw[h.bu,h.conn]
 · show a_ (fy b q f) _=a_ (fy b p f) _
   congr 1
   funext j
   unfold fy
   rw[h.bu]
theorem jt.ofS{q:ae}(h:jt b p q)(hp:aJ b p=0)(hq:aJ b q=0)(k:Int):(cD b q k).1.aa=(cD b p k).1.aa:=by
 unfold cD
 by_cases c:0≤k∧k<b.ak
 · rw[if_pos ⟨hq,c⟩,if_pos ⟨hp,c⟩]
   show(aW b q k).aa=(aW b p k).aa
   unfold aW
   rw[h.bu]
   exact(h.Jl _).1
 · rw[if_neg fun x=>c x.2,if_neg fun x=>c x.2]
theorem jt.nC{q:ae}(h:jt b p q)(hp:aJ b p=0)(hq:aJ b q=0)(k:Int):nC b q k=nC b p k:=by
 unfold Rx.nC
 rw[h.ofS hp hq]
theorem adB(h:aJ b p=0):jt b (fX b p) (sW b p):=by
 obtain⟨s1,_⟩:=iK h
 refine⟨rfl,fun _ _=>rfl,fun k hk h3=> ?_⟩
 show gt (eG (fX b p).aq _) k=_
 rw[lM (by show k<(eG p.aq _).length;rw[gV];omega)]
 unfold dead
 rw[bY h3]
 simp
theorem adA(h:aJ b p=0):jt b p (m8 b p):=⟨nN,fun j hj=>by rw[Vh hj],fun _ _ _=>rfl⟩
theorem jt.trans{q r:ae}(h:jt b p q)(h':jt b q r):jt b p r:=⟨by rw[h'.len,h.len],fun j hj=>by rw[h'.st j (by rw[h.len];exact hj),h.st j hj],fun k hk h3=>by rw[h'.cl k hk h3,h.cl k hk h3]⟩
end
end Rx
namespace Rx
def qE(b:aj)(c:Int):Int:=(gt b.ai c.toNat).iq
def lN(b:aj)(x y:Int):Bool:=decide (qE b x<qE b y)
theorem aeS{b:aj}{x y:Int}(hx:0≤x∧x<(b.ai.length:Int))(hy:0≤y∧y<(b.ai.length:Int)):∃c,Ee x y b=some c∧decide (c<0)=lN b x y:=by
 unfold Ee
 rw[fQ hx.1 hx.2,fQ hy.1 hy.2]
 simp only[aqF,N5]
 refine⟨_,rfl, ?_⟩
 unfold lN qE
 by_cases h1:(gt b.ai x.toNat).iq<(gt b.ai y.toNat).iq
 · rw[if_pos h1,dT h1];rfl
 · rw[if_neg h1,dF h1]
   split<;>rfl
theorem Tj{b:aj}{n:Nat}(hn:n=b.ai.length)(Gj:n≤1000):
  ∀(j:Nat) (d:List Int),j<n→Ok n (fun x=>0≤x∧x<(n:Int)) d→(∃k,k≤j∧jS (zT 0 b) k ((j:Int),d) (inner (lN b) j d))∧Ok n (fun x=>0≤x∧x<(n:Int)) (inner (lN b) j d)
 |0,d,hj,h=>by
  refine⟨⟨0,aqM _,.done ?_⟩,h⟩
  simp[zT,inner]
 |j+1,d,hj,h=>by
  obtain⟨c,hc,hl⟩:=aeS (b:=b) (by rw[←hn];exact EZ h hj) (by rw[←hn];exact EZ h (j:=j) (by omega))
  have hlen:=h.1
  have e1:W (((j+1:Nat):Int)-1)=(j:Int):=by rw[be (by omega) (by omega)];omega
  have i1:idx d ((j+1:Nat):Int)=some (d.getD (j+1) 0):=LO (by omega)
  have i2:idx d (j:Int)=some (d.getD j 0):=LO (by omega)
  have s1:cm d ((j+1:Nat):Int) (d.getD j 0)=some (d.set (j+1) (d.getD j 0)):=fg (by omega) _
  have i3:idx (d.set (j+1) (d.getD j 0)) (j:Int)=some ((d.set (j+1) (d.getD j 0)).getD j 0):=LO (by simp;omega)
  have s2:cm (d.set (j+1) (d.getD j 0)) (j:Int) (d.getD (j+1) 0)=some (swapAt d j):=fg (by simp;omega) _
  have nE:decide (((j+1:Nat):Int)>0)=true:=decide_eq_true (by omega)
  cases aK:lN b (d.getD (j+1) 0) (d.getD j 0) with
  |true=>
   obtain⟨⟨k,hk,hr⟩,ho⟩:=Tj hn Gj j (swapAt d j) (by omega) (ae5 h hj)
   rw[inner,if_pos aK]
   refine⟨⟨k+1,by omega,.more ?_ hr⟩,ho⟩
   rw[aK] at hl
   simp only[zT,nE,if_true,i1,e1,i2,aqF,hc,hl,s1,i3,s2]
  |false=>
   have bg:¬(lN b (d.getD (j+1) 0) (d.getD j 0)=true):=by rw[aK];simp
   rw[inner,if_neg bg]
   refine⟨⟨0,by omega,.done ?_⟩,h⟩
   rw[aK] at hl
   simp only[zT,nE,if_true,i1,e1,i2,aqF,hc,hl]
   rfl
theorem Sb{b:aj}{n:Nat}(hn:n=b.ai.length)(Gj:n≤1000):
  ∀(m i:Nat) (d:List Int),m+i=n→Ok n (fun x=>0≤x∧x<(n:Int)) d→jS (wD 0 (n:Int) b) m ((i:Int),d) (outer (lN b) m i d)∧Ok n (fun x=>0≤x∧x<(n:Int)) (outer (lN b) m i d)
 |0,i,d,hi,h=>by
  refine⟨.done ?_,h⟩
  have:decide ((i:Int)<(n:Int))=false:=decide_eq_false (by omega)
  simp only[wD,outer,this,aqG,if_false]
 |m+1,i,d,hi,h=>by
  obtain⟨⟨k,hk,hr⟩,ho⟩:=Tj hn Gj i d (by omega) h
  obtain⟨h1,h2⟩:=Sb hn Gj m (i+1) (inner (lN b) i d) (by omega) ho
  have hd:decide ((i:Int)<(n:Int))=true:=decide_eq_true (by omega)
  rw[outer]
  refine⟨.more ?_ h1,h2⟩
  simp only[wD,hd,if_true,lO hr (by omega),aqF,aU (show i<1000000000000000000 by omega)]
def ig(b:aj):List Int:=outer (lN b) (b.ai.length-1) 1 (ik b.ai.length)
theorem ac4{b:aj}(hn:b.ai.length<20):DO (ik b.ai.length) b=some (ig b):=by
 have hl:len (ik b.ai.length)=(b.ai.length:Int):=by unfold len;rw[yd]
 have uM:∀d,Jt (b.ai.length:Int) b (0,20,d)=some (.inr (0,d)):=fun d=>by
  simp only[Jt,dF (show ¬(20:Int)≤(b.ai.length:Int) by omega),aqG,if_false]
 have xM:Js (b.ai.length:Int) 20=some (.inr ()):=by
  simp only[Js,dF (show ¬(20:Int)<(b.ai.length:Int) by omega),aqG,if_false]
 have hw:W (0+1)=((1:Nat):Int):=by rw[be (by omega) (by omega)];rfl
 have dQ:ay (wD 0 (b.ai.length:Int) b) (((1:Nat):Int),ik b.ai.length)=some (ig b):=by
  by_cases h1:1≤b.ai.length
  · obtain⟨h2,h3⟩:=Sb (b:=b) rfl (by omega) (b.ai.length-1) 1 (ik b.ai.length) (by omega) (akv _)
    exact lO h2 (by omega)
  · have h0:b.ai.length=0:=by omega
    have:ig b=ik b.ai.length:=by unfold ig;rw[h0];rfl
    rw[this]
    refine lO (.done ?_) (arj _)
    simp only[wD,dF (show ¬((1:Nat):Int)<(b.ai.length:Int) by omega),aqG,if_false]
 simp only[DO,Ju,hl,lO (.done (uM _)) (arj _),aqF,DN,hw,dQ,lO (.done xM) (arj _)]
theorem Sd(b:aj):(ig b).Pairwise (fun x y=>qE b x<qE b y∨qE b x=qE b y∧x<y)∧(ig b).Perm (ik b.ai.length):=by
 by_cases h1:1≤b.ai.length
 case neg=>
  have h0:b.ai.length=0:=by omega
  have e:ig b=[]:=by unfold ig;rw[h0];rfl
  rw[e,h0]
  exact⟨.nil,.refl _⟩
 have aK:∀x y,lN b x y=true↔(fun c=> -qE b c) y<(fun c=> -qE b c) x:=fun x y=>by
  unfold lN
  rw[decide_eq_true_iff]
  simp only
  omega
 have e:ig b=((ik b.ai.length).foldl (fun a x=>kC (lN b) x a) []).reverse:=by
  unfold ig
  obtain⟨x,xs,hx⟩:∃x xs,ik b.ai.length=x::xs:=by
   cases hf:ik b.ai.length with
   |nil=>have:=yd b.ai.length;rw[hf] at this;simp at this;omega
   |cons x xs=>exact⟨x,xs,rfl⟩
  have hl:xs.length=b.ai.length-1:=by
   have:=yd b.ai.length
   rw[hx] at this
   simp at this
   omega
  have:=Sa (lN b) xs [x]
  rw[hx,←hl]
  exact this
 have h:=Vf aK (ik b.ai.length) [] (aku _) (by simp) (by simp)
 rw[e]
 refine⟨(List.pairwise_reverse.2 h.1).imp fun hb=> ?_,(List.reverse_perm _).trans (by simpa using h.2)⟩
 unfold C8 at hb
 simp only at hb
 omega
theorem aeT{b:aj}{c:Int}:c∈ig b↔0≤c∧c<(b.ai.length:Int):=by
 rw[(Sd b).2.mem_iff]
 unfold ik
 rw[aqX]
 constructor
 · rintro⟨k,hk,rfl⟩
   have:=aqV.1 hk
   simp;omega
 · rintro⟨h0,h1⟩
   exact⟨c.toNat,aqV.2 (by omega),by simp;omega⟩
theorem Sc(b:aj):(ig b).length=b.ai.length:=by rw[(Sd b).2.length_eq,yd]
theorem aeR{b:aj}(hb:bP b)(h:jL b=0):Ef b=some (ig b):=by
 have hl:=(vJ.1 h).1.eL
 unfold Ef
 rw[V2 hb,h]
 simp only[aqF,bne_self_eq_false,aqG,if_false]
 have e:ay (Ac b) (0,[])=some (ik b.ai.length):=by
  have:=dE (step:=Ac b) (r:=ik b.ai.length) (fun k=>((k:Int),ik k)) b.ai.length (fun k hk=>by
   unfold Ac
   rw[dT (c:=(k:Int)<len b.ai) (by unfold len;omega),cp (by simp[yd];omega),aU (by omega)]
   simp only[if_true,aqF]
   unfold ik
   rw[List.range_succ,arI]
   rfl) (by
   unfold Ac
   simp only[bl,aqG,if_false]) (by omega)
  simpa[ik] using this
 rw[e]
 simp only[aqF,ac4 (b:=b) (by omega)]
def lL(b:aj)(x:aR):List Int:=(ig b).filter fun c=>decide (c∈x.ai)
theorem aeP{b:aj}{x:aR}(hx:∀c∈x.ai,0≤c∧c<(b.ai.length:Int)){c:Int}:c∈lL b x↔c∈x.ai:=by
 unfold lL
 rw[List.mem_filter,aeT,decide_eq_true_iff]
 exact⟨fun h=>h.2,fun h=>⟨hx c h,h⟩⟩
theorem aeQ(b:aj)(x:aR):(lL b x).length≤b.ai.length:=by
 have:=List.length_filter_le (fun c=>decide (c∈x.ai)) (ig b)
 rw[Sc] at this
 exact this
theorem Lz{x:aR}{c:Int}(hx:Sm x.ai):Ab c x=some (!decide (c∈x.ai)):=by
 unfold Ab
 rw[contains_eq hx]
 rfl
theorem acz{l:List Int}{i:Nat}{x:Int}(h:i<l.length):(l.set i x).take (i+1)=l.take i++[x]:=by
 rw[iM (by simpa using h),dz h,if_pos rfl]
 congr 1
 refine fp (by simp) fun k hk=> ?_
 have bH:k<i:=by simp at hk;omega
 rw[fx (by simp;omega),fx (by simp;omega)]
 simp[List.getElem_set]
 omega
theorem ak2{x:aR}(hx:Sm x.ai){l:List Int}(hl:l.length≤1000):D0 l x=some (l.filter fun c=>decide (c∈x.ai)):=by
 unfold D0 Jx
 have h1:=kZ (step:=zV l x) (fun k=>(k:Int)) l.length (fun k=> !decide (gt l k∈x.ai)) (R:=fun k=> .inr (k:Int)) (e:= .inl ()) (fun k hk hp=>by
  unfold zV
  simp only[aQ hk,if_true,az hk,aqF,Lz hx,hp,aqG,if_false]
  rw[aU (by omega)]) (fun k hk hp=>by
  unfold zV
  simp only[aQ hk,if_true,az hk,aqF,Lz hx,hp]) (by
  unfold zV
  simp only[bl,aqG,if_false]) (by omega)
 simp only[show((0:Nat):Int)=0 from rfl] at h1
 rw[h1]
 cases hf:(aqN l.length).find? (fun k=> !decide (gt l k∈x.ai)) with
 |none=>
  have lr:∀c∈l,decide (c∈x.ai)=true:=fun c hc=>by
   obtain⟨k,hk,rfl⟩:=kY hc
   have:=List.find?_eq_none.1 hf k (aqV.2 hk)
   simpa using this
  simp only[aqF,aqI]
  rw[List.filter_eq_self.2 lr]
  rfl
 |some s=>
  have hs:=aqV.1 (List.mem_of_find?_eq_some hf)
  simp only[aqF,aqJ]
  rw[bY (by omega),aU (by omega)]
  simp only[aqG,if_false]
  have xQ:∀k,k<s→decide (gt l k∈x.ai)=true:=fun k hk=>by
   obtain⟨_,O8,bs,h2,h3⟩:=List.find?_eq_some_iff_append.1 hf
   have nG:O8.length=s:=by
    have h4:(aqN l.length)[O8.length]? =some s:=by rw[h2];simp
    rw[asd (by
     have:=congrArg List.length h2
     simp at this
     omega)] at h4
    exact are h4
   have fk:k∈O8:=by
    have h4:(aqN l.length)[k]? =some k:=asd (by omega)
    rw[h2,List.getElem?_append_left (by omega)] at h4
    exact List.mem_of_getElem? h4
   have:=h3 k fk
   simpa using this
  have xN:decide (gt l s∈x.ai)=false:=by
   have:=(List.find?_eq_some_iff_append.1 hf).1
   simpa using this
  have qS:Wp (ay (DZ x) ((s:Int),((s+1:Nat):Int),l)) fun r=>∃n:Nat,r.1=(n:Int)∧n≤r.2.length∧r.2.length=l.length∧r.2.take n=l.filter fun c=>decide (c∈x.ai):=by
   refine dO (l.length-(s+1)) (fun t st=>∃n:Nat,st.1=(n:Int)∧st.2.1=((s+1+t:Nat):Int)∧n<s+1+t∧st.2.2.length=l.length∧st.2.2.take n=(l.take (s+1+t)).filter (fun c=>decide (c∈x.ai))∧∀k,s+1+t≤k→k<l.length→gt st.2.2 k=gt l k) ⟨s,rfl,rfl,by omega,rfl, ?_,fun _ _ _=>rfl⟩ (fun t st ht hv=> ?_) (fun st hv=> ?_) (by omega)
   · simp only[Nat.add_zero]
     rw[iM hs,arK]
     have:(l.take s).filter (fun c=>decide (c∈x.ai))=l.take s:=List.filter_eq_self.2 fun c hc=>by
      obtain⟨k,hk,rfl⟩:=kY hc
      rw[arU] at hk
      have:gt (l.take s) k=gt l k:=by
       rw[fx (by rw[arU];exact hk),fx (by omega)];simp
      rw[this]
      exact xQ k (by omega)
     rw[this]
     simp[xN]
   · obtain⟨m,z,c⟩:=st
     obtain⟨n,rfl,rfl,hn,lW,qQ,uN⟩:=hv
     simp only at lW qQ uN
     have hk:s+1+t<l.length:=by omega
     have hgk:=uN (s+1+t) (aqM _) hk
     unfold DZ
     simp only[aQ (l:=c) (k:=s+1+t) (by omega),if_true,az (l:=c) (k:=s+1+t) (by omega),hgk,aqF,Lz hx,Bool.not_not]
     rw[aU (k:=s+1+t) (by omega)]
     cases hp:decide (gt l (s+1+t)∈x.ai) with
     |true=>
      simp only[if_true,az (l:=c) (k:=n) (by omega),aqF,fg (xs:=c) (j:=n) (by omega)]
      rw[aU (by omega)]
      refine al.2 ⟨n+1,rfl,rfl,by omega,by simp[lW], ?_,fun k h1 h2=> ?_⟩
      · simp only
        rw[acz (by omega),qQ,show s+1+(t+1)=(s+1+t)+1 by omega,iM hk,arK]
        simp[hp]
      · simp only
        rw[dz (by omega),if_neg (by omega)]
        exact uN k (by omega) h2
     |false=>
      simp only[aqG,if_false,aqF]
      refine al.2 ⟨n,rfl,rfl,by omega,lW, ?_,fun k h1 h2=>uN k (by omega) h2⟩
      simp only
      rw[qQ,show s+1+(t+1)=(s+1+t)+1 by omega,iM hk,arK]
      simp[hp]
   · obtain⟨m,z,c⟩:=st
     obtain⟨n,rfl,rfl,hn,lW,qQ,uN⟩:=hv
     simp only at lW qQ
     unfold DZ
     rw[show s+1+(l.length-(s+1))=c.length by omega]
     simp only[bl,aqG,if_false]
     refine al.2 ⟨n,rfl,(by show n≤c.length;omega),lW, ?_⟩
     simp only
     rw[qQ,show s+1+(l.length-(s+1))=l.length by omega,arw]
  obtain⟨⟨m,c⟩,e,n,rfl,hn,lW,qQ⟩:=qS
  simp only at hn lW qQ
  rw[e]
  have e1:dV c (n:Int) (len c)=some (c.drop n):=Rg hn
  have cf:(nS 0 c (n:Int)).length=c.length:=by unfold nS;simp;omega
  have e2:dV (nS 0 c (n:Int)) 0 (n:Int)=some ((nS 0 c (n:Int)).take n):=D_ (by omega)
  have e3:(nS 0 c (n:Int)).take n=c.take n:=by
   unfold nS
   rw[List.take_append_of_le_length (by simp;omega),List.take_take,aq8,Nat.min_self]
  simp only[aqF,e1,e2,e3,qQ]
end Rx
end Go.Proofs.YtncbfgppjfcijaaGreat
