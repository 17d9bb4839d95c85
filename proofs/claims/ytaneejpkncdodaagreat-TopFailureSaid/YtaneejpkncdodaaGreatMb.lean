import Derived.Test.YtaneejpkncdodaaGreatMa
import Derived.Test.YtaneejpkncdodaaGreatRz
import Derived.Test.YtaneejpkncdodaaGreatPg
import Derived.KernelRfl
set_option linter.unusedVariables false
set_option linter.unusedSimpArgs false
noncomputable section
namespace Go.Proofs.YtaneejpkncdodaaGreat
open Go Go.RowKit Dp
namespace Rx
theorem ZG(a:Int):(a% 3600=if a.tmod 3600<0 then a.tmod 3600+3600 else a.tmod 3600)∧-3600<a.tmod 3600∧a.tmod 3600<3600:=by
 by_cases ha:0≤a
 · rw[Int.tmod_eq_emod_of_nonneg ha,if_neg (by omega)]
   exact⟨rfl,by omega,by omega⟩
 · have hn:a.tmod 3600= -((-a)% 3600):=by
    rw[←Int.tmod_eq_emod_of_nonneg (show 0≤-a by omega),Int.neg_tmod,Int.neg_neg]
   rw[hn]
   refine⟨?_,by omega,by omega⟩
   split<;>omega
theorem norm_eq{a:Int}(h1: -100000000000000000≤a)(h2:a≤100000000000000000):vz a=some (a% 3600):=by
 have e0:iJ a 3600=some (a.tmod 3600):=by unfold iJ;rw[if_neg (by decide)]
 obtain⟨e1,e2⟩:=ZG a
 unfold vz
 rw[e0]
 simp only[Option.bind_some,Option.bind_fun_some,Sum.elim_inl,Sum.elim_inr,a_]
 by_cases h:a.tmod 3600<0
 · rw[dT h,if_pos rfl,bO (by omega) (by omega),e1,if_pos h]
 · rw[dF h,if_neg (by simp),e1,if_neg h]
theorem nK{p:ah}(h:bf p):kQ p=some (p.al,p.aa,p.ar,p.ax):=by
 obtain⟨h1,h2,h3,h4⟩:=h
 unfold Sm at*
 unfold kQ IV IW tG IY
 rw[c_ (by simp;omega),c_ (by simp;omega),c_ (by simp;omega),c_ (by simp;omega)]
 rfl
def tick(x:az):az:=if x.State=2 then{x with aG:=(x.aG+36*(x.aB-5000))% 3600} else x
def o_(p:ah):ah:=⟨p.al,p.aa.map tick,p.ar,p.ax⟩
def h_(l:List az)(k:Nat):List az:=(List.range l.length).map fun i=>if i<k then tick (gt l i) else gt l i
theorem Zu(l:List az):h_ l 0=l:=by
 apply fi
 · simp[h_]
 · intro k hk
   have bB:k<l.length:=by simpa[h_] using hk
   unfold h_
   rw[fU _ bB,if_neg (by omega)]
theorem Zw(l:List az):h_ l l.length=l.map tick:=by
 apply fi
 · simp[h_]
 · intro k hk
   have bB:k<l.length:=by simpa[h_] using hk
   unfold h_
   rw[fU _ bB,if_pos bB,ep (l:=l.map tick) (by simpa using bB),List.getElem_map,ep bB]
theorem Zv(l:List az){k:Nat}(hk:k<l.length):(h_ l k).set k (tick (gt l k))=h_ l (k+1):=by
 apply fi
 · simp[h_]
 · intro i hi
   have cq:i<l.length:=by simpa[h_] using hi
   rw[dI (by simpa[h_] using hk)]
   unfold h_
   rw[fU _ cq,fU _ cq]
   by_cases h:i=k
   · subst h;rw[if_pos rfl,if_pos (by omega)]
   · rw[if_neg h]
     by_cases h2:i<k
     · rw[if_pos h2,if_pos (by omega)]
     · rw[if_neg h2,if_neg (by omega)]
theorem Zs{p:ah}(hp:bf p)(hr:∀k,k<p.aa.length→dq (gt p.aa k)):aC (zo p) ((0:Int),p.aa)=some (p.aa.map tick):=by
 have de:=hp.2.1
 have h:=dP (step:=zo p) (fun k=>((k:Int),h_ p.aa k)) p.aa.length (r:=h_ p.aa p.aa.length) (fun k hk=>by
  have hx:=hr k hk
  obtain⟨_,_,⟨f0,f1⟩,p0,p1⟩:=hx
  have hl:k<(h_ p.aa k).length:=by simpa[h_] using hk
  have hg:gt (h_ p.aa k) k=gt p.aa k:=by
   unfold h_;rw[fU _ hk,if_neg (by omega)]
  have hw:W ((gt p.aa k).aG+W (36*W ((gt p.aa k).aB-5000)))=(gt p.aa k).aG+36*((gt p.aa k).aB-5000):=by
   rw[bO (x:=(gt p.aa k).aB-5000) (by omega) (by omega),bO (x:=36*((gt p.aa k).aB-5000)) (by omega) (by omega),bO (by omega) (by omega)]
  simp only[zo,aU hk,if_true,aD hk,Option.bind_some,Option.bind_fun_some,Sum.elim_inl,Sum.elim_inr,a_,aX (cN hp.2.1 hk),hw]
  have ht:=Zv p.aa hk
  unfold tick at ht
  by_cases hs:(gt p.aa k).State=2
  · rw[if_pos hs] at ht
    simp only[dU hs,if_true,norm_eq (a:=(gt p.aa k).aG+36*((gt p.aa k).aB-5000)) (by omega) (by omega),aD hl,Option.bind_some,Option.bind_fun_some,Sum.elim_inl,Sum.elim_inr,a_,fM hl,hg,ht]
  · rw[if_neg hs] at ht
    have:h_ p.aa (k+1)=h_ p.aa k:=by
     rw[←ht,←hg]
     apply fi
     · simp
     · intro i hi
       rw[dI hl]
       split
       · rename_i e;rw[e]
       · rfl
    simp only[bW hs,Bool.false_eq_true,if_false,Option.bind_some,Option.bind_fun_some,Sum.elim_inl,Sum.elim_inr,a_,this]) (by simp only[zo,bA,Bool.false_eq_true,if_false])
 rw[Zw] at h
 have h0:=Zu p.aa
 simp only[h0] at h
 exact h
theorem Zt{b:ak}{p:ah}(hb:bL b)(hp:bf p)(h:aH b p=0):Da b p=some (0,p.al,p.aa.map tick,p.ar,p.ax):=by
 obtain⟨_,_,_,hr,_⟩:=bG.1 h
 unfold Da
 have e:(aH b p !=0)=false:=by rw[h];rfl
 simp only[kR hb hp,Option.bind_some,Option.bind_fun_some,Sum.elim_inl,Sum.elim_inr,a_,e,Bool.false_eq_true,if_false,nK hp,Zs hp hr]
section
variable {b:ak} {p:ah}
theorem rH(h:aH b p=0){k:Int}(h0:0≤k)(h1:k<b.ai):bM b p k=(aT b p k,true):=by
 unfold bM;rw[if_pos ⟨h,h0,h1⟩]
def lead(b:ak)(p:ah)(k:Int):Int×Bool:=if(bM b p k).1.aa=[] then(0,false) else(gt (bM b p k).1.aa 0,true)
theorem J4(hb:bL b)(hp:bf p)(k:Int):tD b p k=some (lead b p k):=by
 unfold tD lead
 simp only[of_eq hb hp,i_,Option.bind_some,Option.bind_fun_some,Sum.elim_inl,Sum.elim_inr,a_]
 by_cases h:(bM b p k).1.aa=[]
 · simp only[h]
   rfl
 · have hl:=List.length_pos_iff.2 h
   have e:(len (bM b p k).1.aa==0)=false:=bW (by unfold len;omega)
   have ei:idx (bM b p k).1.aa 0=some (gt (bM b p k).1.aa 0):=aD hl
   simp only[e,Bool.false_eq_true,if_false,h,ei,Option.bind_some,Option.bind_fun_some,Sum.elim_inl,Sum.elim_inr,a_]
def mb(a c:Int):Int:=if(c% 3600-a% 3600)% 3600>1800 then(c% 3600-a% 3600)% 3600-3600 else(c% 3600-a% 3600)% 3600
theorem ahY(a c:Int): -1800<mb a c∧mb a c≤1800:=by unfold mb;split<;>omega
theorem ahX{a c:Int}(h1: -100000000000000000≤a)(h2:a≤100000000000000000)(h3: -100000000000000000≤c)(h4:c≤100000000000000000):Hx a c=some (mb a c):=by
 unfold Hx mb
 simp only[norm_eq h1 h2,norm_eq h3 h4,Option.bind_some,Option.bind_fun_some,Sum.elim_inl,Sum.elim_inr,a_]
 rw[bO (x:=c% 3600-a% 3600) (by omega) (by omega),norm_eq (by omega) (by omega)]
 simp only[Option.bind_some,Option.bind_fun_some,Sum.elim_inl,Sum.elim_inr,a_]
 by_cases h:(c% 3600-a% 3600)% 3600>1800
 · simp only[dT h,if_true,if_pos h,Option.bind_some,Option.bind_fun_some,Sum.elim_inl,Sum.elim_inr,a_,bO (x:=(c% 3600-a% 3600)% 3600-3600) (by omega) (by omega)]
 · simp only[dF h,Bool.false_eq_true,if_false,if_neg h,Option.bind_some,Option.bind_fun_some,Sum.elim_inl,Sum.elim_inr,a_]
def Hy(b:ak)(x y:az):Prop:=((0≤x.aB∧0≤y.aB)∧x.aB≤6000∧y.aB≤6000)∧(x.aB-y.aB≤b.aB∧y.aB-x.aB≤b.aB)∧mb x.aG y.aG≤b.aG∧-mb x.aG y.aG≤b.aG
instance(b:ak)(x y:az):Decidable (Hy b x y):=by unfold Hy;exact inferInstance
def sV(x:az):Prop:=(-100000000000000000≤x.aB∧x.aB≤100000000000000000)∧-100000000000000000≤x.aG∧x.aG≤100000000000000000
theorem sV.of{x:az}(h:dq x):sV x:=by
 obtain⟨_,_,⟨h1,h2⟩,h3,h4⟩:=h
 exact⟨⟨by omega,by omega⟩,by omega,by omega⟩
theorem XD{x y:az}(hx:sV x)(hy:sV y):zp b x y=some (decide (Hy b x y)):=by
 obtain⟨⟨f1,f2⟩,p1,p2⟩:=hx
 obtain⟨⟨f3,f4⟩,p3,p4⟩:=hy
 have hd:=ahY x.aG y.aG
 unfold zp
 simp only[ahX p1 p2 p3 p4,Option.bind_some,Option.bind_fun_some,Sum.elim_inl,Sum.elim_inr,a_]
 rw[bO (x:=x.aB-y.aB) (by omega) (by omega),bO (x:=y.aB-x.aB) (by omega) (by omega),bO (x:= -mb x.aG y.aG) (by omega) (by omega)]
 have e1:(if y.aB<x.aB then y.aB else x.aB)<0↔¬(0≤x.aB∧0≤y.aB):=by split<;>omega
 have e2:(if x.aB<y.aB then y.aB else x.aB)>6000↔¬(x.aB≤6000∧y.aB≤6000):=by split<;>omega
 have e3:(if x.aB-y.aB<y.aB-x.aB then y.aB-x.aB else x.aB-y.aB)≤b.aB↔(x.aB-y.aB≤b.aB∧y.aB-x.aB≤b.aB):=by split<;>omega
 have e4:(if mb x.aG y.aG< -mb x.aG y.aG then-mb x.aG y.aG else mb x.aG y.aG)≤b.aG↔(mb x.aG y.aG≤b.aG∧-mb x.aG y.aG≤b.aG):=by split<;>omega
 simp only[e1,e2,e3,e4]
 unfold Hy
 by_cases q1:0≤x.aB∧0≤y.aB
 · by_cases q2:x.aB≤6000∧y.aB≤6000
   · by_cases q3:x.aB-y.aB≤b.aB∧y.aB-x.aB≤b.aB
     · simp[q1,q2,q3]
     · simp[q1,q2,q3]
   · simp[q1,q2]
 · simp[q1]
def oj(x y:az):az:={x with aB:=y.aB,aG:=y.aG}
def gp(S:List az)(y:az):List Int→List az
 |[]=>S
 |k::l=>gp (S.set k.toNat (oj (gt S k.toNat) y)) y l
theorem wx(y:az):∀(l:List Int) (S:List az),(gp S y l).length=S.length
 |[],_=>rfl
 |k::l,S=>by unfold gp;rw[wx y l];simp
theorem I9(y:az)(k:Int):∀(l:List Int) (S:List az),gp S y (l++[k])=(gp S y l).set k.toNat (oj (gt (gp S y l) k.toNat) y)
 |[],_=>rfl
 |j::l,S=>by
  show gp _ y (l++[k])=_
  rw[I9 y k l]
  rfl
theorem PM{l:List Int}{y:az}(hl:Sm l)(h:∀k∈l,0≤k∧k<p.aa.length):vS p l y=some (gp p.aa y l):=by
 have hr:=dP (step:=zn l y) (fun k=>((k:Int),gp p.aa y (l.take k))) l.length (r:=gp p.aa y l) (fun k hk=>by
  obtain⟨k0,k1⟩:=h _ (cr hk)
  obtain⟨j,hj⟩:=Int.eq_ofNat_of_zero_le k0
  have hj:gt l k=(j:Int):=hj
  have bZ:j<(gp p.aa y (l.take k)).length:=by rw[wx];omega
  have pI:j<((gp p.aa y (l.take k)).set j {gt (gp p.aa y (l.take k)) j with aB:=y.aB}).length:=by simpa using bZ
  simp only[zn,aU hk,if_true,aD hk,Option.bind_some,Option.bind_fun_some,Sum.elim_inl,Sum.elim_inr,a_,hj,aD bZ,fM bZ,aD pI,fM pI,aX (cN hl hk),dI bZ,gN hk,I9,Int.toNat_natCast,List.set_set]
  rfl) (by simp only[zn,bA,Bool.false_eq_true,if_false,List.take_length])
 unfold vS
 have KK:aC (zn l y) ((0:Int),p.aa)=some (gp p.aa y l):=hr
 rw[KK]
 rfl
end
end Rx
namespace Rx
theorem DS(y:az):∀(l:List Int) (S:List az) (j:Nat),(∀k∈l,0≤k∧k<S.length)→gt (gp S y l) j=if(j:Int)∈l then oj (gt S j) y else gt S j
 |[],S,j,_=>by simp[gp]
 |k::l,S,j,h=>by
  obtain⟨k0,k1⟩:=h k List.mem_cons_self
  have ih:=DS y l (S.set k.toNat (oj (gt S k.toNat) y)) j (fun q hq=>by rw[List.length_set];exact h q (List.mem_cons_of_mem _ hq))
  show gt (gp (S.set k.toNat (oj (gt S k.toNat) y)) y l) j=_
  rw[ih,dI (by omega)]
  by_cases lm:j=k.toNat
  · have e:(j:Int)=k:=by omega
    rw[if_pos lm,if_pos (show(j:Int)∈k::l by rw[e];exact List.mem_cons_self)]
    by_cases hl:(j:Int)∈l
    · rw[if_pos hl,←lm];rfl
    · rw[if_neg hl,←lm]
  · have e:(j:Int)≠k:=by omega
    rw[if_neg lm]
    by_cases hl:(j:Int)∈l
    · rw[if_pos hl,if_pos (List.mem_cons_of_mem _ hl)]
    · rw[if_neg hl,if_neg (fun hh=>by rcases List.mem_cons.1 hh with h|h;exact e h;exact hl h)]
section
variable {b:ak} {p:ah}
def eJ(b:ak)(p:ah)(k:Nat):Nat:=(gt (aT b p (conn b p (k:Int)).1).aa 0).toNat
def gj(b:ak)(p:ah)(k:Nat):az:=if(conn b p (k:Int)).2=true then oj (gt p.aa k) (gt p.aa (eJ b p k)) else gt p.aa k
def cE(b:ak)(p:ah):List az:=(List.range p.aa.length).map (gj b p)
def mR(b:ak)(p:ah):ah:=⟨p.al,cE b p,p.ar,p.ax⟩
theorem nE:(cE b p).length=p.aa.length:=by simp[cE]
theorem oI{k:Nat}(h:k<p.aa.length):gt (cE b p) k=gj b p k:=by unfold cE;rw[fU _ h]
theorem nr{x:aP}(hx:x∈aE b p){s:Int}(hs:s∈x.aa):∃j:Nat,s=(j:Int)∧j<b.aa.length∧(conn b p (j:Int)).2=true∧x=aT b p (conn b p (j:Int)).1:=by
 obtain⟨f,hf,rfl,_⟩:=oh.1 hx
 obtain⟨j,h1,h2,h3,h4⟩:=Ax.1 hs
 refine⟨j,h4,h1,h2, ?_⟩
 unfold aT
 rw[h3,Int.toNat_natCast]
theorem Dl(hb:bj b){j:Nat}(hj:j<b.aa.length)(hc:(conn b p (j:Int)).2=true):aT b p (conn b p (j:Int)).1∈aE b p∧(j:Int)∈(aT b p (conn b p (j:Int)).1).aa:=by
 have kE:=Gy hb hc
 refine⟨(ud hb kE.1 kE.2).1, ?_⟩
 unfold aT
 have:=(uS (p:=p) hb (show(conn b p (j:Int)).1.toNat<b.ai.toNat by omega)).1
 exact Ax.2 ⟨j,hj,hc,by omega,rfl⟩
theorem EZ(hb:bj b){j:Nat}(hj:j<b.aa.length)(hc:(conn b p (j:Int)).2=true):
  gt (aT b p (conn b p (j:Int)).1).aa 0=(eJ b p j:Int)∧eJ b p j<b.aa.length∧(conn b p (eJ b p j:Int)).2=true∧aT b p (conn b p (eJ b p j:Int)).1=aT b p (conn b p (j:Int)).1∧eJ b p (eJ b p j)=eJ b p j:=by
 obtain⟨h1,h2⟩:=Dl hb hj hc
 have hlen:0<(aT b p (conn b p (j:Int)).1).aa.length:=List.length_pos_of_mem h2
 obtain⟨i,e1,e2,e3,e4⟩:=nr h1 (cr hlen)
 have e5:eJ b p j=i:=by unfold eJ;rw[e1,Int.toNat_natCast]
 rw[e5]
 refine⟨e1,e2,e3,e4.symm, ?_⟩
 unfold eJ
 rw[←e4,e1,Int.toNat_natCast]
theorem ag8(hb:bj b)(hl:dL b)(xt:p.aa.length=b.aa.length):aC (Dd p (p.al,p.aa,p.ar,p.ax) (aE b p)) ((0:Int),p.aa)=some (cE b p):=by
 have iD:=hl.ew
 have iN:=hl.src
 have je:=rR (b:=b) (p:=p)
 refine Im.1 ?_
 refine hG (aE b p).length (fun k s=>∃out,s=((k:Int),out)∧out.length=p.aa.length∧∀j,j<p.aa.length→gt out j=if ∃q,q<k∧(j:Int)∈(gt (aE b p) q).aa then gj b p j else gt p.aa j) ⟨_,rfl,rfl,fun j hj=>by rw[if_neg (by rintro⟨q,hq,_⟩;omega)]⟩ ?_ ?_
 · rintro k s hk ⟨out,rfl,h1,h2⟩
   have hx:=cr hk
   have qI:∀s∈(gt (aE b p) k).aa,0≤s∧s<(p.aa.length:Int):=fun s hs=>by
    obtain⟨j,rfl,h,_⟩:=nr hx hs
    omega
   unfold Dd
   simp only[aU hk,if_true,aD hk,Option.bind_some]
   have k7:∀j:Nat,(∃q,q<k+1∧(j:Int)∈(gt (aE b p) q).aa)↔(∃q,q<k∧(j:Int)∈(gt (aE b p) q).aa)∨(j:Int)∈(gt (aE b p) k).aa:=fun j=>by
    constructor
    · rintro⟨q,hq,h⟩
      by_cases KL:q=k
      · subst KL;exact .inr h
      · exact .inl ⟨q,by omega,h⟩
    · rintro(⟨q,hq,h⟩|h)
      · exact⟨q,by omega,h⟩
      · exact⟨k,by omega,h⟩
   by_cases h0:(gt (aE b p) k).aa.length=0
   · have e1:decide (len (gt (aE b p) k).aa>0)=false:=dF (by unfold len;omega)
     simp only[e1,Bool.false_eq_true,if_false,Option.bind_some]
     refine ay.2 ⟨out,by rw[aX (by omega)],h1,fun j hj=> ?_⟩
     rw[h2 j hj]
     have e2:(gt (aE b p) k).aa=[]:=List.length_eq_zero_iff.1 h0
     have hi:(∃q,q<k+1∧(j:Int)∈(gt (aE b p) q).aa)↔(∃q,q<k∧(j:Int)∈(gt (aE b p) q).aa):=by
      rw[k7,e2];simp
     by_cases hh:∃q,q<k∧(j:Int)∈(gt (aE b p) q).aa
     · rw[if_pos hh,if_pos (hi.2 hh)]
     · rw[if_neg hh,if_neg (fun h=>hh (hi.1 h))]
   · have hlen:0<(gt (aE b p) k).aa.length:=by omega
     have e1:decide (len (gt (aE b p) k).aa>0)=true:=dT (by unfold len;omega)
     obtain⟨i,f1,f2,f3,f4⟩:=nr hx (cr hlen)
     have e0:idx (gt (aE b p) k).aa 0=some (i:Int):=by
      have:=aD hlen
      rw[f1] at this
      exact this
     have de:Sm (gt (aE b p) k).aa:=by
      obtain⟨f,_,e,_⟩:=oh.1 hx
      rw[e]
      have:=(pw (b:=b) (p:=p) f).2.1
      unfold Sm;omega
     have pA:=PM (p:=⟨p.al,out,p.ar,p.ax⟩) (y:=gt p.aa i) de (fun s hs=>by have:=qI s hs;simp only;omega)
     simp only[e1,if_true,e0,aD (show i<p.aa.length by omega),Option.bind_some,pA]
     refine ay.2 ⟨_,by rw[aX (by omega)],by rw[wx];exact h1,fun j hj=> ?_⟩
     rw[DS _ _ _ _ (fun s hs=>by have:=qI s hs;omega),h2 j hj]
     by_cases oB:(j:Int)∈(gt (aE b p) k).aa
     · rw[if_pos oB,if_pos ((k7 j).2 (.inr oB))]
       obtain⟨j',g1,g2,g3,g4⟩:=nr hx oB
       have:j'=j:=by omega
       subst this
       have lU:eJ b p j'=i:=by unfold eJ;rw[←g4,f1,Int.toNat_natCast]
       have hf:gj b p j'=oj (gt p.aa j') (gt p.aa i):=by unfold gj;rw[if_pos g3,lU]
       rw[hf]
       split<;>rfl
     · rw[if_neg oB]
       by_cases hh:∃q,q<k∧(j:Int)∈(gt (aE b p) q).aa
       · rw[if_pos hh,if_pos ((k7 j).2 (.inl hh))]
       · rw[if_neg hh,if_neg (fun h=>((k7 j).1 h).elim hh oB)]
 · rintro s ⟨out,rfl,h1,h2⟩
   unfold Dd
   simp only[bA,Bool.false_eq_true,if_false]
   refine ay.2 ?_
   have:out=cE b p:=by
    apply fi
    · rw[nE,h1]
    · intro j hj
      rw[h2 j (by omega),oI (by omega)]
      by_cases hc:(conn b p (j:Int)).2=true
      · obtain⟨g1,g2⟩:=Dl hb (show j<b.aa.length by omega) hc
        obtain⟨q,hq,e⟩:=jO g1
        rw[if_pos ⟨q,hq,by rw[e];exact g2⟩]
      · have hf:gj b p j=gt p.aa j:=by unfold gj;rw[if_neg hc]
        rw[hf]
        split<;>rfl
   rw[this]
theorem follow_eq(hb:bL b)(hp:bf p)(h:aH b p=0):rm b p=some (0,p.al,cE b p,p.ar,p.ax):=by
 obtain⟨⟨hl,hg⟩,⟨s1,s2,s3⟩,_⟩:=bG.1 h
 unfold rm
 have e:(aH b p !=0)=false:=by rw[h];rfl
 simp only[kR hb hp,Option.bind_some,e,Bool.false_eq_true,if_false,nK hp,xn hb hp h,ag8 hg.1 hl s2]
theorem Gx{q:ah}(hc:q.al=p.al)(hl:q.aa.length=p.aa.length)(hs:∀j,j<p.aa.length→(gt q.aa j).State=(gt p.aa j).State)(j:Int):conn b q j=conn b p j:=by
 have qM:cB b q 2 j=cB b p 2 j:=by
  unfold cB gb
  rw[hc]
 unfold conn
 rw[hl,qM]
 by_cases h:0≤j∧j≤(p.aa.length:Int)-1
 · rw[if_pos h,if_pos h,hs j.toNat (by omega)]
 · rw[if_neg h,if_neg h]
theorem ZL{q:ah}(hc:q.al=p.al)(k:Nat)(f:List Int):eE b q k f=eE b p k f:=by
 induction k with
 |zero=>rfl
 |succ k ih=>unfold eE;rw[ih];unfold kb;rw[hc]
theorem BA{q:ah}(hc:q.al=p.al):bl b q=bl b p:=by
 unfold bl
 generalize own b.ai.toNat=f
 induction b.ai.toNat with
 |zero=>rfl
 |succ r ih=>unfold rounds;rw[ih,ZL hc]
theorem Ro{q:ah}(hc:q.al=p.al)(kind j:Int):cB b q kind j=cB b p kind j:=by
 unfold cB gb
 rw[hc]
theorem adr{q:ah}(hc:q.al=p.al)(hl:q.aa.length=p.aa.length)(hs:∀j,j<p.aa.length→(gt q.aa j).State=(gt p.aa j).State)(f:Nat):cf b q f=cf b p f:=by
 unfold cf
 have e1:fw b q f=fw b p f:=by funext i;unfold fw;rw[BA hc]
 have e2:eF b q f=eF b p f:=by funext i;unfold eF;rw[BA hc,Gx hc hl hs]
 have e3:eZ b q f=eZ b p f:=by funext i;unfold eZ;rw[BA hc,Ro hc]
 rw[e1,e2,e3]
theorem adv{q:ah}(hc:q.al=p.al)(hl:q.aa.length=p.aa.length)(hs:∀j,j<p.aa.length→(gt q.aa j).State=(gt p.aa j).State)(k:Int):aT b q k=aT b p k:=by
 unfold aT
 rw[adr hc hl hs,BA hc]
theorem Ry{q:ah}(hc:q.al=p.al)(hl:q.aa.length=p.aa.length)(hs:∀j,j<p.aa.length→(gt q.aa j).State=(gt p.aa j).State)(k:Nat):eJ b q k=eJ b p k:=by
 unfold eJ
 rw[Gx hc hl hs,adv hc hl hs]
theorem De{q:ah}(h:aH b p=0)(hc:q.al=p.al)(hl:q.aa.length=p.aa.length)(ny:q.ar=p.ar)(iE:q.ax=p.ax)(hr:∀k,k<q.aa.length→dq (gt q.aa k)):aH b q=0:=by
 obtain⟨h1,⟨s1,s2,s3⟩,g1,g2,g3⟩:=bG.1 h
 have afT:∀j n,cK b q j n=cK b p j n:=fun j n=>yj fun i _ _ _=>by rw[hc]
 refine bG.2 ⟨h1,⟨by rw[hc];exact s1,by rw[hl];exact s2,by rw[ny];exact s3⟩,by rw[iE];exact g1,hr,fun k hk=> ?_⟩
 have:=g3 k (by rw[←ny];exact hk)
 unfold oW at this⊢
 rw[ny,afT]
 exact this
theorem TP(j:Nat):(gj b p j).State=(gt p.aa j).State:=by unfold gj;split<;>rfl
theorem TR{j:Nat}(hj:j<p.aa.length):(gt (mR b p).aa j).State=(gt p.aa j).State:=by
 show(gt (cE b p) j).State=_
 rw[oI hj,TP]
theorem PV{x y:az}(hx:dq x)(hy:dq y):dq (oj x y):=⟨hx.1,hx.2.1,hy.2.2.1,hy.2.2.2⟩
theorem Ix(h:aH b p=0):aH b (mR b p)=0:=by
 obtain⟨⟨hl,hg⟩,⟨s1,s2,s3⟩,g1,g2,g3⟩:=bG.1 h
 refine De h rfl nE rfl rfl fun k hk=> ?_
 have bB:k<p.aa.length:=by rw[←nE (b:=b)];exact hk
 show dq (gt (cE b p) k)
 rw[oI bB]
 unfold gj
 split
 · rename_i hc
   obtain⟨_,e,_⟩:=EZ hg.1 (show k<b.aa.length by omega) hc
   exact PV (g2 k bB) (g2 _ (by omega))
 · exact g2 k bB
theorem TQ(h:aH b p=0):cE b (mR b p)=cE b p:=by
 obtain⟨⟨hl,hg⟩,⟨s1,s2,s3⟩,g1,g2,g3⟩:=bG.1 h
 have bN:∀j,j<p.aa.length→(gt (mR b p).aa j).State=(gt p.aa j).State:=fun j hj=>TR hj
 have hlen:(mR b p).aa.length=p.aa.length:=nE
 apply fi
 · rw[nE,nE,hlen]
 · intro k hk
   rw[nE,hlen] at hk
   rw[oI (by omega),oI hk]
   have e1:gt (mR b p).aa k=gj b p k:=oI hk
   unfold gj at e1⊢
   rw[Gx (p:=p) (q:=mR b p) rfl hlen bN,Ry (p:=p) (q:=mR b p) rfl hlen bN]
   by_cases hc:(conn b p (k:Int)).2=true
   · rw[if_pos hc] at e1⊢
     obtain⟨_,e2,e3,_,e5⟩:=EZ hg.1 (show k<b.aa.length by omega) hc
     have e6:gt (mR b p).aa (eJ b p k)=gj b p (eJ b p k):=oI (by omega)
     unfold gj at e6
     rw[if_pos e3,e5] at e6
     rw[if_pos hc,e1,e6]
     rfl
   · rw[if_neg hc] at e1⊢
     rw[if_neg hc]
     exact e1
end
end Rx
namespace Rx
open Classical
theorem PZ(x y:az):(x.State==y.State&&(x.eD==y.eD&&(x.aB==y.aB&&x.aG==y.aG)))=true↔x=y:=by
 obtain⟨a,b,c,d⟩:=x
 obtain⟨a',b',c',d'⟩:=y
 simp
theorem Ju(x y:Part):(x.Kind==y.Kind&&x.Number==y.Number)=true↔x=y:=by
 obtain⟨a,b⟩:=x
 obtain⟨a',b'⟩:=y
 simp
section
variable {b:ak} {p:ah}
theorem ZN{x:az}(h:dq x):dq (tick x):=by
 obtain⟨h1,h2,h3,h4⟩:=h
 unfold tick
 split
 · exact⟨h1,h2,h3,by simp only;omega,by simp only;omega⟩
 · exact⟨h1,h2,h3,h4⟩
theorem ZM(x:az):(tick x).State=x.State:=by unfold tick;split<;>rfl
theorem C5{k:Nat}(hk:k<p.aa.length):gt (o_ p).aa k=tick (gt p.aa k):=by
 show gt (p.aa.map tick) k=_
 rw[ep (by simpa using hk),List.getElem_map,ep hk]
theorem vQ:(o_ p).aa.length=p.aa.length:=by show(p.aa.map tick).length=_;simp
theorem Z8(h:aH b p=0):aH b (o_ p)=0:=by
 obtain⟨_,_,_,g2,_⟩:=bG.1 h
 refine De h rfl vQ rfl rfl fun k hk=> ?_
 rw[vQ] at hk
 rw[C5 hk]
 exact ZN (g2 k hk)
theorem MV{j:Nat}(hc:(conn b p (j:Int)).2=true):(gt p.aa j).State=2:=by
 unfold conn at hc
 by_cases h1:0≤(j:Int)∧(j:Int)≤(p.aa.length:Int)-1
 · rw[if_pos h1] at hc
   by_cases h2:(gt p.aa ((j:Int)).toNat).State=2
   · rw[Int.toNat_natCast] at h2;exact h2
   · rw[if_neg h2] at hc;cases hc
 · rw[if_neg h1] at hc;cases hc
theorem TM(afx:∀k,k<p.aa.length→(conn b p (k:Int)).2=true→(gt p.aa k).aB=(gt p.aa (eJ b p k)).aB∧(gt p.aa k).aG=(gt p.aa (eJ b p k)).aG):cE b p=p.aa:=by
 apply fi
 · exact nE
 · intro k hk
   rw[nE] at hk
   rw[oI hk]
   unfold gj
   split
   · rename_i hc
     obtain⟨h1,h2⟩:=afx k hk hc
     unfold oj
     rw[←h1,←h2]
   · rfl
theorem TN(h:cE b p=p.aa){k:Nat}(hk:k<p.aa.length)(hc:(conn b p (k:Int)).2=true):(gt p.aa k).aB=(gt p.aa (eJ b p k)).aB∧(gt p.aa k).aG=(gt p.aa (eJ b p k)).aG:=by
 have e:gt (cE b p) k=gt p.aa k:=by rw[h]
 rw[oI hk] at e
 unfold gj at e
 rw[if_pos hc] at e
 rw[←e]
 exact⟨rfl,rfl⟩
theorem ag9(h:aH b p=0)(hf:cE b p=p.aa):cE b (o_ p)=(o_ p).aa:=by
 obtain⟨⟨hl,hg⟩,⟨s1,s2,s3⟩,g1,g2,g3⟩:=bG.1 h
 have bN:∀j,j<p.aa.length→(gt (o_ p).aa j).State=(gt p.aa j).State:=fun j hj=>by rw[C5 hj,ZM]
 refine TM fun k hk hc=> ?_
 rw[vQ] at hk
 rw[Gx (p:=p) (q:=o_ p) rfl vQ bN] at hc
 rw[Ry (p:=p) (q:=o_ p) rfl vQ bN]
 obtain⟨_,e2,e3,_,_⟩:=EZ hg.1 (show k<b.aa.length by omega) hc
 obtain⟨f1,f2⟩:=TN hf hk hc
 rw[C5 hk,C5 (show eJ b p k<p.aa.length by omega)]
 unfold tick
 rw[if_pos (MV hc),if_pos (MV e3)]
 simp only[f1,f2]
 exact⟨trivial,trivial⟩
end
theorem IF{b:ak}{p:ah}(h:bf p):bf (mR b p):=⟨h.1,by show Sm (cE b p);unfold Sm;rw[nE];exact h.2.1,h.2.2.1,h.2.2.2⟩
theorem aar{p:ah}(h:bf p):bf (o_ p):=⟨h.1,by unfold Sm;rw[vQ];exact h.2.1,h.2.2.1,h.2.2.2⟩
end Rx
namespace Rx
def swapAt(d:List Int)(j:Nat):List Int:=(d.set (j+1) (d.getD j 0)).set j (d.getD (j+1) 0)
def inner(lt:Int→Int→Bool):Nat→List Int→List Int
 |0,d=>d
 |j+1,d=>if lt (d.getD (j+1) 0) (d.getD j 0)=true then inner lt j (swapAt d j) else d
def outer(lt:Int→Int→Bool):Nat→Nat→List Int→List Int
 |0,_,d=>d
 |m+1,i,d=>outer lt m (i+1) (inner lt i d)
def Ok(n:Nat)(p:Int→Prop)(d:List Int):Prop:=d.length=n∧∀x∈d,p x
theorem Eu{n:Nat}{p:Int→Prop}{d:List Int}(h:Ok n p d){j:Nat}(hj:j<n):p (d.getD j 0):=by
 have hl:=h.1
 have:d.getD j 0=d[j]:=by simp[List.getD,hl,hj]
 rw[this]
 exact h.2 _ (List.getElem_mem _)
theorem ab_{n:Nat}{p:Int→Prop}{d:List Int}(h:Ok n p d){j:Nat}(hj:j+1<n):Ok n p (swapAt d j):=by
 refine⟨by simp[swapAt,h.1],fun x hx=> ?_⟩
 unfold swapAt at hx
 rcases List.mem_or_eq_of_mem_set hx with hx|rfl
 · rcases List.mem_or_eq_of_mem_set hx with hx|rfl
   · exact h.2 x hx
   · exact Eu h (by omega)
 · exact Eu h hj
def im(r:List Int):Int:=r.foldr (·+·) 0
def rest(total:Int)(r:List Int)(s:Int)(i:Int):Int:=(total*r.getD i.toNat 0)% s
def ig(n:Nat):List Int:=(List.range n).map Int.ofNat
def Rat(r:List Int):Prop:=r.length≤8∧∀x∈r,1≤x∧x≤50000
theorem Z6{r:List Int}(h:∀x∈r,1≤x∧x≤50000):(r.length:Int)≤im r∧im r≤50000*r.length:=by
 induction r with
 |nil=>simp[im]
 |cons x r ih=>
  have h1:=ih fun y hy=>h y (List.mem_cons_of_mem _ hy)
  have h2:=h x List.mem_cons_self
  have:im (x::r)=x+im r:=rfl
  rw[this]
  simp only[List.length_cons]
  omega
theorem xN(n:Nat):(ig n).length=n:=by simp[ig]
theorem Z4{l:List Int}{B:Int}(h:∀x∈l,0≤x∧x≤B):0≤im l∧im l≤B*l.length:=by
 induction l with
 |nil=>simp[im]
 |cons x l ih=>
  have h1:=ih fun y hy=>h y (List.mem_cons_of_mem _ hy)
  have h2:=h x List.mem_cons_self
  have:im (x::l)=x+im l:=rfl
  rw[this]
  have e:B*((x::l).length:Int)=B*l.length+B:=by simp[Int.mul_add]
  rw[e]
  omega
theorem ahz(n:Nat):Ok n (fun x=>0≤x∧x<n) (ig n):=by
 refine⟨xN n,fun x hx=> ?_⟩
 obtain⟨k,hk,rfl⟩:=List.mem_map.1 hx
 have:=List.mem_range.1 hk
 exact⟨Int.natCast_nonneg k,by simpa using this⟩
section
variable {r:List Int} {total s:Int}
theorem Kk{d:List Int}{j:Nat}(h:j<d.length):idx d (j:Int)=some (d.getD j 0):=aD h
end
def ko(lt:Int→Int→Bool)(x:Int):List Int→List Int
 |[]=>[x]
 |y::l=>if lt x y=true then y::ko lt x l else x::y::l
theorem RL(lt:Int→Int→Bool)(x:Int):∀l:List Int,(ko lt x l).length=l.length+1
 |[]=>rfl
 |y::l=>by
  unfold ko
  split
  · simp[RL lt x l]
  · rfl
theorem E4(lt:Int→Int→Bool)(x:Int):∀l:List Int,(ko lt x l).Perm (x::l)
 |[]=>List.Perm.refl _
 |y::l=>by
  unfold ko
  split
  · exact((E4 lt x l).cons y).trans (List.Perm.swap x y l)
  · exact List.Perm.refl _
theorem agX(l m:List Int)(a:Int):(l++a::m).getD l.length 0=a:=by simp[List.getD]
theorem RN(lt:Int→Int→Bool)(x:Int):∀(l post:List Int),inner lt l.length (l.reverse++x::post)=(ko lt x l).reverse++post
 |[],post=>rfl
 |y::l,post=>by
  have hl:l.reverse.length=l.length:=List.length_reverse
  have e0:(y::l).reverse++x::post=l.reverse++y::x::post:=by simp
  have e1:(l.reverse++y::x::post).getD l.length 0=y:=by rw[←hl];exact agX _ _ _
  have e2:(l.reverse++y::x::post).getD (l.length+1) 0=x:=by
   simp
  rw[e0]
  show inner lt (l.length+1) _=_
  rw[inner,e1,e2,ko]
  split
  · rename_i h
    have e3:swapAt (l.reverse++y::x::post) l.length=l.reverse++x::y::post:=by
     unfold swapAt
     rw[e1,e2,List.set_append_right _ _ (by omega),hl]
     have:l.length+1-l.length=1:=by omega
     rw[this,List.set_append_right _ _ (by omega),hl,Nat.sub_self]
     rfl
    rw[e3,RN lt x l (y::post)]
    simp
  · simp
theorem QC(lt:Int→Int→Bool):∀(xs l:List Int),outer lt xs.length l.length (l.reverse++xs)=(xs.foldl (fun a x=>ko lt x a) l).reverse
 |[],l=>by simp[outer]
 |x::xs,l=>by
  show outer lt (xs.length+1) l.length _=_
  rw[outer,RN lt x l xs]
  have:=QC lt xs (ko lt x l)
  rw[RL] at this
  rw[this]
  rfl
def CH(f:Int→Int)(a b:Int):Prop:=f a<f b∨(f a=f b∧b<a)
theorem RK{lt:Int→Int→Bool}{f:Int→Int}(aQ:∀x y,lt x y=true↔f y<f x){x:Int}:∀{l:List Int},(∀y∈l,y<x)→l.Pairwise (CH f)→(ko lt x l).Pairwise (CH f)
 |[],_,_=>by simp[ko]
 |y::l,hx,h=>by
  have h':=List.pairwise_cons.1 h
  unfold ko
  split
  · rename_i hh
    have hf:=(aQ x y).1 hh
    refine List.pairwise_cons.2 ⟨fun z hz=> ?_,RK aQ (fun z hz=>hx z (List.mem_cons_of_mem _ hz)) h'.2⟩
    have kw:=(E4 lt x l).mem_iff.1 hz
    rcases List.mem_cons.1 kw with rfl|kw
    · exact .inl hf
    · exact h'.1 z kw
  · rename_i hh
    have hf:f x≤f y:=by
     apply Int.not_lt.1
     intro h2
     exact hh ((aQ x y).2 h2)
    refine List.pairwise_cons.2 ⟨fun z hz=> ?_,h⟩
    have hzx:=hx z hz
    have rV:f y≤f z:=by
     rcases List.mem_cons.1 hz with rfl|hz
     · exact Int.le_refl _
     · rcases h'.1 z hz with h3|h3<;>omega
    rcases Int.lt_or_le (f x) (f z) with h4|h4
    · exact .inl h4
    · exact .inr ⟨by omega,hzx⟩
theorem TO{lt:Int→Int→Bool}{f:Int→Int}(aQ:∀x y,lt x y=true↔f y<f x):∀(xs l:List Int),xs.Pairwise (·<·)→(∀y∈l,∀x∈xs,y<x)→l.Pairwise (CH f)→
  (xs.foldl (fun a x=>ko lt x a) l).Pairwise (CH f)∧(xs.foldl (fun a x=>ko lt x a) l).Perm (xs++l)
 |[],l,_,_,h=>⟨h,List.Perm.refl _⟩
 |x::xs,l,hp,hl,h=>by
  have lT:=List.pairwise_cons.1 hp
  have h1:=RK aQ (x:=x) (l:=l) (fun y hy=>hl y hy x List.mem_cons_self) h
  have ih:=TO aQ xs (ko lt x l) lT.2 (fun y hy z hz=>by
   have en:=(E4 lt x l).mem_iff.1 hy
   rcases List.mem_cons.1 en with rfl|en
   · exact lT.1 z hz
   · exact hl y en z (List.mem_cons_of_mem _ hz)) h1
  refine⟨ih.1,ih.2.trans ?_⟩
  exact((E4 lt x l).append_left xs).trans List.perm_middle
theorem TZ(n:Nat):(ig n).Pairwise (·<·):=by
 unfold ig
 rw[List.pairwise_map]
 exact List.pairwise_lt_range.imp fun h=>by simpa using h
theorem Z7(a b:List Int):im (a++b)=im a+im b:=by
 induction a with
 |nil=>simp[im]
 |cons x a ih=>show x+im (a++b)=x+im a+im b;rw[ih];omega
section
variable {r:List Int} {total:Int}
end
end Rx
namespace Rx
section
variable {b:ak} {p:ah}
def fb(f:Nat→Int)(l:List Int):Int:=im (l.map fun k=>f k.toNat)
theorem Pm(f:Nat→Int)(l:List Int)(k:Int):fb f (l++[k])=fb f l+f k.toNat:=by
 unfold fb
 rw[List.map_append,Z7]
 simp[im]
theorem zq{f:Nat→Int}{l:List Int}{B:Int}(h:∀k∈l,0≤f k.toNat∧f k.toNat≤B):0≤fb f l∧fb f l≤B*l.length:=by
 have:=Z4 (l:=l.map fun k=>f k.toNat) (B:=B) (fun x hx=>by
  obtain⟨k,hk,rfl⟩:=List.mem_map.1 hx
  exact h k hk)
 simpa[fb] using this
def eI(p:ah)(x:aP):Int:=if x.aa=[] then 0 else fb (gt p.ar) x.ae
def bU(b:ak)(x:aP):Int:=fb (fun k=>(gt b.aa k).df) x.aa
theorem QT(hg:bj b)(k:Int):(∀c∈(bM b p k).1.ae,0≤c∧c<b.ae.length)∧(∀c∈(bM b p k).1.aa,0≤c∧c<b.aa.length)∧(bM b p k).1.ae.length≤b.ae.length∧(bM b p k).1.aa.length≤b.aa.length:=by
 unfold bM
 split
 · have h:=pw (b:=b) (p:=p) (gt (bl b p) k.toNat).toNat
   refine⟨fun c hc=> ?_,fun c hc=> ?_,h.2.2,h.2.1⟩
   · obtain⟨j,hj,_,_,e⟩:=w9.1 hc
     omega
   · obtain⟨j,hj,_,_,e⟩:=Ax.1 hc
     omega
 · exact⟨fun c hc=>(by cases hc),fun c hc=>(by cases hc),Nat.zero_le _,Nat.zero_le _⟩
theorem AE(h:aH b p=0){k:Nat}(hk:k<b.ae.length):0≤gt p.ar k∧gt p.ar k≤50000:=by
 obtain⟨⟨hl,hg⟩,⟨s1,s2,s3⟩,g1,g2,g3⟩:=bG.1 h
 have h1:=(g3 k (by omega)).1
 have h2:=(hg.2.2.2.2 k hk).2.1
 omega
theorem Ak(h:aH b p=0){k:Nat}(hk:k<b.aa.length):1≤(gt b.aa k).df∧(gt b.aa k).df≤50000:=by
 obtain⟨⟨hl,hg⟩,_⟩:=bG.1 h
 exact(hg.2.2.2.1 k hk).1
theorem Ey(h:aH b p≠0)(k:Int):(bM b p k).1=⟨[],[],[]⟩:=by unfold bM;rw[if_neg (fun hn=>h hn.1)]
theorem ET(hb:bL b)(hp:bf p)(k:Int):qb b p k=some (eI p (bM b p k).1):=by
 by_cases h:aH b p=0
 case neg=>
  unfold qb
  rw[of_eq hb hp]
  have e:i_ b p k=([],[],[],(bM b p k).2):=by unfold i_;rw[Ey h]
  rw[e,Ey h]
  rfl
 obtain⟨⟨hl,hg⟩,⟨s1,s2,s3⟩,_⟩:=bG.1 h
 obtain⟨h1,h2,h3,h4⟩:=QT (p:=p) hg.1 k
 have h8:=hl.eN
 generalize hx:(bM b p k).1=x at*
 have qK:=dP (step:=yJ p (i_ b p k)) (fun i=>(if x.aa=[] then 0 else fb (gt p.ar) (x.ae.take i),(i:Int))) x.ae.length (r:=eI p x) (fun i hi=>by
  obtain⟨c0,c1⟩:=h1 _ (cr hi)
  obtain⟨c,ec⟩:=Int.eq_ofNat_of_zero_le c0
  have ec:gt x.ae i=(c:Int):=ec
  have hc:c<p.ar.length:=by omega
  have e1:(i_ b p k).2.2.1=x.ae:=by rw[←hx];rfl
  have e2:(i_ b p k).2.1=x.aa:=by rw[←hx];rfl
  have kE:=zq (f:=gt p.ar) (l:=x.ae.take i) (B:=50000) (fun c hc=>by
   have:=h1 c (List.mem_of_mem_take hc)
   exact AE h (by omega))
  have hlen:(x.ae.take i).length≤16:=by simp;omega
  have qT:=AE h (k:=c) (by omega)
  by_cases hs:x.aa=[]
  · simp only[yJ,e1,e2,hs,aU hi,if_true,aD hi,ec,Option.bind_some,dF (show ¬len ([]:List Int)>0 by decide),Bool.false_eq_true,if_false,aX (show i<1000000000000000000 by omega)]
  · have nu:len x.aa>0:=by have:=List.length_pos_iff.2 hs;unfold len;omega
    simp only[yJ,e1,e2,if_neg hs,aU hi,if_true,aD hi,ec,Option.bind_some,dT nu,aD hc,aX (show i<1000000000000000000 by omega),gN hi,Pm,Int.toNat_natCast]
    rw[bO (by omega) (by omega)]) (by
  have e1:(i_ b p k).2.2.1=x.ae:=by rw[←hx];rfl
  simp only[yJ,e1,bA,Bool.false_eq_true,if_false,List.take_length]
  rfl)
 unfold qb
 have e0:(if x.aa=[] then(0:Int) else fb (gt p.ar) (x.ae.take 0),((0:Nat):Int))=(0,0):=by simp[fb,im]
 have Fs:aC (yJ p (i_ b p k)) (if x.aa=[] then(0:Int) else fb (gt p.ar) (x.ae.take 0),((0:Nat):Int))=_:=qK
 rw[e0] at Fs
 simp only[of_eq hb hp,Option.bind_some,Fs]
theorem Eg(hb:bL b)(hp:bf p)(k:Int):qa b p k=some (bU b (bM b p k).1):=by
 by_cases h:aH b p=0
 case neg=>
  unfold qa
  rw[of_eq hb hp]
  have e:i_ b p k=([],[],[],(bM b p k).2):=by unfold i_;rw[Ey h]
  rw[e,Ey h]
  rfl
 obtain⟨⟨hl,hg⟩,⟨s1,s2,s3⟩,_⟩:=bG.1 h
 obtain⟨h1,h2,h3,h4⟩:=QT (p:=p) hg.1 k
 have h8:=hl.src
 generalize hx:(bM b p k).1=x at*
 have e2:(i_ b p k).2.1=x.aa:=by rw[←hx];rfl
 have qK:=dP (step:=Cu b (i_ b p k)) (fun i=>(fb (fun k=>(gt b.aa k).df) (x.aa.take i),(i:Int))) x.aa.length (r:=bU b x) (fun i hi=>by
  obtain⟨c0,c1⟩:=h2 _ (cr hi)
  obtain⟨c,ec⟩:=Int.eq_ofNat_of_zero_le c0
  have ec:gt x.aa i=(c:Int):=ec
  have hc:c<b.aa.length:=by omega
  have kE:=zq (f:=fun k=>(gt b.aa k).df) (l:=x.aa.take i) (B:=50000) (fun c hc=>by
   have:=h2 c (List.mem_of_mem_take hc)
   have:=Ak h (k:=c.toNat) (by omega)
   exact⟨by omega,this.2⟩)
  have hlen:(x.aa.take i).length≤8:=by simp;omega
  have qT:=Ak h (k:=c) (by omega)
  simp only[Cu,e2,aU hi,if_true,aD hi,ec,Option.bind_some,aD hc,aX (show i<1000000000000000000 by omega),gN hi,Pm,Int.toNat_natCast]
  rw[bO (by omega) (by omega)]) (by
  simp only[Cu,e2,bA,Bool.false_eq_true,if_false,List.take_length]
  rfl)
 unfold qa
 have Fs:aC (Cu b (i_ b p k)) (0,0)=_:=qK
 simp only[of_eq hb hp,Option.bind_some,Fs]
theorem Jx(hb:bL b)(hp:bf p)(k:Int):Cv b p k=some (decide (bU b (bM b p k).1<eI p (bM b p k).1)):=by
 unfold Cv
 simp only[ET hb hp,Eg hb hp,Option.bind_some]
def Eh(b:ak)(x:aP):List Int:=x.aa.map fun k=>(gt b.aa k.toNat).df
theorem abz(x:aP):im (Eh b x)=bU b x:=by unfold Eh bU fb;rfl
theorem ns(hg:bj b){x:aP}(hx:x∈aE b p):(∀c∈x.ae,0≤c∧c<b.ae.length)∧(∀c∈x.aa,0≤c∧c<b.aa.length)∧x.ae.length≤b.ae.length∧x.aa.length≤b.aa.length∧0<x.ai.length:=by
 obtain⟨f,hf,e,be⟩:=oh.1 hx
 have h:=pw (b:=b) (p:=p) f
 rw[e]
 refine⟨fun c hc=> ?_,fun c hc=> ?_,h.2.2,h.2.1,List.length_pos_iff.2 be⟩
 · obtain⟨j,hj,_,_,e⟩:=w9.1 hc
   omega
 · obtain⟨j,hj,_,_,e⟩:=Ax.1 hc
   omega
theorem ady(h:aH b p=0){x:aP}(hx:x∈aE b p):(bM b p (gt x.ai 0)).1=x:=by
 obtain⟨⟨hl,hg⟩,_⟩:=bG.1 h
 have hb0:=(ns hg.1 hx).2.2.2.2
 obtain⟨h1,h2,h3⟩:=J9 hx (cr hb0)
 unfold bM
 rw[if_pos ⟨h,h1,by omega⟩]
 exact h3.symm
theorem abB(h:aH b p=0){x:aP}(hx:x∈aE b p):Rat (Eh b x):=by
 obtain⟨⟨hl,hg⟩,_⟩:=bG.1 h
 obtain⟨h1,h2,h3,h4,_⟩:=ns hg.1 hx
 refine⟨by unfold Eh;simp;have:=hl.src;omega,fun r hr=> ?_⟩
 obtain⟨k,hk,rfl⟩:=List.mem_map.1 hr
 have:=h2 k hk
 exact Ak h (by omega)
theorem acT(h:aH b p=0){x:aP}(hx:x∈aE b p):0≤eI p x∧eI p x≤800000∧(x.aa=[]→eI p x=0):=by
 obtain⟨⟨hl,hg⟩,_⟩:=bG.1 h
 obtain⟨h1,h2,h3,h4,_⟩:=ns hg.1 hx
 have h8:=hl.eN
 have kE:=zq (f:=gt p.ar) (l:=x.ae) (B:=50000) (fun c hc=>by
  have:=h1 c hc
  exact AE h (by omega))
 unfold eI
 refine⟨?_, ?_,fun e=>if_pos e⟩
 · split<;>omega
 · split<;>omega
end
end Rx
namespace Rx
theorem abR{p q:Part}(h1:p.Kind=q.Kind)(h2:p.Number=q.Number):p=q:=by
 cases p;cases q;simp at h1 h2;rw[h1,h2]
section
variable {b:ak} {p:ah}
def b_(p:ah)(k n:Int):Bool:=dB ((⟨k,n⟩:Part)∈p.ax)
theorem ak2(hp:bf p)(k n:Int):jl p k n=some (b_ p k n):=by
 have hl:=hp.2.2.2
 unfold jl DC Du
 have e1:∀i,((k==(gt p.ax i).Kind&&n==(gt p.ax i).Number)=true↔gt p.ax i=(⟨k,n⟩:Part)):=fun i=>by
  simp only[Bool.and_eq_true,beq_iff_eq]
  exact⟨fun⟨h1,h2⟩=>abR h1.symm h2.symm,fun h=>by rw[h];exact⟨rfl,rfl⟩⟩
 by_cases hm:(⟨k,n⟩:Part)∈p.ax
 · have hw:Wp (aC (nV p.ax ⟨k,n⟩) 0) fun r=>∃q:Nat,r= .inr (q:Int):=by
    obtain⟨j,hj,he⟩:=jO hm
    refine hG p.ax.length (fun k s=>s=(k:Int)∧k≤j) ⟨rfl,by omega⟩ (fun i s hi hv=> ?_) (fun s hv=>by omega) (Pz hl)
    obtain⟨rfl,hv⟩:=hv
    unfold nV
    simp only[aU hi,if_true,aD hi,Option.bind_some]
    cases hb:(k==(gt p.ax i).Kind&&n==(gt p.ax i).Number) with
    |true=>simp only[if_true];exact ay.2 ⟨i,rfl⟩
    |false=>
     simp only[Bool.false_eq_true,if_false]
     refine ay.2 ⟨aX (cN hl hi), ?_⟩
     by_cases e:i=j
     · subst e
       rw[(e1 i).2 he] at hb
       cases hb
     · omega
   obtain⟨r,e,q,rfl⟩:=hw
   rw[e]
   unfold b_
   rw[er hm]
   simp only[Option.bind_some,Sum.elim_inr]
   rw[dT (by omega)]
 · have e:aC (nV p.ax ⟨k,n⟩) 0=some (.inl ()):=dP (r:=Sum.inl ()) (fun k=>(k:Int)) p.ax.length (fun i hi=>by
    unfold nV
    simp only[aU hi,if_true,aD hi,Option.bind_some]
    cases hb:(k==(gt p.ax i).Kind&&n==(gt p.ax i).Number) with
    |true=>exact(hm ((e1 i).1 hb▸cr hi)).elim
    |false=>
     simp only[Bool.false_eq_true,if_false]
     rw[aX (cN hl hi)]) (by
    unfold nV
    simp only[bA,Bool.false_eq_true,if_false]) (Pz hl)
   rw[e]
   unfold b_
   rw[dj hm]
   simp only[Option.bind_some,Sum.elim_inl]
   rw[dF (by omega)]
def pu(b:ak)(p:ah)(k:Int):Bool:=decide (0<(bM b p k).1.aa.length)
theorem acW(hb:bL b)(hp:bf p)(k:Int):vq b p k=some (pu b p k):=JY hb hp k
def fj(p:ah)(x:aI):Bool:=b_ p 3 x.A||(if x.Kind=1 then b_ p 3 x.B else if x.Kind=2 then b_ p 1 x.B||((gt p.aa x.B.toNat).State !=2) else b_ p 4 x.B)
theorem ahW(hp:bf p){x:aI}(hx:x.Kind=2→0≤x.B∧x.B<p.aa.length)(a:List Act):Ee ⟨b,p,a⟩ x=some (fj p x):=by
 unfold Ee wk fj
 simp only[ak2 hp,Option.bind_some]
 cases b_ p 3 x.A with
 |true=>simp only[if_true,Bool.true_or]
 |false=>
  simp only[Bool.false_eq_true,if_false,Bool.false_or]
  by_cases h1:x.Kind=1
  · rw[dU h1,if_pos h1]
    simp only[if_true]
  · rw[bW h1,if_neg h1]
    simp only[Bool.false_eq_true,if_false]
    by_cases h2:x.Kind=2
    · rw[dU h2,if_pos h2]
      simp only[if_true]
      cases b_ p 1 x.B with
      |true=>simp only[if_true,Option.bind_some,Bool.true_or]
      |false=>
       have:=hx h2
       simp only[Bool.false_eq_true,if_false,eU this.1 this.2,Option.bind_some,Bool.false_or]
    · rw[bW h2,if_neg h2]
      simp only[Bool.false_eq_true,if_false]
def eG(C:List Bool)(P:Nat→Bool):List Bool:=(List.range C.length).map fun i=>gt C i&& !P i
theorem gR(C:List Bool)(P:Nat→Bool):(eG C P).length=C.length:=by simp[eG]
theorem lM{C:List Bool}{P:Nat→Bool}{i:Nat}(h:i<C.length):gt (eG C P) i=(gt C i&& !P i):=fU _ h
def mm(i:Int):Act:=⟨2,i,0⟩
def ee(C:List Bool)(P:Nat→Bool):List Int:=aZ (fun i=>gt C i&&P i) C.length
def cP(b:ak)(p:ah)(a:List Act):Int×List aI×List Source×List Consumer×Int×Int×List Bool×List az×List Int×List Part×List Act:=(b.ai,b.ab,b.aa,b.ae,b.aG,b.aB,p.al,p.aa,p.ar,p.ax,a)
theorem Es(C:List Bool)(l:List Int)(h:∀k∈l,0≤k∧k<(C.length:Int)):∀i,gt (l.foldl (fun c k=>c.set k.toNat false) C) i=(gt C i&& !decide ((i:Int)∈l))∧(l.foldl (fun c k=>c.set k.toNat false) C).length=C.length:=by
 induction l generalizing C with
 |nil=>intro i;simp
 |cons k l ih=>
  intro i
  have hk:=h k (by simp)
  have:=ih (C.set k.toNat false) (fun j hj=>by have:=h j (by simp[hj]);simpa using this) i
  simp only[List.foldl_cons]
  rw[this.1,this.2]
  refine⟨?_,by simp⟩
  rw[dI (by omega)]
  by_cases e:i=k.toNat
  · have:(i:Int)=k:=by omega
    rw[if_pos e,this];simp
  · have:(i:Int)≠k:=by omega
    rw[if_neg e]
    simp[this]
theorem Jz{b:ak}{p:ah}{a:List Act}{l:List Int}(hC:p.al.length≤1000)(hl:l.length≤1000)(ha:a.length≤10000000)(h:∀k∈l,0≤k∧k<(p.al.length:Int)):
  aC (wL l) (0,cP b p a)=some (cP b {p with al:=l.foldl (fun c k=>c.set k.toNat false) p.al} (a++l.map mm)):=by
 have:=dP (step:=wL l) (r:=cP b {p with al:=l.foldl (fun c k=>c.set k.toNat false) p.al} (a++l.map mm)) (fun k=>((k:Int),cP b {p with al:=(l.take k).foldl (fun c k=>c.set k.toNat false) p.al} (a++(l.take k).map mm))) l.length (fun k hk=>by
  have hg:=h _ (cr hk)
  have lh:=(Es p.al (l.take k) (fun j hj=>h j (List.mem_of_mem_take hj)) 0).2
  unfold wL zZ
  simp only[cP,aU hk,if_true,aD hk,Option.bind_some]
  rw[eU (l:=(l.take k).foldl (fun c k=>c.set k.toNat false) p.al) hg.1 (by rw[lh];exact hg.2),ww hg.1 (by rw[lh];exact hg.2),c_ (by simp;omega),aX (by omega)]
  simp only[Option.bind_some,gN hk,List.foldl_append,List.foldl_cons,List.foldl_nil,List.map_append,List.map_cons,List.map_nil,List.append_assoc]
  rfl) (by
  unfold wL
  simp only[cP,bA,Bool.false_eq_true,if_false,List.take_length]) (by omega)
 simpa using this
theorem uU{C:List Bool}{P:Nat→Bool}:∀k∈ee C P,0≤k∧k<(C.length:Int):=fun k hk=>by
 obtain⟨i,hi,_,rfl⟩:=rL.1 hk
 omega
theorem Mm(C:List Bool)(P:Nat→Bool):(ee C P).foldl (fun c k=>c.set k.toNat false) C=eG C P:=by
 refine fi (by rw[(Es C (ee C P) uU 0).2,gR]) fun i hi=> ?_
 rw[(Es C (ee C P) uU 0).2] at hi
 rw[(Es C (ee C P) uU i).1,lM hi]
 cases hc:gt C i with
 |false=>simp
 |true=>
  simp only[Bool.true_and]
  congr 1
  cases hP:P i with
  |true=>exact decide_eq_true (rL.2 ⟨i,hi,by simp[hc,hP],rfl⟩)
  |false=>
   refine decide_eq_false fun hm=> ?_
   obtain⟨j,_,hj,e⟩:=rL.1 hm
   have:i=j:=by omega
   subst this
   rw[hP] at hj
   simp at hj
theorem uV(C:List Bool)(P:Nat→Bool):(ee C P).length≤C.length:=ke _ _
def fV(b:ak)(p:ah):ah:={p with al:=eG p.al fun i=>fj p (gt b.ab i)}
def dead(b:ak)(p:ah)(x:aI):Bool:=x.Kind==3&& !pu b p x.A
def p6(b:ak)(p:ah):ah:={fV b p with al:=eG (fV b p).al fun i=>dead b (fV b p) (gt b.ab i)}
def nJ(b:ak)(p:ah):List Act:=(ee p.al fun i=>fj p (gt b.ab i)).map mm++(ee (fV b p).al fun i=>dead b (fV b p) (gt b.ab i)).map mm
def et(b:ak)(p:ah):ah:=mR b (p6 b p)
theorem UB{q:ah}{j:Int}(h:∀k,gt q.al k=true→gt p.al k=true):∀n,cK b q j n≤cK b p j n:=by
 intro n
 induction n with
 |zero=>exact Nat.le_refl _
 |succ n ih=>
  unfold cK
  by_cases hc:(gt b.ab n).Kind=3∧(gt b.ab n).B=j∧gt q.al n=true
  · rw[if_pos hc,if_pos ⟨hc.1,hc.2.1,h n hc.2.2⟩];omega
  · rw[if_neg hc];omega
theorem Dg{q:ah}(h:aH b p=0)(hl:q.al.length=p.al.length)(hs:q.aa=p.aa)(hm:q.ar=p.ar)(hb:q.ax=p.ax)(hc:∀k,gt q.al k=true→gt p.al k=true):aH b q=0:=by
 obtain⟨h1,⟨s1,s2,s3⟩,⟨g1,g2⟩,g3,g4⟩:=bG.1 h
 refine bG.2 ⟨h1,⟨by omega,by rw[hs];exact s2,by rw[hm];exact s3⟩,⟨by rw[hb];exact g1,by rw[hb];exact g2⟩,by rw[hs];exact g3,fun k hk=> ?_⟩
 rw[hm] at hk
 obtain⟨a,c⟩:=g4 k hk
 refine⟨by rw[hm];exact a, ?_⟩
 have:=UB (b:=b) (j:=(k:Int)) hc b.ab.length
 omega
theorem wY{C:List Bool}{P:Nat→Bool}{k:Nat}(h:gt (eG C P) k=true):gt C k=true:=by
 by_cases hk:k<C.length
 · rw[lM hk] at h
   cases hc:gt C k with
   |true=>rfl
   |false=>rw[hc] at h;cases h
 · unfold gt at h
   rw[List.getD_eq_getElem?_getD,List.getElem?_eq_none (by rw[gR];omega)] at h
   exact Bool.noConfusion h
theorem Iy(h:aH b p=0):aH b (fV b p)=0:=Dg h (gR _ _) rfl rfl rfl fun k hk=>wY hk
theorem Dh(h:aH b p=0):aH b (p6 b p)=0:=Dg (Iy h) (gR _ _) rfl rfl rfl fun k hk=>wY hk
theorem Py{q:ah}(hp:bf p)(hl:q.al.length=p.al.length)(hs:q.aa=p.aa)(hm:q.ar=p.ar)(hb:q.ax=p.ax):bf q:=by
 obtain⟨h1,h2,h3,h4⟩:=hp
 refine⟨?_,by rw[hs];exact h2,by rw[hm];exact h3,by rw[hb];exact h4⟩
 unfold Sm at h1⊢;omega
theorem PB(hp:bf p):bf (fV b p):=Py hp (gR _ _) rfl rfl rfl
theorem PA(hp:bf p):bf (p6 b p):=Py (PB (b:=b) hp) (gR _ _) rfl rfl rfl
theorem gF(h:aH b p=0):p.al.length=b.ab.length∧p.aa.length=b.aa.length∧b.ab.length≤24∧b.aa.length≤8∧b.ae.length≤16∧p.ar.length=b.ae.length:=by
 obtain⟨⟨hl,_⟩,⟨s1,s2,s3⟩,_⟩:=bG.1 h
 exact⟨s1,s2,hl.b_,hl.src,hl.eN,s3⟩
theorem ID(h:aH b p=0){k:Nat}(hk:k<b.ab.length)(h2:(gt b.ab k).Kind=2):0≤(gt b.ab k).B∧(gt b.ab k).B<(p.aa.length:Int):=by
 obtain⟨s1,s2,_⟩:=gF h
 have:=(((bG.1 h).1.2).1.1 k hk).2
 rcases this with c|c|c<;>omega
theorem ZY(hp:bf p)(h:aH b p=0){a:List Act}(ha:a.length≤1000000):Ea ⟨b,p,a⟩=some (cP b (fV b p) (a++(ee p.al fun i=>fj p (gt b.ab i)).map mm)):=by
 obtain⟨s1,s2,s3,_⟩:=gF h
 unfold Ea
 have e1:aC (zX ⟨b,p,a⟩) (0,[])=some (ee p.al fun i=>fj p (gt b.ab i)):=by
  have:=dP (step:=zX ⟨b,p,a⟩) (r:=ee p.al fun i=>fj p (gt b.ab i)) (fun k=>((k:Int),aZ (fun i=>gt p.al i&&fj p (gt b.ab i)) k)) b.ab.length (fun k hk=>by
   have iO:=ke (fun i=>gt p.al i&&fj p (gt b.ab i)) k
   unfold zX
   simp only[aU hk,if_true,aD hk,Option.bind_some,aD (l:=p.al) (k:=k) (by omega),ahW (b:=b) hp (x:=gt b.ab k) (ID h hk) a]
   rw[aX (by omega),kT]
   cases gt p.al k with
   |false=>simp
   |true=>
    cases fj p (gt b.ab k) with
    |false=>simp
    |true=>
     simp only[if_true,Option.bind_some,Bool.and_self]
     rw[c_ (by simp;omega)]
     rfl) (by
   unfold zX
   simp only[bA,Bool.false_eq_true,if_false]
   unfold ee
   rw[s1]) (by omega)
  simpa[aZ] using this
 rw[e1]
 have dG:(ee p.al fun i=>fj p (gt b.ab i)).length≤1000:=by
  have:=uV p.al fun i=>fj p (gt b.ab i)
  omega
 have e2:=Jz (b:=b) (p:=p) (a:=a) (l:=ee p.al fun i=>fj p (gt b.ab i)) (by omega) dG (by omega) uU
 simp only[Option.bind_some]
 rw[show aC (wL (ee p.al fun i=>fj p (gt b.ab i))) (0,b.ai,b.ab,b.aa,b.ae,b.aG,b.aB,p.al,p.aa,p.ar,p.ax,a)=_ from e2,Mm]
 rfl
theorem ZX(hb:bL b)(hp:bf p)(h:aH b p=0){a:List Act}(ha:a.length≤1000000):D_ ⟨b,p,a⟩=some (cP b {p with al:=eG p.al fun i=>dead b p (gt b.ab i)} (a++(ee p.al fun i=>dead b p (gt b.ab i)).map mm)):=by
 obtain⟨s1,s2,s3,_⟩:=gF h
 unfold D_
 have e1:aC (wK ⟨b,p,a⟩) (0,[],cP b p a)=some (ee p.al fun i=>dead b p (gt b.ab i),cP b p a):=by
  have:=dP (step:=wK ⟨b,p,a⟩) (r:=(ee p.al fun i=>dead b p (gt b.ab i),cP b p a)) (fun k=>((k:Int),aZ (fun i=>gt p.al i&&dead b p (gt b.ab i)) k,cP b p a)) b.ab.length (fun k hk=>by
   have iO:=ke (fun i=>gt p.al i&&dead b p (gt b.ab i)) k
   have iR:(⟨b.ai,b.ab,b.aa,b.ae,b.aG,b.aB⟩:ak)=b:=rfl
   have kA:(⟨p.al,p.aa,p.ar,p.ax⟩:ah)=p:=rfl
   unfold wK I6
   simp only[cP,aU hk,if_true,aD hk,Option.bind_some,aD (l:=p.al) (k:=k) (by omega),iR,kA,acW hb hp]
   rw[aX (by omega),kT]
   generalize aZ (fun i=>gt p.al i&&dead b p (gt b.ab i)) k=R at iO⊢
   unfold dead
   cases gt p.al k with
   |false=>simp
   |true=>
    cases(gt b.ab k).Kind==3 with
    |false=>simp
    |true=>
     cases pu b p (gt b.ab k).A with
     |true=>simp
     |false=>
      simp only[if_true,Option.bind_some,Bool.and_self,Bool.not_false]
      rw[c_ (by simp;omega)]
      rfl) (by
   unfold wK
   simp only[cP,bA,Bool.false_eq_true,if_false]
   unfold ee
   rw[s1]) (by omega)
  simpa[aZ] using this
 rw[show aC (wK ⟨b,p,a⟩) (0,[],b.ai,b.ab,b.aa,b.ae,b.aG,b.aB,p.al,p.aa,p.ar,p.ax,a)=_ from e1]
 have dG:(ee p.al fun i=>dead b p (gt b.ab i)).length≤1000:=by
  have:=uV p.al fun i=>dead b p (gt b.ab i)
  omega
 have e2:=Jz (b:=b) (p:=p) (a:=a) (l:=ee p.al fun i=>dead b p (gt b.ab i)) (by omega) dG (by omega) uU
 simp only[Option.bind_some]
 rw[show aC (P_ (ee p.al fun i=>dead b p (gt b.ab i),cP b p a)) (0,(cP b p a).1,(cP b p a).2.1,(cP b p a).2.2.1,(cP b p a).2.2.2.1,(cP b p a).2.2.2.2.1,(cP b p a).2.2.2.2.2.1,(cP b p a).2.2.2.2.2.2.1,(cP b p a).2.2.2.2.2.2.2.1,(cP b p a).2.2.2.2.2.2.2.2.1,(cP b p a).2.2.2.2.2.2.2.2.2.1,(cP b p a).2.2.2.2.2.2.2.2.2.2)=_ from e2,Mm]
 rfl
theorem UE(hb:bL b)(hp:bf p)(h:aH b p=0):Ab ⟨b,p,[]⟩=some (b.ai,b.ab,b.aa,b.ae,b.aG,b.aB,(p6 b p).al,(p6 b p).aa,(p6 b p).ar,(p6 b p).ax,(et b p).al,(et b p).aa,(et b p).ar,(et b p).ax,nJ b p):=by
 obtain⟨s1,s2,s3,_⟩:=gF h
 have dG:=uV p.al fun i=>fj p (gt b.ab i)
 unfold Ab
 rw[ZY hp h (by simp)]
 simp only[Option.bind_some,cP]
 have e2:=ZX (a:=[]++(ee p.al fun i=>fj p (gt b.ab i)).map mm) hb (PB (b:=b) hp) (Iy h) (by simp only[List.nil_append,List.length_map];omega)
 rw[show(⟨⟨b.ai,b.ab,b.aa,b.ae,b.aG,b.aB⟩,⟨(fV b p).al,(fV b p).aa,(fV b p).ar,(fV b p).ax⟩,[]++(ee p.al fun i=>fj p (gt b.ab i)).map mm⟩:dA)=⟨b,fV b p,[]++(ee p.al fun i=>fj p (gt b.ab i)).map mm⟩ from rfl,e2]
 simp only[Option.bind_some,cP]
 have e3:=follow_eq hb (PA (b:=b) hp) (Dh h)
 rw[show rm ⟨b.ai,b.ab,b.aa,b.ae,b.aG,b.aB⟩ ⟨eG (fV b p).al fun i=>dead b (fV b p) (gt b.ab i),(fV b p).aa,(fV b p).ar,(fV b p).ax⟩=_ from e3]
 simp only[Option.bind_some,List.nil_append]
 rfl
theorem ain(hb:bL b)(hp:bf p)(h:aH b p=0):DP b p=some (0,(et b p).al,(et b p).aa,(et b p).ar,(et b p).ax,nJ b p):=by
 unfold DP I4
 rw[kR hb hp,h]
 simp only[Option.bind_some,bne_self_eq_false,Bool.false_eq_true,if_false,nK hp]
 rw[show(⟨b,⟨p.al,p.aa,p.ar,p.ax⟩,[]⟩:dA)=⟨b,p,[]⟩ from rfl,UE hb hp h]
 simp only[Option.bind_some]
theorem ZK{q:ah}(hc:∀k,k<b.ab.length→(gt b.ab k).Kind=1→gt q.al k=gt p.al k)(k:Nat)(hk:k≤b.ab.length)(f:List Int):eE b q k f=eE b p k f:=by
 induction k with
 |zero=>rfl
 |succ k ih=>
  unfold eE
  rw[ih (by omega)]
  unfold kb
  by_cases h1:(gt b.ab k).Kind=1
  · rw[hc k (by omega) h1]
  · rw[if_neg fun h=>h1 h.1,if_neg fun h=>h1 h.1]
theorem agV{q:ah}(hc:∀k,k<b.ab.length→(gt b.ab k).Kind=1→gt q.al k=gt p.al k):bl b q=bl b p:=by
 unfold bl
 have:∀r f,rounds b q r f=rounds b p r f:=by
  intro r f
  induction r with
  |zero=>rfl
  |succ r ih=>unfold rounds;rw[ih,ZK hc _ (Nat.le_refl _)]
 exact this _ _
theorem find_congr{n:Nat}{P Q:Nat→Bool}(h:∀k,k<n→P k=Q k):(List.range n).find? P=(List.range n).find? Q:=by
 induction n with
 |zero=>rfl
 |succ n ih=>rw[List.range_succ,List.find?_append,List.find?_append,ih fun k hk=>h k (by omega)];simp[List.find?_cons,h n (by omega)]
theorem Rr{q:ah}{kind j:Int}(hc:∀k,k<b.ab.length→(gt b.ab k).Kind=kind→(gt b.ab k).B=j→gt q.al k=gt p.al k):cB b q kind j=cB b p kind j:=by
 unfold cB
 rw[find_congr (P:=gb b q kind j) (Q:=gb b p kind j) fun k hk=>by
  unfold gb
  cases h1:(gt b.ab k).Kind==kind with
  |false=>rfl
  |true=>
   cases h2:(gt b.ab k).B==j with
   |false=>rfl
   |true=>rw[hc k hk (by simpa using h1) (by simpa using h2)]]
theorem aib{q:ah}(hl:q.aa.length=p.aa.length)(hs:∀j,j<p.aa.length→(gt q.aa j).State=(gt p.aa j).State)(hc:∀k,k<b.ab.length→(gt b.ab k).Kind=2→gt q.al k=gt p.al k)(j:Int):conn b q j=conn b p j:=by
 unfold conn
 rw[hl]
 by_cases h:0≤j∧j≤(p.aa.length:Int)-1
 · rw[if_pos h,if_pos h,hs j.toNat (by omega),Rr fun k hk h2 _=>hc k hk h2]
 · rw[if_neg h,if_neg h]
structure jm(b:ak)(p q:ah):Prop where
 len:q.aa.length=p.aa.length
 st:∀j,j<p.aa.length→(gt q.aa j).State=(gt p.aa j).State
 cl:∀k,k<b.ab.length→(gt b.ab k).Kind≠3→gt q.al k=gt p.al k
theorem jm.bl{q:ah}(h:jm b p q):bl b q=bl b p:=agV fun k hk h1=>h.cl k hk (by omega)
theorem jm.conn{q:ah}(h:jm b p q)(j:Int):conn b q j=conn b p j:=aib h.len h.st (fun k hk h2=>h.cl k hk (by omega)) j
theorem jm.IC{q:ah}(h:jm b p q)(f:Nat):(cf b q f).aa=(cf b p f).aa∧(cf b q f).ai=(cf b p f).ai:=by
 unfold cf
 refine⟨?_, ?_⟩
 · show aZ (eF b q f) _=aZ (eF b p f) _
   congr 1
   funext j
   unfold eF
   rw[h.bl,h.conn]
 · show aZ (fw b q f) _=aZ (fw b p f) _
   congr 1
   funext j
   unfold fw
   rw[h.bl]
theorem jm.ofS{q:ah}(h:jm b p q)(hp:aH b p=0)(hq:aH b q=0)(k:Int):(bM b q k).1.aa=(bM b p k).1.aa:=by
 unfold bM
 by_cases c:0≤k∧k<b.ai
 · rw[if_pos ⟨hq,c⟩,if_pos ⟨hp,c⟩]
   show(aT b q k).aa=(aT b p k).aa
   unfold aT
   rw[h.bl]
   exact(h.IC _).1
 · rw[if_neg fun x=>c x.2,if_neg fun x=>c x.2]
theorem jm.pu{q:ah}(h:jm b p q)(hp:aH b p=0)(hq:aH b q=0)(k:Int):pu b q k=pu b p k:=by
 unfold Rx.pu
 rw[h.ofS hp hq]
theorem aaO(h:aH b p=0):jm b (fV b p) (p6 b p):=by
 obtain⟨s1,_⟩:=gF h
 refine⟨rfl,fun _ _=>rfl,fun k hk h3=> ?_⟩
 show gt (eG (fV b p).al _) k=_
 rw[lM (by show k<(eG p.al _).length;rw[gR];omega)]
 unfold dead
 rw[bW h3]
 simp
theorem aaN(h:aH b p=0):jm b p (mR b p):=⟨nE,fun j hj=>by rw[TR hj],fun _ _ _=>rfl⟩
theorem jm.trans{q r:ah}(h:jm b p q)(h':jm b q r):jm b p r:=⟨by rw[h'.len,h.len],fun j hj=>by rw[h'.st j (by rw[h.len];exact hj),h.st j hj],fun k hk h3=>by rw[h'.cl k hk h3,h.cl k hk h3]⟩
end
end Rx
namespace Rx
def mA(b:ak)(c:Int):Int:=(gt b.ae c.toNat).ij
def lN(b:ak)(x y:Int):Bool:=decide (mA b x<mA b y)
theorem abW{b:ak}{x y:Int}(hx:0≤x∧x<(b.ae.length:Int))(hy:0≤y∧y<(b.ae.length:Int)):∃c,DO x y b=some c∧decide (c<0)=lN b x y:=by
 unfold DO
 rw[eU hx.1 hx.2,eU hy.1 hy.2]
 simp only[Option.bind_some,MX]
 refine⟨_,rfl, ?_⟩
 unfold lN mA
 by_cases h1:(gt b.ae x.toNat).ij<(gt b.ae y.toNat).ij
 · rw[if_pos h1,dT h1];rfl
 · rw[if_neg h1,dF h1]
   split<;>rfl
theorem RM{b:ak}{n:Nat}(hn:n=b.ae.length)(FU:n≤1000):
  ∀(j:Nat) (d:List Int),j<n→Ok n (fun x=>0≤x∧x<(n:Int)) d→(∃k,k≤j∧jI (zz 0 b) k ((j:Int),d) (inner (lN b) j d))∧Ok n (fun x=>0≤x∧x<(n:Int)) (inner (lN b) j d)
 |0,d,hj,h=>by
  refine⟨⟨0,Nat.le_refl _,.done ?_⟩,h⟩
  simp[zz,inner]
 |j+1,d,hj,h=>by
  obtain⟨c,hc,hl⟩:=abW (b:=b) (by rw[←hn];exact Eu h hj) (by rw[←hn];exact Eu h (j:=j) (by omega))
  have hlen:=h.1
  have e1:W (((j+1:Nat):Int)-1)=(j:Int):=by rw[bO (by omega) (by omega)];omega
  have i1:idx d ((j+1:Nat):Int)=some (d.getD (j+1) 0):=Kk (by omega)
  have i2:idx d (j:Int)=some (d.getD j 0):=Kk (by omega)
  have s1:cG d ((j+1:Nat):Int) (d.getD j 0)=some (d.set (j+1) (d.getD j 0)):=fM (by omega) _
  have i3:idx (d.set (j+1) (d.getD j 0)) (j:Int)=some ((d.set (j+1) (d.getD j 0)).getD j 0):=Kk (by simp;omega)
  have s2:cG (d.set (j+1) (d.getD j 0)) (j:Int) (d.getD (j+1) 0)=some (swapAt d j):=fM (by simp;omega) _
  have nu:decide (((j+1:Nat):Int)>0)=true:=decide_eq_true (by omega)
  cases aQ:lN b (d.getD (j+1) 0) (d.getD j 0) with
  |true=>
   obtain⟨⟨k,hk,hr⟩,ho⟩:=RM hn FU j (swapAt d j) (by omega) (ab_ h hj)
   rw[inner,if_pos aQ]
   refine⟨⟨k+1,by omega,.more ?_ hr⟩,ho⟩
   rw[aQ] at hl
   simp only[zz,nu,if_true,i1,e1,i2,Option.bind_some,hc,hl,s1,i3,s2]
  |false=>
   have be:¬(lN b (d.getD (j+1) 0) (d.getD j 0)=true):=by rw[aQ];simp
   rw[inner,if_neg be]
   refine⟨⟨0,by omega,.done ?_⟩,h⟩
   rw[aQ] at hl
   simp only[zz,nu,if_true,i1,e1,i2,Option.bind_some,hc,hl]
   rfl
theorem QD{b:ak}{n:Nat}(hn:n=b.ae.length)(FU:n≤1000):
  ∀(m i:Nat) (d:List Int),m+i=n→Ok n (fun x=>0≤x∧x<(n:Int)) d→jI (vX 0 (n:Int) b) m ((i:Int),d) (outer (lN b) m i d)∧Ok n (fun x=>0≤x∧x<(n:Int)) (outer (lN b) m i d)
 |0,i,d,hi,h=>by
  refine⟨.done ?_,h⟩
  have:decide ((i:Int)<(n:Int))=false:=decide_eq_false (by omega)
  simp only[vX,outer,this,Bool.false_eq_true,if_false]
 |m+1,i,d,hi,h=>by
  obtain⟨⟨k,hk,hr⟩,ho⟩:=RM hn FU i d (by omega) h
  obtain⟨h1,h2⟩:=QD hn FU m (i+1) (inner (lN b) i d) (by omega) ho
  have hd:decide ((i:Int)<(n:Int))=true:=decide_eq_true (by omega)
  rw[outer]
  refine⟨.more ?_ h1,h2⟩
  simp only[vX,hd,if_true,mB hr (by omega),Option.bind_some,aX (show i<1000000000000000000 by omega)]
def eT(b:ak):List Int:=outer (lN b) (b.ae.length-1) 1 (ig b.ae.length)
theorem aal{b:ak}(hn:b.ae.length<20):Dq (ig b.ae.length) b=some (eT b):=by
 have hl:len (ig b.ae.length)=(b.ae.length:Int):=by unfold len;rw[xN]
 have uk:∀d,IJ (b.ae.length:Int) b (0,20,d)=some (.inr (0,d)):=fun d=>by
  simp only[IJ,dF (show ¬(20:Int)≤(b.ae.length:Int) by omega),Bool.false_eq_true,if_false]
 have xu:II (b.ae.length:Int) 20=some (.inr ()):=by
  simp only[II,dF (show ¬(20:Int)<(b.ae.length:Int) by omega),Bool.false_eq_true,if_false]
 have hw:W (0+1)=((1:Nat):Int):=by rw[bO (by omega) (by omega)];rfl
 have fS:aC (vX 0 (b.ae.length:Int) b) (((1:Nat):Int),ig b.ae.length)=some (eT b):=by
  by_cases h1:1≤b.ae.length
  · obtain⟨h2,h3⟩:=QD (b:=b) rfl (by omega) (b.ae.length-1) 1 (ig b.ae.length) (by omega) (ahz _)
    exact mB h2 (by omega)
  · have h0:b.ae.length=0:=by omega
    have:eT b=ig b.ae.length:=by unfold eT;rw[h0];rfl
    rw[this]
    refine mB (.done ?_) (Nat.zero_le _)
    simp only[vX,dF (show ¬((1:Nat):Int)<(b.ae.length:Int) by omega),Bool.false_eq_true,if_false]
 simp only[Dq,IK,hl,mB (.done (uk _)) (Nat.zero_le _),Option.bind_some,Dm,hw,fS,mB (.done xu) (Nat.zero_le _)]
theorem Ep(b:ak):(eT b).Pairwise (fun x y=>mA b x<mA b y∨mA b x=mA b y∧x<y)∧(eT b).Perm (ig b.ae.length):=by
 by_cases h1:1≤b.ae.length
 case neg=>
  have h0:b.ae.length=0:=by omega
  have e:eT b=[]:=by unfold eT;rw[h0];rfl
  rw[e,h0]
  exact⟨.nil,.refl _⟩
 have aQ:∀x y,lN b x y=true↔(fun c=> -mA b c) y<(fun c=> -mA b c) x:=fun x y=>by
  unfold lN
  rw[decide_eq_true_iff]
  simp only
  omega
 have e:eT b=((ig b.ae.length).foldl (fun a x=>ko (lN b) x a) []).reverse:=by
  unfold eT
  obtain⟨x,xs,hx⟩:∃x xs,ig b.ae.length=x::xs:=by
   cases hf:ig b.ae.length with
   |nil=>have:=xN b.ae.length;rw[hf] at this;simp at this;omega
   |cons x xs=>exact⟨x,xs,rfl⟩
  have hl:xs.length=b.ae.length-1:=by
   have:=xN b.ae.length
   rw[hx] at this
   simp at this
   omega
  have:=QC (lN b) xs [x]
  rw[hx,←hl]
  exact this
 have h:=TO aQ (ig b.ae.length) [] (TZ _) (by simp) (by simp)
 rw[e]
 refine⟨(List.pairwise_reverse.2 h.1).imp fun hb=> ?_,(List.reverse_perm _).trans (by simpa using h.2)⟩
 unfold CH at hb
 simp only at hb
 omega
theorem abY{b:ak}{c:Int}:c∈eT b↔0≤c∧c<(b.ae.length:Int):=by
 rw[(Ep b).2.mem_iff]
 unfold ig
 rw[List.mem_map]
 constructor
 · rintro⟨k,hk,rfl⟩
   have:=List.mem_range.1 hk
   simp;omega
 · rintro⟨h0,h1⟩
   exact⟨c.toNat,List.mem_range.2 (by omega),by simp;omega⟩
theorem abX(b:ak):(eT b).Nodup:=by
 rw[(Ep b).2.nodup_iff]
 exact(TZ _).imp fun h=>by omega
theorem wX(b:ak):(eT b).length=b.ae.length:=by rw[(Ep b).2.length_eq,xN]
theorem QH{b:ak}(hb:bL b)(h:jj b=0):zJ b=some (eT b):=by
 have hl:=(sL.1 h).1.eN
 unfold zJ
 rw[UF hb,h]
 simp only[Option.bind_some,bne_self_eq_false,Bool.false_eq_true,if_false]
 have e:aC (zI b) (0,[])=some (ig b.ae.length):=by
  have:=dP (step:=zI b) (r:=ig b.ae.length) (fun k=>((k:Int),ig k)) b.ae.length (fun k hk=>by
   unfold zI
   rw[dT (c:=(k:Int)<len b.ae) (by unfold len;omega),c_ (by simp[xN];omega),aX (by omega)]
   simp only[if_true,Option.bind_some]
   unfold ig
   rw[List.range_succ,List.map_append]
   rfl) (by
   unfold zI
   simp only[bA,Bool.false_eq_true,if_false]) (by omega)
  simpa[ig] using this
 rw[e]
 simp only[Option.bind_some,aal (b:=b) (by omega)]
def bP(b:ak)(x:aP):List Int:=(eT b).filter fun c=>decide (c∈x.ae)
theorem Qz{b:ak}{x:aP}(hx:∀c∈x.ae,0≤c∧c<(b.ae.length:Int)){c:Int}:c∈bP b x↔c∈x.ae:=by
 unfold bP
 rw[List.mem_filter,abY,decide_eq_true_iff]
 exact⟨fun h=>h.2,fun h=>⟨hx c h,h⟩⟩
theorem abU(b:ak)(x:aP):(bP b x).Nodup:=(abX b).sublist List.filter_sublist
theorem abV(b:ak)(x:aP):(bP b x).length≤b.ae.length:=by
 have:=List.length_filter_le (fun c=>decide (c∈x.ae)) (eT b)
 rw[wX] at this
 exact this
theorem J6{x:aP}{c:Int}(hx:Sm x.ae):wj c x=some (!decide (c∈x.ae)):=by
 unfold wj
 rw[contains_eq hx]
 rfl
theorem ZP{l:List Int}{i:Nat}{x:Int}(h:i<l.length):(l.set i x).take (i+1)=l.take i++[x]:=by
 rw[gN (by simpa using h),dI h,if_pos rfl]
 congr 1
 refine fi (by simp) fun k hk=> ?_
 have bB:k<i:=by simp at hk;omega
 rw[ep (by simp;omega),ep (by simp;omega)]
 simp[List.getElem_set]
 omega
theorem Ul{x:aP}(hx:Sm x.ae){l:List Int}(hl:l.length≤1000):zE l x=some (l.filter fun c=>decide (c∈x.ae)):=by
 unfold zE Dv
 have h1:=km (step:=v7 l x) (fun k=>(k:Int)) l.length (fun k=> !decide (gt l k∈x.ae)) (R:=fun k=> .inr (k:Int)) (e:= .inl ()) (fun k hk hp=>by
  unfold v7
  simp only[aU hk,if_true,aD hk,Option.bind_some,J6 hx,hp,Bool.false_eq_true,if_false]
  rw[aX (by omega)]) (fun k hk hp=>by
  unfold v7
  simp only[aU hk,if_true,aD hk,Option.bind_some,J6 hx,hp]) (by
  unfold v7
  simp only[bA,Bool.false_eq_true,if_false]) (by omega)
 simp only[show((0:Nat):Int)=0 from rfl] at h1
 rw[h1]
 cases hf:(List.range l.length).find? (fun k=> !decide (gt l k∈x.ae)) with
 |none=>
  have iF:∀c∈l,decide (c∈x.ae)=true:=fun c hc=>by
   obtain⟨k,hk,rfl⟩:=jO hc
   have:=List.find?_eq_none.1 hf k (List.mem_range.2 hk)
   simpa using this
  simp only[Option.bind_some,Sum.elim_inl]
  rw[List.filter_eq_self.2 iF]
  rfl
 |some s=>
  have hs:=List.mem_range.1 (List.mem_of_find?_eq_some hf)
  simp only[Option.bind_some,Sum.elim_inr]
  rw[bW (by omega),aX (by omega)]
  simp only[Bool.false_eq_true,if_false]
  have xy:∀k,k<s→decide (gt l k∈x.ae)=true:=fun k hk=>by
   obtain⟨_,NR,bs,h2,h3⟩:=List.find?_eq_some_iff_append.1 hf
   have lh:NR.length=s:=by
    have h4:(List.range l.length)[NR.length]? =some s:=by rw[h2];simp
    rw[List.getElem?_range (by
     have:=congrArg List.length h2
     simp at this
     omega)] at h4
    exact Option.some.inj h4
   have fh:k∈NR:=by
    have h4:(List.range l.length)[k]? =some k:=List.getElem?_range (by omega)
    rw[h2,List.getElem?_append_left (by omega)] at h4
    exact List.mem_of_getElem? h4
   have:=h3 k fh
   simpa using this
  have xv:decide (gt l s∈x.ae)=false:=by
   have:=(List.find?_eq_some_iff_append.1 hf).1
   simpa using this
  have qL:Wp (aC (zD x) ((s:Int),((s+1:Nat):Int),l)) fun r=>∃n:Nat,r.1=(n:Int)∧n≤r.2.length∧r.2.length=l.length∧r.2.take n=l.filter fun c=>decide (c∈x.ae):=by
   refine hG (l.length-(s+1)) (fun t st=>∃n:Nat,st.1=(n:Int)∧st.2.1=((s+1+t:Nat):Int)∧n<s+1+t∧st.2.2.length=l.length∧st.2.2.take n=(l.take (s+1+t)).filter (fun c=>decide (c∈x.ae))∧∀k,s+1+t≤k→k<l.length→gt st.2.2 k=gt l k) ⟨s,rfl,rfl,by omega,rfl, ?_,fun _ _ _=>rfl⟩ (fun t st ht hv=> ?_) (fun st hv=> ?_) (by omega)
   · simp only[Nat.add_zero]
     rw[gN hs,List.filter_append]
     have:(l.take s).filter (fun c=>decide (c∈x.ae))=l.take s:=List.filter_eq_self.2 fun c hc=>by
      obtain⟨k,hk,rfl⟩:=jO hc
      rw[List.length_take] at hk
      have:gt (l.take s) k=gt l k:=by
       rw[ep (by rw[List.length_take];exact hk),ep (by omega)];simp
      rw[this]
      exact xy k (by omega)
     rw[this]
     simp[xv]
   · obtain⟨m,z,c⟩:=st
     obtain⟨n,rfl,rfl,hn,lV,qH,pC⟩:=hv
     simp only at lV qH pC
     have hk:s+1+t<l.length:=by omega
     have hgk:=pC (s+1+t) (Nat.le_refl _) hk
     unfold zD
     simp only[aU (l:=c) (k:=s+1+t) (by omega),if_true,aD (l:=c) (k:=s+1+t) (by omega),hgk,Option.bind_some,J6 hx,Bool.not_not]
     rw[aX (k:=s+1+t) (by omega)]
     cases hp:decide (gt l (s+1+t)∈x.ae) with
     |true=>
      simp only[if_true,aD (l:=c) (k:=n) (by omega),Option.bind_some,fM (xs:=c) (j:=n) (by omega)]
      rw[aX (by omega)]
      refine ay.2 ⟨n+1,rfl,rfl,by omega,by simp[lV], ?_,fun k h1 h2=> ?_⟩
      · simp only
        rw[ZP (by omega),qH,show s+1+(t+1)=(s+1+t)+1 by omega,gN hk,List.filter_append]
        simp[hp]
      · simp only
        rw[dI (by omega),if_neg (by omega)]
        exact pC k (by omega) h2
     |false=>
      simp only[Bool.false_eq_true,if_false,Option.bind_some]
      refine ay.2 ⟨n,rfl,rfl,by omega,lV, ?_,fun k h1 h2=>pC k (by omega) h2⟩
      simp only
      rw[qH,show s+1+(t+1)=(s+1+t)+1 by omega,gN hk,List.filter_append]
      simp[hp]
   · obtain⟨m,z,c⟩:=st
     obtain⟨n,rfl,rfl,hn,lV,qH,pC⟩:=hv
     simp only at lV qH
     unfold zD
     rw[show s+1+(l.length-(s+1))=c.length by omega]
     simp only[bA,Bool.false_eq_true,if_false]
     refine ay.2 ⟨n,rfl,(by show n≤c.length;omega),lV, ?_⟩
     simp only
     rw[qH,show s+1+(l.length-(s+1))=l.length by omega,List.take_length]
  obtain⟨⟨m,c⟩,e,n,rfl,hn,lV,qH⟩:=qL
  simp only at hn lV qH
  rw[e]
  have e1:dw c (n:Int) (len c)=some (c.drop n):=PI hn
  have cg:(mU 0 c (n:Int)).length=c.length:=by unfold mU;simp;omega
  have e2:dw (mU 0 c (n:Int)) 0 (n:Int)=some ((mU 0 c (n:Int)).take n):=zH (by omega)
  have e3:(mU 0 c (n:Int)).take n=c.take n:=by
   unfold mU
   rw[List.take_append_of_le_length (by simp;omega),List.take_take,Int.toNat_natCast,Nat.min_self]
  simp only[Option.bind_some,e1,e2,e3,qH]
end Rx
end Go.Proofs.YtaneejpkncdodaaGreat
