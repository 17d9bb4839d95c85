import Derived.Test.YtaneejpkncdodaaGreatPg
import Derived.Test.YtaneejpkncdodaaGreatRz
set_option linter.unusedVariables false
set_option linter.unusedSimpArgs false
noncomputable section
namespace Go.Proofs.YtaneejpkncdodaaGreat
open Go Go.RowKit Dp
namespace Rx
open Classical
theorem has_eq{l:List Int}{x:Int}(hl:Sm l):oO l x=some (decide (x∈l)):=by
 unfold oO
 have h:=kn (step:=oN l x) (fun k=>(k:Int)) l.length (fun k=>gt l k=x) (r:= .inr true) (e:= .inl ())
  (fun k hk hp=>by simp only[oN,aU hk,if_true,aD hk,Option.bind_some,Sum.elim_inl,Sum.elim_inr,a_,bW hp,Bool.false_eq_true,if_false,aX (cN hl hk)])
  (fun k hk hp=>by simp only[oN,aU hk,if_true,aD hk,Option.bind_some,Sum.elim_inl,Sum.elim_inr,a_,dU hp])
  (by simp only[oN,bA,Bool.false_eq_true,if_false])
 have h':aC (oN l x) 0=_:=h
 rw[h']
 by_cases he:x∈l
 · rw[if_pos (EH.1 he)];simp[he]
 · rw[if_neg (fun hh=>he (EH.2 hh))];simp[he]
theorem adC{l:List Int}{x:Int}(hl:Sm l):∃j:Int,Dt l x=some j∧(0≤j↔x∈l):=by
 have h:=km (step:=vY l x) (fun k=>(k:Int)) l.length (fun k=>x==gt l k) (R:=fun k=> .inr (k:Int)) (e:= .inl ())
  (fun k hk hp=>by simp only[vY,aU hk,if_true,aD hk,Option.bind_some,Sum.elim_inl,Sum.elim_inr,a_,hp,Bool.false_eq_true,if_false,aX (cN hl hk)])
  (fun k hk hp=>by simp only[vY,aU hk,if_true,aD hk,Option.bind_some,Sum.elim_inl,Sum.elim_inr,a_,hp])
  (by simp only[vY,bA,Bool.false_eq_true,if_false])
 have h':aC (vY l x) 0=_:=h
 unfold Dt
 rw[h']
 cases hf:(List.range l.length).find? (fun k=>x==gt l k) with
 |none=>
  refine⟨-1,by simp,by omega,fun hx=> ?_⟩
  obtain⟨k,hk,e⟩:=jO hx
  have:=List.find?_eq_none.1 hf k (List.mem_range.2 hk)
  simp[e] at this
 |some k=>
  have hk:=List.mem_range.1 (List.mem_of_find?_eq_some hf)
  have hp:=List.find?_some hf
  refine⟨k,by simp,fun _=> ?_,fun _=>by omega⟩
  have e:x=gt l k:=by simpa using hp
  rw[e]
  exact cr hk
theorem contains_eq{l:List Int}{x:Int}(hl:Sm l):nW l x=some (decide (x∈l)):=by
 obtain⟨j,h1,h2⟩:=adC (x:=x) hl
 unfold nW
 rw[h1]
 simp only[Option.bind_some,Option.some.injEq,decide_eq_decide]
 exact h2
theorem mE(a b c:Int):gl a b c=some (decide (b≤a∧a≤c)):=by
 unfold gl
 by_cases h:b≤a<;>simp[h]
theorem aaq(x:Source):Cc x=some (decide ((1≤x.df∧x.df≤50000)∧(0≤x.cF∧x.cF≤x.df)∧0≤x.Start∧x.Start≤600)):=by
 unfold Cc
 simp only[mE,Option.bind_some,Sum.elim_inl,Sum.elim_inr,a_]
 by_cases h1:1≤x.df∧x.df≤50000<;>by_cases h2:0≤x.cF∧x.cF≤x.df<;>simp[h1,h2]
theorem aaR(x:az):Hf x=some (decide ((0≤x.State∧x.State≤3)∧(0≤x.eD∧x.eD≤2147483648)∧(0≤x.aB∧x.aB≤6000)∧0≤x.aG∧x.aG≤3599)):=by
 unfold Hf
 simp only[mE,Option.bind_some,Sum.elim_inl,Sum.elim_inr,a_]
 by_cases h1:0≤x.State∧x.State≤3<;>by_cases h2:0≤x.eD∧x.eD≤2147483648<;>by_cases h3:0≤x.aB∧x.aB≤6000<;>simp[h1,h2,h3]
def HO(l:List Int)(k:Nat):Prop:=∀i,i<l.length→(0≤gt l i∧gt l i≤(k:Int)-1)∧(0<i→gt l (i-1)<gt l i)
def iG(x:Consumer)(k:Nat):Prop:=HO x.bK k∧(0≤x.cX∧x.cX≤50000)∧(0≤x.cF∧x.cF≤x.cX)∧(0≤x.ij∧x.ij≤15)∧(-1≤x.j7∧x.j7≤7)∧x.bK.length≤4
theorem ah'{x:Consumer}{k:Nat}(hl:Sm x.bK)(hk:k≤1000000):Hh x (k:Int)=some (decide (iG x k)):=by
 have e0:W ((k:Int)-1)=(k:Int)-1:=bO (by omega) (by omega)
 have h:=kn (step:=yD x (k:Int)) (fun i=>(i:Int)) x.bK.length (fun i=>¬((0≤gt x.bK i∧gt x.bK i≤(k:Int)-1)∧(0<i→gt x.bK (i-1)<gt x.bK i))) (r:= .inr false) (e:= .inl ())
  (fun i hi hp=>by
    obtain⟨h1,h2⟩:=Classical.not_not.1 hp
    simp only[yD,aU hi,if_true,aD hi,Option.bind_some,Sum.elim_inl,Sum.elim_inr,a_,mE,e0,dT h1,Bool.not_true,Bool.false_eq_true,if_false]
    by_cases ix:0<i
    · have h3:=h2 ix
      rw[dT (c:=(i:Int)>0) (by omega)]
      simp only[if_true,qc (cN hl hi) ix,aD (show i-1<x.bK.length by omega),Option.bind_some,Sum.elim_inl,Sum.elim_inr,a_,dF (c:=gt x.bK (i-1)≥gt x.bK i) (by omega),Bool.false_eq_true,if_false,aX (cN hl hi)]
    · rw[dF (c:=(i:Int)>0) (by omega)]
      simp only[Bool.false_eq_true,if_false,Option.bind_some,Sum.elim_inl,Sum.elim_inr,a_,aX (cN hl hi)])
  (fun i hi hp=>by
    simp only[yD,aU hi,if_true,aD hi,Option.bind_some,Sum.elim_inl,Sum.elim_inr,a_,mE,e0]
    by_cases h1:0≤gt x.bK i∧gt x.bK i≤(k:Int)-1
    · have h2:0<i∧gt x.bK i≤gt x.bK (i-1):=by
       by_cases ix:0<i
       · refine⟨ix,Int.not_lt.1 fun h=>hp ⟨h1,fun _=>h⟩⟩
       · exact(hp ⟨h1,fun h=>(ix h).elim⟩).elim
      rw[dT h1,dT (c:=(i:Int)>0) (by omega)]
      simp only[Bool.not_true,Bool.false_eq_true,if_false,if_true,qc (cN hl hi) h2.1,aD (show i-1<x.bK.length by omega),Option.bind_some,Sum.elim_inl,Sum.elim_inr,a_,dT (c:=gt x.bK (i-1)≥gt x.bK i) (by omega)]
    · rw[dF h1]
      simp only[Bool.not_false,if_true,Option.bind_some,Sum.elim_inl,Sum.elim_inr,a_])
  (by simp only[yD,bA,Bool.false_eq_true,if_false])
 have h':aC (yD x (k:Int)) 0=_:=h
 unfold Hh
 rw[h']
 by_cases hn:HO x.bK k
 · rw[if_neg (by rintro⟨i,hi,hp⟩;exact hp (hn i hi))]
   simp only[Option.bind_some,Sum.elim_inl,Sum.elim_inr,a_,mE]
   have e5:decide (len x.bK≤4)=decide (x.bK.length≤4):=by rw[decide_eq_decide];unfold len;omega
   rw[e5]
   unfold iG
   by_cases h1:0≤x.cX∧x.cX≤50000<;>by_cases h2:0≤x.cF∧x.cF≤x.cX<;>by_cases h3:0≤x.ij∧x.ij≤15<;>by_cases h4: -1≤x.j7∧x.j7≤7<;>simp[hn,h1,h2,h3,h4]
 · have:∃i,i<x.bK.length∧¬((0≤gt x.bK i∧gt x.bK i≤(k:Int)-1)∧(0<i→gt x.bK (i-1)<gt x.bK i)):=by
    apply Classical.byContradiction
    intro hh
    exact hn fun i hi=>Classical.byContradiction fun h=>hh ⟨i,hi,h⟩
   rw[if_pos this]
   have hc:¬iG x k:=fun h=>hn h.1
   simp[hc]
def ft(x:aI)(j:Nat):Prop:=x.Kind=2∧x.B=(j:Int)
def kY(x:aI)(j:Nat):Prop:=x.Kind=3∧x.B=(j:Int)
def vD(b:ak)(k:Nat):Prop:=
 (0≤(gt b.ab k).A∧(gt b.ab k).A≤b.ai-1)∧
 (((gt b.ab k).Kind=1∧(gt b.ab k).A+1≤(gt b.ab k).B∧(gt b.ab k).B≤b.ai-1)∨
  ((gt b.ab k).Kind=2∧(0≤(gt b.ab k).B∧(gt b.ab k).B≤(b.aa.length:Int)-1)∧∀i,i<k→¬((gt b.ab i).Kind=2∧(gt b.ab i).B=(gt b.ab k).B))∨
  ((gt b.ab k).Kind=3∧(0≤(gt b.ab k).B∧(gt b.ab k).B≤(b.ae.length:Int)-1)∧∀i,i<k→¬((gt b.ab i).Kind=3∧(gt b.ab i).B=(gt b.ab k).B∧(gt b.ab i).A=(gt b.ab k).A)))
def bj(b:ak):Prop:=(∀k,k<b.ab.length→vD b k)∧(∀j,j<b.aa.length→∃k,k<b.ab.length∧ft (gt b.ab k) j)∧(∀j,j<b.ae.length→∃k,k<b.ab.length∧kY (gt b.ab k) j)
def q7(b:ak)(k j:Nat):Nat:=((b.ab.take k).filter fun x=>decide (ft x j)).length
def jD(b:ak)(k j:Nat):List Int:=((b.ab.take k).filter fun x=>decide (kY x j)).map (·.A)
def dN(b:ak)(k:Nat):List Int:=(List.range b.aa.length).map fun j=>(q7 b k j:Int)
def dp(b:ak)(k:Nat):List (List Int):=(List.range b.ae.length).map fun j=>jD b k j
theorem MY{b:ak}{k j:Nat}(hk:k<b.ab.length):q7 b (k+1) j=q7 b k j+if ft (gt b.ab k) j then 1 else 0:=by
 unfold q7
 rw[gN hk,List.filter_append,List.length_append]
 by_cases h:ft (gt b.ab k) j<;>simp[h]
theorem NH{b:ak}{k j:Nat}(hk:k<b.ab.length):jD b (k+1) j=jD b k j++if kY (gt b.ab k) j then [(gt b.ab k).A] else []:=by
 unfold jD
 rw[gN hk,List.filter_append,List.map_append]
 by_cases h:kY (gt b.ab k) j<;>simp[h]
theorem tT{α:Type}[ad α]{l:List α}{k:Nat}(hk:k≤l.length){x:α}:x∈l.take k↔∃i,i<k∧gt l i=x:=by
 constructor
 · intro h
   obtain⟨i,hi,e⟩:=List.getElem_of_mem h
   have cq:i<k:=by simp at hi;omega
   refine⟨i,cq, ?_⟩
   rw[ep (by omega),←e]
   simp
 · rintro⟨i,hi,rfl⟩
   rw[ep (by omega)]
   exact List.mem_take_iff_getElem.2 ⟨i,by omega,rfl⟩
theorem Gz{b:ak}{k j:Nat}(hk:k≤b.ab.length):q7 b k j=0↔∀i,i<k→¬ft (gt b.ab i) j:=by
 unfold q7
 rw[List.length_eq_zero_iff,List.filter_eq_nil_iff]
 constructor
 · intro h i hi hs
   exact h _ ((tT hk).2 ⟨i,hi,rfl⟩) (by simpa using hs)
 · intro h x hx hs
   obtain⟨i,hi,rfl⟩:=(tT hk).1 hx
   exact h i hi (by simpa using hs)
theorem EI{b:ak}{k j:Nat}(hk:k≤b.ab.length){a:Int}:a∈jD b k j↔∃i,i<k∧kY (gt b.ab i) j∧(gt b.ab i).A=a:=by
 unfold jD
 rw[List.mem_map]
 constructor
 · rintro⟨x,hx,rfl⟩
   rw[List.mem_filter] at hx
   obtain⟨i,hi,rfl⟩:=(tT hk).1 hx.1
   exact⟨i,hi,by simpa using hx.2,rfl⟩
 · rintro⟨i,hi,hc,rfl⟩
   exact⟨_,List.mem_filter.2 ⟨(tT hk).2 ⟨i,hi,rfl⟩,by simpa using hc⟩,rfl⟩
theorem Xf{b:ak}{k j:Nat}(hk:k≤b.ab.length):(jD b k j).length≤k:=by
 unfold jD
 rw[List.length_map]
 refine Nat.le_trans (List.length_filter_le _ _) ?_
 simp;omega
structure dL(b:ak):Prop where
 ew:1≤b.ai∧b.ai≤6
 b_:b.ab.length≤24
 src:b.aa.length≤8
 eN:b.ae.length≤16
theorem ak6{b:ak}(hl:dL b):aC (vo b) ((0:Int),dN b 0,dp b 0)=some (if ∃k,k<b.ab.length∧¬vD b k then .inr false else .inl (dN b b.ab.length,dp b b.ab.length)):=by
 have hb:=hl.ew
 have iE:=hl.b_
 have iN:=hl.src
 have xI:=hl.eN
 have eB:W (b.ai-1)=b.ai-1:=bO (by omega) (by omega)
 have iy:=kn (step:=vo b) (fun k=>((k:Int),dN b k,dp b k)) b.ab.length (fun k=>¬vD b k) (r:= .inr false) (e:= .inl (dN b b.ab.length,dp b b.ab.length)) ?nx ?ht (by simp only[vo,bA,Bool.false_eq_true,if_false])
 exact iy.trans (by congr)
 case nx=>
  intro k hk hp
  obtain⟨hA,hB⟩:=Classical.not_not.1 hp
  have hs:k<1000000000000000000:=by omega
  have eS:len (dN b k)=(b.aa.length:Int):=by simp[len,dN]
  have eC:len (dp b k)=(b.ae.length:Int):=by simp[len,dp]
  have MD:W ((b.aa.length:Int)-1)=(b.aa.length:Int)-1:=bO (by omega) (by omega)
  have ME:W ((b.ae.length:Int)-1)=(b.ae.length:Int)-1:=bO (by omega) (by omega)
  have u4:W ((gt b.ab k).A+1)=(gt b.ab k).A+1:=bO (by omega) (by omega)
  simp only[vo,aU hk,if_true,aD hk,Option.bind_some,Sum.elim_inl,Sum.elim_inr,a_,mE,eB,u4,eS,eC,MD,ME,dT hA,Bool.not_true,Bool.false_eq_true,if_false]
  rcases hB with⟨h1,h2⟩|⟨h1,h2,h3⟩|⟨h1,h2,h3⟩
  · have n1:∀j,¬ft (gt b.ab k) j:=fun j h=>by have:=h.1;omega
    have n2:∀j,¬kY (gt b.ab k) j:=fun j h=>by have:=h.1;omega
    have f1:dN b (k+1)=dN b k:=List.map_congr_left fun j _=>by rw[MY hk,if_neg (n1 j)];rfl
    have f2:dp b (k+1)=dp b k:=List.map_congr_left fun j _=>by rw[NH hk,if_neg (n2 j)];simp
    simp only[dU h1,if_true,dT h2,Option.bind_some,Sum.elim_inl,Sum.elim_inr,a_,aX hs,f1,f2]
  · have hj:(gt b.ab k).B=((gt b.ab k).B.toNat:Int):=by omega
    generalize (gt b.ab k).B.toNat=j at hj
    rw[hj] at h2 h3
    have bZ:j<b.aa.length:=by omega
    have hz:q7 b k j=0:=(Gz (by omega)).2 fun i hi h=>h3 i hi h
    have hg:gt (dN b k) j=0:=by unfold dN;rw[fU _ bZ,hz];rfl
    have lh:(dN b k).length=b.aa.length:=by simp[dN]
    have n2:∀j,¬kY (gt b.ab k) j:=fun j h=>by have:=h.1;omega
    have f2:dp b (k+1)=dp b k:=List.map_congr_left fun j _=>by rw[NH hk,if_neg (n2 j)];simp
    have f1:(dN b k).set j (W (0+1))=dN b (k+1):=by
     apply fi
     · simp[dN]
     · intro i hi
       have cq:i<b.aa.length:=by simpa[dN] using hi
       rw[dI (by omega)]
       unfold dN
       rw[fU _ cq,fU _ cq,MY hk]
       by_cases dQ:i=j
       · subst dQ
         rw[if_pos rfl,if_pos ⟨h1,hj⟩,hz]
         rfl
       · rw[if_neg dQ,if_neg (fun h=>dQ (by have:=h.2;omega))]
         rfl
    have k1:((gt b.ab k).Kind==1)=false:=bW (by omega)
    simp only[k1,dU h1,if_true,if_false,Bool.false_eq_true,Option.bind_some,Sum.elim_inl,Sum.elim_inr,a_,hj,dT h2,aD (show j<(dN b k).length by omega),hg,beq_self_eq_true,fM (show j<(dN b k).length by omega),f1,f2,aX hs]
  · have hj:(gt b.ab k).B=((gt b.ab k).B.toNat:Int):=by omega
    generalize (gt b.ab k).B.toNat=j at hj
    rw[hj] at h2 h3
    have bZ:j<b.ae.length:=by omega
    have uy:(gt b.ab k).A∉jD b k j:=fun h=>by
     obtain⟨i,hi,hc,ha⟩:=(EI (by omega)).1 h
     exact h3 i hi ⟨hc.1,hc.2,ha⟩
    have hg:gt (dp b k) j=jD b k j:=by unfold dp;rw[fU _ bZ]
    have lh:(dp b k).length=b.ae.length:=by simp[dp]
    have al8:(dp b (k+1)).length=b.ae.length:=by simp[dp]
    have ss:=Xf (b:=b) (k:=k) (j:=j) (by omega)
    have n1:∀j,¬ft (gt b.ab k) j:=fun j h=>by have:=h.1;omega
    have f1:dN b (k+1)=dN b k:=List.map_congr_left fun j _=>by rw[MY hk,if_neg (n1 j)];rfl
    have f2:(dp b k).set j (jD b k j++[(gt b.ab k).A])=dp b (k+1):=by
     apply fi
     · simp[dp]
     · intro i hi
       have cq:i<b.ae.length:=by simpa[dp] using hi
       rw[dI (by omega)]
       unfold dp
       rw[fU _ cq,fU _ cq,NH hk]
       by_cases dQ:i=j
       · subst dQ
         rw[if_pos rfl,if_pos ⟨h1,hj⟩]
       · rw[if_neg dQ,if_neg (fun h=>dQ (by have:=h.2;omega))]
         simp
    have k1:((gt b.ab k).Kind==1)=false:=bW (by omega)
    have k2:((gt b.ab k).Kind==2)=false:=bW (by omega)
    have de:Sm (jD b k j):=by unfold Sm;omega
    simp only[k1,k2,dU h1,if_true,if_false,Bool.false_eq_true,Option.bind_some,Sum.elim_inl,Sum.elim_inr,a_,hj,dT h2,aD (show j<(dp b k).length by omega),hg,contains_eq de,dF uy,aD (show j<(dp b (k+1)).length by omega),Bool.not_false,c_ (show(jD b k j).length+[(gt b.ab k).A].length≤1073741824 by simp;omega),fM (show j<(dp b k).length by omega),f1,f2,aX hs]
 case ht=>
  intro k hk hp
  have hs:k<1000000000000000000:=by omega
  have eS:len (dN b k)=(b.aa.length:Int):=by simp[len,dN]
  have eC:len (dp b k)=(b.ae.length:Int):=by simp[len,dp]
  have MD:W ((b.aa.length:Int)-1)=(b.aa.length:Int)-1:=bO (by omega) (by omega)
  have ME:W ((b.ae.length:Int)-1)=(b.ae.length:Int)-1:=bO (by omega) (by omega)
  by_cases hA:0≤(gt b.ab k).A∧(gt b.ab k).A≤b.ai-1
  · have u4:W ((gt b.ab k).A+1)=(gt b.ab k).A+1:=bO (by omega) (by omega)
    simp only[vo,aU hk,if_true,aD hk,Option.bind_some,Sum.elim_inl,Sum.elim_inr,a_,mE,eB,u4,eS,eC,MD,ME,dT hA,Bool.not_true,Bool.false_eq_true,if_false]
    by_cases k1:(gt b.ab k).Kind=1
    · have h2:¬((gt b.ab k).A+1≤(gt b.ab k).B∧(gt b.ab k).B≤b.ai-1):=fun h=>hp ⟨hA,.inl ⟨k1,h⟩⟩
      have k2:((gt b.ab k).Kind==2)=false:=bW (by omega)
      have k3:((gt b.ab k).Kind==3)=false:=bW (by omega)
      simp only[dU k1,k2,k3,if_true,if_false,Bool.false_eq_true,dF h2,Option.bind_some,Sum.elim_inl,Sum.elim_inr,a_]
    · by_cases k2:(gt b.ab k).Kind=2
      · have k3:((gt b.ab k).Kind==3)=false:=bW (by omega)
        by_cases h2:0≤(gt b.ab k).B∧(gt b.ab k).B≤(b.aa.length:Int)-1
        · have hj:(gt b.ab k).B=((gt b.ab k).B.toNat:Int):=by omega
          have bZ:(gt b.ab k).B.toNat<b.aa.length:=by omega
          have be:gt (dN b k) (gt b.ab k).B.toNat≠0:=by
           unfold dN
           rw[fU _ bZ]
           intro h0
           have hz:q7 b k (gt b.ab k).B.toNat=0:=by omega
           refine hp ⟨hA,.inr (.inl ⟨k2,h2,fun i hi h=>(Gz (by omega)).1 hz i hi ⟨h.1,by rw[h.2];exact hj⟩⟩)⟩
          have lh:(dN b k).length=b.aa.length:=by simp[dN]
          simp only[bW k1,dU k2,k3,if_true,if_false,Bool.false_eq_true,dT h2,Option.bind_some,Sum.elim_inl,Sum.elim_inr,a_,eU h2.1 (show(gt b.ab k).B<((dN b k).length:Int) by omega),bW be]
        · simp only[bW k1,dU k2,k3,if_true,if_false,Bool.false_eq_true,dF h2,Option.bind_some,Sum.elim_inl,Sum.elim_inr,a_]
      · by_cases k3:(gt b.ab k).Kind=3
        · by_cases h2:0≤(gt b.ab k).B∧(gt b.ab k).B≤(b.ae.length:Int)-1
          · have hj:(gt b.ab k).B=((gt b.ab k).B.toNat:Int):=by omega
            have bZ:(gt b.ab k).B.toNat<b.ae.length:=by omega
            have hg:gt (dp b k) (gt b.ab k).B.toNat=jD b k (gt b.ab k).B.toNat:=by unfold dp;rw[fU _ bZ]
            have fh:(gt b.ab k).A∈jD b k (gt b.ab k).B.toNat:=by
             apply Classical.byContradiction
             intro hn
             refine hp ⟨hA,.inr (.inr ⟨k3,h2,fun i hi h=>hn ((EI (by omega)).2 ⟨i,hi,⟨h.1,by rw[h.2.1];exact hj⟩,h.2.2⟩)⟩)⟩
            have lh:(dp b k).length=b.ae.length:=by simp[dp]
            have ss:=Xf (b:=b) (k:=k) (j:=(gt b.ab k).B.toNat) (by omega)
            have de:Sm (jD b k (gt b.ab k).B.toNat):=by unfold Sm;omega
            simp only[bW k1,bW k2,dU k3,if_true,if_false,Bool.false_eq_true,dT h2,Option.bind_some,Sum.elim_inl,Sum.elim_inr,a_,eU h2.1 (show(gt b.ab k).B<((dp b k).length:Int) by omega),hg,contains_eq de,dT fh,Bool.not_true]
          · simp only[bW k1,bW k2,dU k3,if_true,if_false,Bool.false_eq_true,dF h2,Option.bind_some,Sum.elim_inl,Sum.elim_inr,a_]
        · simp only[bW k1,bW k2,bW k3,if_false,Bool.false_eq_true,Option.bind_some,Sum.elim_inl,Sum.elim_inr,a_]
  · simp only[vo,aU hk,if_true,aD hk,Option.bind_some,Sum.elim_inl,Sum.elim_inr,a_,mE,eB,dF hA,Bool.not_false]
end Rx
namespace Rx
open Classical
theorem Og{b:ak}:(0:Int)∈dN b b.ab.length↔∃j,j<b.aa.length∧∀k,k<b.ab.length→¬ft (gt b.ab k) j:=by
 unfold dN
 rw[List.mem_map]
 constructor
 · rintro⟨j,hj,h⟩
   exact⟨j,List.mem_range.1 hj,(Gz (Nat.le_refl _)).1 (by omega)⟩
 · rintro⟨j,hj,h⟩
   exact⟨j,List.mem_range.2 hj,by rw[(Gz (Nat.le_refl _)).2 h];rfl⟩
theorem ah_{l:List (List Int)}(hl:Sm l):DE l=some (decide (∃k,k<l.length∧gt l k=[])):=by
 have h:=km (step:=v8 l) (fun k=>(k:Int)) l.length (fun k=>(len (gt l k)==0)) (R:=fun k=> .inr (k:Int)) (e:= .inl ())
  (fun k hk hp=>by simp only[v8,Hl,aU hk,if_true,aD hk,Option.bind_some,Option.bind_fun_some,Sum.elim_inl,Sum.elim_inr,a_,hp,Bool.false_eq_true,if_false,aX (cN hl hk)])
  (fun k hk hp=>by simp only[v8,Hl,aU hk,if_true,aD hk,Option.bind_some,Option.bind_fun_some,Sum.elim_inl,Sum.elim_inr,a_,hp])
  (by simp only[v8,bA,Bool.false_eq_true,if_false])
 have h':aC (v8 l) 0=_:=h
 unfold DE IP
 rw[h']
 have hz:∀k,(len (gt l k)==0)=true↔gt l k=[]:=fun k=>by simp[len]
 cases hf:(List.range l.length).find? (fun k=>(len (gt l k)==0)) with
 |none=>
  have:¬∃k,k<l.length∧gt l k=[]:=fun⟨k,hk,e⟩=>by
   have:=List.find?_eq_none.1 hf k (List.mem_range.2 hk)
   exact this ((hz k).2 e)
  simp[this]
 |some k=>
  have hk:=List.mem_range.1 (List.mem_of_find?_eq_some hf)
  have hp:=(hz k).1 (List.find?_some (p:=fun k=>(len (gt l k)==0)) hf)
  have:∃k,k<l.length∧gt l k=[]:=⟨k,hk,hp⟩
  simp[this]
theorem ak7{b:ak}(hl:dL b):Hm b=some (decide (bj b)):=by
 have iE:=hl.b_
 have iN:=hl.src
 have xI:=hl.eN
 have e1:ki (0:Int) (len b.aa)=some (dN b 0):=by
  rw[Rm,Aw (by omega)]
  congr 1
  apply fi
  · simp[dN]
  · intro k hk
    have bB:k<b.aa.length:=by simpa using hk
    rw[By bB]
    unfold dN
    rw[fU _ bB]
    simp[q7]
 have e2:ki ([]:List Int) (len b.ae)=some (dp b 0):=by
  rw[Rm,Aw (by omega)]
  congr 1
  apply fi
  · simp[dp]
  · intro k hk
    have bB:k<b.ae.length:=by simpa using hk
    rw[By bB]
    unfold dp
    rw[fU _ bB]
    simp[jD]
 have qL:=ak6 hl
 unfold Hm
 simp only[e1,e2,Option.bind_some,Option.bind_fun_some,Sum.elim_inl,Sum.elim_inr,a_,qL]
 by_cases iF:∀k,k<b.ab.length→vD b k
 · rw[if_neg (by rintro⟨k,hk,h⟩;exact h (iF k hk))]
   have s1:Sm (dN b b.ab.length):=by unfold Sm;simp[dN];omega
   have s2:Sm (dp b b.ab.length):=by unfold Sm;simp[dp];omega
   have cg:(dp b b.ab.length).length=b.ae.length:=by simp[dp]
   simp only[Option.bind_some,Option.bind_fun_some,Sum.elim_inl,Sum.elim_inr,a_,Sum.elim_inl,contains_eq s1,ah_ s2]
   by_cases h0:(0:Int)∈dN b b.ab.length
   · have:¬bj b:=fun h=>by
      obtain⟨j,hj,hn⟩:=Og.1 h0
      obtain⟨k,hk,hs⟩:=h.2.1 j hj
      exact hn k hk hs
     simp[h0,this]
   · have hS:∀j,j<b.aa.length→∃k,k<b.ab.length∧ft (gt b.ab k) j:=fun j hj=>by
      apply Classical.byContradiction
      intro hn
      exact h0 (Og.2 ⟨j,hj,fun k hk hs=>hn ⟨k,hk,hs⟩⟩)
     by_cases hE:∃k,k<(dp b b.ab.length).length∧gt (dp b b.ab.length) k=[]
     · have:¬bj b:=fun h=>by
        obtain⟨j,hj,he⟩:=hE
        rw[cg] at hj
        obtain⟨k,hk,hc⟩:=h.2.2 j hj
        unfold dp at he
        rw[fU _ hj] at he
        have:(gt b.ab k).A∈jD b b.ab.length j:=(EI (Nat.le_refl _)).2 ⟨k,hk,hc,rfl⟩
        rw[he] at this
        cases this
       simp[h0,hE,this]
     · have:bj b:=⟨iF,hS,fun j hj=>by
        apply Classical.byContradiction
        intro hn
        refine hE ⟨j,by rw[cg];exact hj, ?_⟩
        unfold dp
        rw[fU _ hj]
        apply List.eq_nil_iff_forall_not_mem.2
        intro a ha
        obtain⟨i,hi,hc,_⟩:=(EI (Nat.le_refl _)).1 ha
        exact hn ⟨i,hi,hc⟩⟩
       simp[h0,hE,this]
 · have:∃k,k<b.ab.length∧¬vD b k:=by
    apply Classical.byContradiction
    intro hn
    exact iF fun k hk=>Classical.byContradiction fun h=>hn ⟨k,hk,h⟩
   rw[if_pos this]
   have:¬bj b:=fun h=>iF h.1
   simp[this]
def iW(x:Source):Prop:=(1≤x.df∧x.df≤50000)∧(0≤x.cF∧x.cF≤x.df)∧0≤x.Start∧x.Start≤600
def m_(b:ak):Prop:=bj b∧(0≤b.aG∧b.aG≤1800)∧(0≤b.aB∧b.aB≤6000)∧(∀k,k<b.aa.length→iW (gt b.aa k))∧∀k,k<b.ae.length→iG (gt b.ae k) k
def jj(b:ak):Int:=if dL b then(if m_ b then 0 else 14) else 2
def bL(b:ak):Prop:=Sm b.ab∧Sm b.aa∧Sm b.ae∧∀x∈b.ae,Sm x.bK
theorem aap(x:Source):Cc x=some (decide (iW x)):=by
 rw[aaq]
 congr 1
 rw[decide_eq_decide]
 exact Iff.rfl
theorem MO(p:Prop)[Decidable p]:decide p=dB p:=by
 by_cases h:p
 · rw[dT h,er h]
 · rw[dF h,dj h]
theorem MN(r:Bool){S:Prop}(h:S):r=dB (r=true∧S):=by
 cases r
 · rw[dj (fun h=>by cases h.1)]
 · rw[er ⟨rfl,h⟩]
theorem F4{r:Bool}{S C G:Prop}(h:(r=true∧S)∧C↔G):(if(!dB (dB (r=true∧S)=true∧C))=true then some (14:Int) else some 0)=some (if G then 0 else 14):=by
 by_cases hg:G
 · obtain⟨h1,h2⟩:=h.2 hg
   rw[er h1,er (p:=true=true∧C) ⟨rfl,h2⟩,if_pos hg]
   rfl
 · by_cases h1:r=true∧S
   · rw[er h1,dj (p:=true=true∧C) (fun h2=>hg (h.1 ⟨h1,h2.2⟩)),if_neg hg]
     rfl
   · rw[dj h1,dj (p:=false=true∧C) (fun h2=>by cases h2.1),if_neg hg]
     rfl
theorem Mr{r:Bool}{S G:Prop}(h:(r=true∧S)↔G):(if(!dB (r=true∧S))=true then some (11:Int) else some 0)=some (if G then 0 else 11):=by
 by_cases hg:G
 · rw[er (h.2 hg),if_pos hg]
   rfl
 · rw[dj (fun h1=>hg (h.1 h1)),if_neg hg]
   rfl
theorem Dk{b:ak}(hl:dL b)(r:Bool):aC (yH b) (r,(0:Int))=some (dB (r=true∧∀k,k<b.aa.length→iW (gt b.aa k))):=by
 have iN:=hl.src
 have h:=dP (step:=yH b) (fun k=>(dB (r=true∧∀i,i<k→iW (gt b.aa i)),(k:Int))) b.aa.length (r:=dB (r=true∧∀i,i<b.aa.length→iW (gt b.aa i)))
  (fun k hk=>by
    simp only[yH,aU hk,if_true,aD hk,Option.bind_some,Option.bind_fun_some,Sum.elim_inl,Sum.elim_inr,a_,aap,aX (show k<1000000000000000000 by omega)]
    by_cases h1:r=true∧∀i,i<k→iW (gt b.aa i)
    · have e:dB (r=true∧∀i,i<k+1→iW (gt b.aa i))=decide (iW (gt b.aa k)):=by
       rw[MO]
       apply Gp
       refine⟨fun h=>h.2 k (by omega),fun h=>⟨h1.1,fun i hi=> ?_⟩⟩
       by_cases iQ:i=k
       · subst iQ;exact h
       · exact h1.2 i (by omega)
      rw[er h1,e]
      rfl
    · have h2:¬(r=true∧∀i,i<k+1→iW (gt b.aa i)):=fun h=>h1 ⟨h.1,fun i hi=>h.2 i (by omega)⟩
      rw[dj h1,dj h2]
      rfl)
  (by simp only[yH,bA,Bool.false_eq_true,if_false])
 have e0:r=dB (r=true∧∀i,i<0→iW (gt b.aa i)):=MN r (fun i hi=>by omega)
 exact(congrArg (fun q=>aC (yH b) (q,(0:Int))) e0).trans h
theorem Gw{b:ak}(hl:dL b)(hs:bL b)(r:Bool):aC (yG b) (r,(0:Int))=some (dB (r=true∧∀k,k<b.ae.length→iG (gt b.ae k) k)):=by
 have xI:=hl.eN
 have h:=dP (step:=yG b) (fun k=>(dB (r=true∧∀i,i<k→iG (gt b.ae i) i),(k:Int))) b.ae.length (r:=dB (r=true∧∀i,i<b.ae.length→iG (gt b.ae i) i))
  (fun k hk=>by
    simp only[yG,aU hk,if_true,aD hk,Option.bind_some,Option.bind_fun_some,Sum.elim_inl,Sum.elim_inr,a_,ah' (hs.2.2.2 _ (cr hk)) (show k≤1000000 by omega),aX (show k<1000000000000000000 by omega)]
    by_cases h1:r=true∧∀i,i<k→iG (gt b.ae i) i
    · have e:dB (r=true∧∀i,i<k+1→iG (gt b.ae i) i)=decide (iG (gt b.ae k) k):=by
       rw[MO]
       apply Gp
       refine⟨fun h=>h.2 k (by omega),fun h=>⟨h1.1,fun i hi=> ?_⟩⟩
       by_cases iQ:i=k
       · subst iQ;exact h
       · exact h1.2 i (by omega)
      rw[er h1,e]
      rfl
    · have h2:¬(r=true∧∀i,i<k+1→iG (gt b.ae i) i):=fun h=>h1 ⟨h.1,fun i hi=>h.2 i (by omega)⟩
      rw[dj h1,dj h2]
      rfl)
  (by simp only[yG,bA,Bool.false_eq_true,if_false])
 have e0:r=dB (r=true∧∀i,i<0→iG (gt b.ae i) i):=MN r (fun i hi=>by omega)
 exact(congrArg (fun q=>aC (yG b) (q,(0:Int))) e0).trans h
theorem UF{b:ak}(hs:bL b):Cq b=some (jj b):=by
 unfold Cq jj
 simp only[mE,Option.bind_some,Option.bind_fun_some,Sum.elim_inl,Sum.elim_inr,a_]
 by_cases h1:1≤b.ai∧b.ai≤6
 case neg=>
  have:¬dL b:=fun h=>h1 h.ew
  simp[h1,this]
 by_cases h2:b.ab.length≤24
 case neg=>
  have:¬dL b:=fun h=>h2 h.b_
  have e:decide (len b.ab>24)=true:=dT (by unfold len;omega)
  simp[h1,this,e]
 by_cases h3:b.aa.length≤8
 case neg=>
  have:¬dL b:=fun h=>h3 h.src
  have e1:decide (len b.ab>24)=false:=dF (by unfold len;omega)
  have e:decide (len b.aa>8)=true:=dT (by unfold len;omega)
  simp[h1,this,e,e1]
 by_cases h4:b.ae.length≤16
 case neg=>
  have:¬dL b:=fun h=>h4 h.eN
  have e1:decide (len b.ab>24)=false:=dF (by unfold len;omega)
  have e2:decide (len b.aa>8)=false:=dF (by unfold len;omega)
  have e:decide (len b.ae>16)=true:=dT (by unfold len;omega)
  simp[h1,this,e,e1,e2]
 have hl:dL b:=⟨h1,h2,h3,h4⟩
 have e1:decide (len b.ab>24)=false:=dF (by unfold len;omega)
 have e2:decide (len b.aa>8)=false:=dF (by unfold len;omega)
 have e3:decide (len b.ae>16)=false:=dF (by unfold len;omega)
 simp only[dT h1,e1,e2,e3,Bool.not_true,Bool.false_eq_true,if_false,Option.bind_some,Option.bind_fun_some,Sum.elim_inl,Sum.elim_inr,a_,ak7 hl,if_pos hl]
 by_cases g1:bj b
 case neg=>
  simp only[dF g1,Bool.false_eq_true,if_false,Option.bind_some,Option.bind_fun_some,Sum.elim_inl,Sum.elim_inr,a_]
  rw[Dk hl,Option.bind_some,Gw hl hs,Option.bind_some]
  exact F4 (r:=false) ⟨(fun h=>by cases h.1.1),fun h=>(g1 h.1).elim⟩
 by_cases g2:0≤b.aG∧b.aG≤1800
 case neg=>
  simp only[dT g1,dF g2,Bool.false_eq_true,if_false,if_true,Option.bind_some,Option.bind_fun_some,Sum.elim_inl,Sum.elim_inr,a_]
  rw[Dk hl,Option.bind_some,Gw hl hs,Option.bind_some]
  exact F4 (r:=false) ⟨(fun h=>by cases h.1.1),fun h=>(g2 h.2.1).elim⟩
 by_cases g3:0≤b.aB∧b.aB≤6000
 case neg=>
  simp only[dT g1,dT g2,dF g3,Bool.false_eq_true,if_false,if_true,Option.bind_some,Option.bind_fun_some,Sum.elim_inl,Sum.elim_inr,a_]
  rw[Dk hl,Option.bind_some,Gw hl hs,Option.bind_some]
  exact F4 (r:=false) ⟨(fun h=>by cases h.1.1),fun h=>(g3 h.2.2.1).elim⟩
 rw[dT g1,dT g2,dT g3]
 simp only[if_true,Option.bind_some,Option.bind_fun_some,Sum.elim_inl,Sum.elim_inr,a_]
 rw[Dk hl,Option.bind_some,Gw hl hs,Option.bind_some]
 exact F4 (r:=true) ⟨fun h=>⟨g1,g2,g3,h.1.2,h.2⟩,fun h=>⟨⟨rfl,h.2.2.2.1⟩,h.2.2.2.2⟩⟩
theorem MX(a b:Int):yg a b=some (if a<b then-1 else if b<a then 1 else 0):=by
 unfold yg GA
 by_cases h1:a<b<;>by_cases h2:b<a<;>simp[h1,h2]
theorem QI(a b:Int):GB [a,b]=some (if a≠0 then a else b):=by
 have hl:len [a,b]=2:=rfl
 have i0:idx [a,b] 0=some a:=rfl
 have i1:idx [a,b] 1=some b:=rfl
 have w1:W 1=1:=bO (by omega) (by omega)
 have w2:W 2=2:=bO (by omega) (by omega)
 unfold GB
 by_cases ha:a=0
 · subst ha
   have s0:oQ [0,b] 0=some (.inl 1):=by simp[oQ,hl,i0,w1]
   by_cases hb:b=0
   · subst hb
     have s1:oQ [0,0] 1=some (.inl 2):=by simp[oQ,hl,i1,w2]
     have s2:oQ [0,0] 2=some (.inr (.inl ())):=by simp[oQ,hl]
     rw[mB (.more s0 (.more s1 (.done s2))) (by omega)]
     rfl
   · have s1:oQ [0,b] 1=some (.inr (.inr b)):=by simp[oQ,hl,i1,hb]
     rw[mB (.more s0 (.done s1)) (by omega)]
     simp
 · have s0:oQ [a,b] 0=some (.inr (.inr a)):=by simp[oQ,hl,i0,ha]
   rw[mB (.done s0) (by omega)]
   simp[ha]
def bsize(b:ak)(kind:Int):Int:=if kind=1 then b.aa.length else if kind=2 then b.ab.length else if kind=3 then b.ai else if kind=4 then b.ae.length else 0
theorem size_eq(b:ak)(k:Int):He b k=some (bsize b k):=by
 unfold He bsize
 by_cases h1:k=1<;>by_cases h2:k=2<;>by_cases h3:k=3<;>by_cases h4:k=4<;>simp[h1,h2,h3,h4,len]
def before(x y:Part):Prop:=x.Kind<y.Kind∨x.Kind=y.Kind∧x.Number<y.Number
def kL(b:ak)(l:List Part)(k:Nat):Prop:=(0≤(gt l k).Number∧(gt l k).Number≤bsize b (gt l k).Kind-1)∧(0<k→before (gt l (k-1)) (gt l k))
theorem Ux(x y:Part):decide ((if(if x.Kind<y.Kind then(-1:Int) else if y.Kind<x.Kind then 1 else 0)≠0 then(if x.Kind<y.Kind then(-1:Int) else if y.Kind<x.Kind then 1 else 0) else(if x.Number<y.Number then(-1:Int) else if y.Number<x.Number then 1 else 0))≥0)=decide (¬before x y):=by
 rw[decide_eq_decide]
 unfold before
 by_cases h1:x.Kind<y.Kind
 · simp[h1]
 · by_cases h2:y.Kind<x.Kind
   · simp[h1,h2];omega
   · by_cases h3:x.Number<y.Number
     · simp[h1,h2,h3];omega
     · by_cases h4:y.Number<x.Number
       · simp[h1,h2,h3,h4]
       · simp[h1,h2,h3,h4]
theorem akZ{b:ak}{l:List Part}(hb:dL b)(hl:Sm l):Hk b l=some (decide ((∀k,k<l.length→kL b l k)∧l.length≤32)):=by
 have h1:=hb.ew
 have h2:=hb.b_
 have h3:=hb.src
 have h4:=hb.eN
 have eW:∀k,W (bsize b k-1)=bsize b k-1:=fun k=>by
  apply bO<;>unfold bsize<;>(repeat' split)<;>omega
 have h:=kn (step:=yE b l) (fun i=>(i:Int)) l.length (fun i=>¬kL b l i) (r:= .inr false) (e:= .inl ())
  (fun i hi hp=>by
    obtain⟨p1,p2⟩:=Classical.not_not.1 hp
    simp only[yE,aU hi,if_true,aD hi,Option.bind_some,Option.bind_fun_some,Sum.elim_inl,Sum.elim_inr,a_,size_eq,mE,eW,dT p1,Bool.not_true,Bool.false_eq_true,if_false]
    by_cases ix:0<i
    · have p3:=p2 ix
      rw[dT (c:=(i:Int)>0) (by omega)]
      simp only[if_true,qc (cN hl hi) ix,aD (show i-1<l.length by omega),Option.bind_some,Option.bind_fun_some,Sum.elim_inl,Sum.elim_inr,a_,MX,QI,Ux,dF (c:=¬before (gt l (i-1)) (gt l i)) (fun h=>h p3),Bool.false_eq_true,if_false,aX (cN hl hi)]
    · rw[dF (c:=(i:Int)>0) (by omega)]
      simp only[Bool.false_eq_true,if_false,Option.bind_some,Option.bind_fun_some,Sum.elim_inl,Sum.elim_inr,a_,aX (cN hl hi)])
  (fun i hi hp=>by
    simp only[yE,aU hi,if_true,aD hi,Option.bind_some,Option.bind_fun_some,Sum.elim_inl,Sum.elim_inr,a_,size_eq,mE,eW]
    by_cases p1:0≤(gt l i).Number∧(gt l i).Number≤bsize b (gt l i).Kind-1
    · have p2:0<i∧¬before (gt l (i-1)) (gt l i):=by
       by_cases ix:0<i
       · exact⟨ix,fun h=>hp ⟨p1,fun _=>h⟩⟩
       · exact(hp ⟨p1,fun h=>(ix h).elim⟩).elim
      rw[dT p1,dT (c:=(i:Int)>0) (by omega)]
      simp only[Bool.not_true,Bool.false_eq_true,if_false,if_true,qc (cN hl hi) p2.1,aD (show i-1<l.length by omega),Option.bind_some,Option.bind_fun_some,Sum.elim_inl,Sum.elim_inr,a_,MX,QI,Ux,dT p2.2]
    · rw[dF p1]
      simp only[Bool.not_false,if_true,Option.bind_some,Option.bind_fun_some,Sum.elim_inl,Sum.elim_inr,a_])
  (by simp only[yE,bA,Bool.false_eq_true,if_false])
 have h':aC (yE b l) 0=_:=h
 unfold Hk
 rw[h']
 by_cases hn:∀k,k<l.length→kL b l k
 · rw[if_neg (by rintro⟨i,hi,hp⟩;exact hp (hn i hi))]
   show some (decide (len l≤32))=_
   congr 1
   rw[decide_eq_decide]
   unfold len
   exact⟨fun h=>⟨hn,by omega⟩,fun h=>by have:=h.2;omega⟩
 · have:∃i,i<l.length∧¬kL b l i:=by
    apply Classical.byContradiction
    intro hh
    exact hn fun i hi=>Classical.byContradiction fun h=>hh ⟨i,hi,h⟩
   rw[if_pos this,dF (c:=(∀k,k<l.length→kL b l k)∧l.length≤32) (fun h=>hn h.1)]
   rfl
def dq(x:az):Prop:=(0≤x.State∧x.State≤3)∧(0≤x.eD∧x.eD≤2147483648)∧(0≤x.aB∧x.aB≤6000)∧0≤x.aG∧x.aG≤3599
theorem Uq{l:List az}(hl:Sm l):DF l=some (decide (∃k,k<l.length∧¬dq (gt l k))):=by
 have e1:∀x,Hn x=some (decide (¬dq x)):=fun x=>by
  unfold Hn
  rw[aaR]
  have:dq x↔((0≤x.State∧x.State≤3)∧(0≤x.eD∧x.eD≤2147483648)∧(0≤x.aB∧x.aB≤6000)∧0≤x.aG∧x.aG≤3599):=Iff.rfl
  by_cases h:dq x
  · rw[dT (this.1 h),dF (c:=¬dq x) (fun hh=>hh h)];rfl
  · rw[dF (fun hh=>h (this.2 hh)),dT h];rfl
 have h:=km (step:=v9 l) (fun k=>(k:Int)) l.length (fun k=>decide (¬dq (gt l k))) (R:=fun k=> .inr (k:Int)) (e:= .inl ())
  (fun k hk hp=>by simp only[v9,e1,aU hk,if_true,aD hk,Option.bind_some,Option.bind_fun_some,Sum.elim_inl,Sum.elim_inr,a_,hp,Bool.false_eq_true,if_false,aX (cN hl hk)])
  (fun k hk hp=>by simp only[v9,e1,aU hk,if_true,aD hk,Option.bind_some,Option.bind_fun_some,Sum.elim_inl,Sum.elim_inr,a_,hp])
  (by simp only[v9,bA,Bool.false_eq_true,if_false])
 have h':aC (v9 l) 0=_:=h
 unfold DF IQ
 rw[h']
 cases hf:(List.range l.length).find? (fun k=>decide (¬dq (gt l k))) with
 |none=>
  have:¬∃k,k<l.length∧¬dq (gt l k):=fun⟨k,hk,e⟩=>by
   have:=List.find?_eq_none.1 hf k (List.mem_range.2 hk)
   exact this (dT e)
  rw[dF this]
  rfl
 |some k=>
  have hk:=List.mem_range.1 (List.mem_of_find?_eq_some hf)
  have hp:=of_decide_eq_true (List.find?_some (p:=fun k=>decide (¬dq (gt l k))) hf)
  have:∃k,k<l.length∧¬dq (gt l k):=⟨k,hk,hp⟩
  rw[dT this]
  simp
def cK(b:ak)(p:ah)(j:Int):Nat→Nat
 |0=>0
 |k+1=>cK b p j k+if(gt b.ab k).Kind=3∧(gt b.ab k).B=j∧gt p.al k=true then 1 else 0
theorem ail(b:ak)(p:ah)(j:Int)(k:Nat):cK b p j k≤k:=by
 induction k with
 |zero=>exact Nat.le_refl _
 |succ k ih=>unfold cK;split<;>omega
theorem aii{b:ak}{p:ah}(j:Int)(hl:Sm b.ab)(hc:p.al.length=b.ab.length):Hj b p j=some (cK b p j b.ab.length:Int):=by
 have h:=dP (step:=Cj b p j) (fun k=>((cK b p j k:Int),(k:Int))) b.ab.length (r:=(cK b p j b.ab.length:Int))
  (fun k hk=>by
    have:=ail b p j k
    have hs:=cN hl hk
    simp only[Cj,aU hk,if_true,aD hk,aD (l:=p.al) (show k<p.al.length by omega),Option.bind_some,Option.bind_fun_some,Sum.elim_inl,Sum.elim_inr,a_,aX hs,aX (show cK b p j k<1000000000000000000 by omega)]
    by_cases h1:(gt b.ab k).Kind=3
    · by_cases h2:(gt b.ab k).B=j
      · cases h3:gt p.al k with
        |true=>simp[cK,h1,h2,h3]
        |false=>simp[cK,h1,h2,h3]
      · simp[cK,h1,h2]
    · simp[cK,h1])
  (by simp only[Cj,bA,Bool.false_eq_true,if_false])
 have h':aC (Cj b p j) (0,0)=_:=h
 unfold Hj
 rw[h']
 rfl
def Shape(b:ak)(p:ah):Prop:=p.al.length=b.ab.length∧p.aa.length=b.aa.length∧p.ar.length=b.ae.length
def oW(b:ak)(p:ah)(k:Nat):Prop:=(0≤gt p.ar k∧gt p.ar k≤(gt b.ae k).cX)∧cK b p (k:Int) b.ab.length≤1
def qf(b:ak)(p:ah):Prop:=((∀k,k<p.ax.length→kL b p.ax k)∧p.ax.length≤32)∧(∀k,k<p.aa.length→dq (gt p.aa k))∧∀k,k<p.ar.length→oW b p k
def aH(b:ak)(p:ah):Int:=if jj b=0 then(if Shape b p then(if qf b p then 0 else 11) else 8) else jj b
def bf(p:ah):Prop:=Sm p.al∧Sm p.aa∧Sm p.ar∧Sm p.ax
theorem sL{b:ak}:jj b=0↔dL b∧m_ b:=by
 unfold jj
 by_cases h1:dL b<;>by_cases h2:m_ b<;>simp[h1,h2]
theorem J0{b:ak}{p:ah}(hb:bL b)(hp:bf p)(ky:Shape b p)(r:Bool):aC (yF b p) (r,(0:Int))=some (dB (r=true∧∀k,k<p.ar.length→oW b p k)):=by
 obtain⟨s1,s2,s3⟩:=ky
 have xt:Sm p.ar:=hp.2.2.1
 have h:=dP (step:=yF b p) (fun k=>(dB (r=true∧∀i,i<k→oW b p i),(k:Int))) p.ar.length (r:=dB (r=true∧∀i,i<p.ar.length→oW b p i))
  (fun k hk=>by
    have lW:k<b.ae.length:=by omega
    simp only[yF,aU hk,if_true,aD hk,aD lW,Option.bind_some,Option.bind_fun_some,Sum.elim_inl,Sum.elim_inr,a_,mE,aii (k:Int) hb.1 s1,aX (cN hp.2.2.1 hk)]
    have e5:decide ((cK b p (k:Int) b.ab.length:Int)≤1)=decide (cK b p (k:Int) b.ab.length≤1):=by rw[decide_eq_decide];omega
    by_cases h1:r=true∧∀i,i<k→oW b p i
    · have e:dB (r=true∧∀i,i<k+1→oW b p i)=decide (oW b p k):=by
       rw[MO]
       apply Gp
       refine⟨fun h=>h.2 k (by omega),fun h=>⟨h1.1,fun i hi=> ?_⟩⟩
       by_cases iQ:i=k
       · subst iQ;exact h
       · exact h1.2 i (by omega)
      rw[er h1,e,e5]
      unfold oW
      by_cases h2:0≤gt p.ar k∧gt p.ar k≤(gt b.ae k).cX<;>by_cases h3:cK b p (k:Int) b.ab.length≤1<;>simp[h2,h3]
    · have h2:¬(r=true∧∀i,i<k+1→oW b p i):=fun h=>h1 ⟨h.1,fun i hi=>h.2 i (by omega)⟩
      rw[dj h1,dj h2]
      rfl)
  (by simp only[yF,bA,Bool.false_eq_true,if_false])
 have e0:r=dB (r=true∧∀i,i<0→oW b p i):=MN r (fun i hi=>by omega)
 exact(congrArg (fun q=>aC (yF b p) (q,(0:Int))) e0).trans h
theorem kR{b:ak}{p:ah}(hb:bL b)(hp:bf p):jY b p=some (aH b p):=by
 unfold jY aH
 rw[UF hb]
 simp only[Option.bind_some,Option.bind_fun_some,Sum.elim_inl,Sum.elim_inr,a_]
 by_cases h0:jj b=0
 case neg=>simp[h0]
 have hL:=(sL.1 h0).1
 have e0:(jj b !=0)=false:=by simp[h0]
 simp only[e0,Bool.false_eq_true,if_false,if_pos h0]
 by_cases h1:p.al.length=b.ab.length
 case neg=>
  have:¬Shape b p:=fun h=>h1 h.1
  have e:(len p.al !=len b.ab)=true:=by simp[len];omega
  simp[e,this]
 by_cases h2:p.aa.length=b.aa.length
 case neg=>
  have:¬Shape b p:=fun h=>h2 h.2.1
  have e1:(len p.al !=len b.ab)=false:=by simp[len,h1]
  have e:(len p.aa !=len b.aa)=true:=by simp[len];omega
  simp[e,e1,this]
 by_cases h3:p.ar.length=b.ae.length
 case neg=>
  have:¬Shape b p:=fun h=>h3 h.2.2
  have e1:(len p.al !=len b.ab)=false:=by simp[len,h1]
  have e2:(len p.aa !=len b.aa)=false:=by simp[len,h2]
  have e:(len p.ar !=len b.ae)=true:=by simp[len];omega
  simp[e,e1,e2,this]
 have ky:Shape b p:=⟨h1,h2,h3⟩
 have e1:(len p.al !=len b.ab)=false:=by simp[len,h1]
 have e2:(len p.aa !=len b.aa)=false:=by simp[len,h2]
 have e3:(len p.ar !=len b.ae)=false:=by simp[len,h3]
 simp only[e1,e2,e3,Bool.false_eq_true,if_false,Option.bind_some,Option.bind_fun_some,Sum.elim_inl,Sum.elim_inr,a_,akZ hL hp.2.2.2,if_pos ky]
 have hx:(∃k,k<p.aa.length∧¬dq (gt p.aa k))↔¬∀k,k<p.aa.length→dq (gt p.aa k):=by
  constructor
  · rintro⟨k,hk,h⟩ hh;exact h (hh k hk)
  · intro h
    apply Classical.byContradiction
    intro hn
    exact h fun k hk=>Classical.byContradiction fun hr=>hn ⟨k,hk,hr⟩
 by_cases g1:(∀k,k<p.ax.length→kL b p.ax k)∧p.ax.length≤32
 case neg=>
  simp only[dF g1,Bool.false_eq_true,if_false,Option.bind_some,Option.bind_fun_some,Sum.elim_inl,Sum.elim_inr,a_]
  rw[J0 hb hp ky,Option.bind_some]
  exact Mr (r:=false) ⟨(fun h=>by cases h.1),fun h=>(g1 h.1).elim⟩
 by_cases g2:∀k,k<p.aa.length→dq (gt p.aa k)
 case neg=>
  simp only[dT g1,if_true,Uq hp.2.1,dT (c:=∃k,k<p.aa.length∧¬dq (gt p.aa k)) (hx.2 g2),Bool.not_true,Option.bind_some,Option.bind_fun_some,Sum.elim_inl,Sum.elim_inr,a_]
  rw[J0 hb hp ky,Option.bind_some]
  exact Mr (r:=false) ⟨(fun h=>by cases h.1),fun h=>(g2 h.2.1).elim⟩
 simp only[dT g1,if_true,Uq hp.2.1,dF (c:=∃k,k<p.aa.length∧¬dq (gt p.aa k)) (fun h=>hx.1 h g2),Bool.not_false,Option.bind_some,Option.bind_fun_some,Sum.elim_inl,Sum.elim_inr,a_]
 rw[J0 hb hp ky,Option.bind_some]
 exact Mr (r:=true) ⟨fun h=>⟨g1,g2,h.2⟩,fun h=>⟨rfl,h.2.2⟩⟩
end Rx
namespace Rx
theorem Wp.ite{α:Type}{c:Bool}{a b:Option α}{Q:α→Prop}(ha:c=true→Wp a Q)(hb:c=false→Wp b Q):Wp (if c=true then a else b) Q:=by
 cases c with
 |true=>exact ha rfl
 |false=>exact hb rfl
def Sr(l:List Int)(a:Int):Prop:=0≤a∧l.length≤1000000∧a≤l.length
theorem mod_eq{x n:Int}(h1:1≤n)(h2:n≤1000000000000):Gl x n=some ((x.tmod n+n)% n):=by
 have SI: -n<x.tmod n:=by
  have:=Int.lt_tmod_of_pos x (b:=n) (by omega)
  omega
 have SH:x.tmod n<n:=Int.tmod_lt_of_pos x (by omega)
 unfold Gl
 have e1:iJ x n=some (x.tmod n):=by unfold iJ;rw[if_neg (by omega)]
 rw[dF (c:=n<1) (by omega)]
 simp only[Bool.false_eq_true,if_false,e1,Option.bind_some,Option.bind_fun_some]
 rw[bO (by omega) (by omega),P8 (by omega) (by omega)]
theorem iI{l:List Int}{a n:Int}(hs:Sr l a)(h1:1≤n)(h2:n≤1000000000000):Wp (fk ⟨l,a⟩ n) fun r=>(0≤r.1∧r.1<n)∧Sr r.2.1 r.2.2:=by
 obtain⟨s1,s2,s3⟩:=hs
 unfold fk
 simp only
 refine Wp.ite (fun h=>ay.2 ⟨⟨Int.le_refl _,by simp only;omega⟩,s1,s2,s3⟩) fun h=> ?_
 have h':a<l.length:=by have:=of_decide_eq_false h;unfold len at this;omega
 have e1:W (W (a+1)-1)=a:=by rw[bO (x:=a+1) (by omega) (by omega),bO (by omega) (by omega)];omega
 rw[e1,eU s1 h']
 simp only[Option.bind_some,mod_eq h1 h2,bO (x:=a+1) (by omega) (by omega)]
 exact ay.2 ⟨⟨Int.emod_nonneg _ (by omega),Int.emod_lt_of_pos _ (by omega)⟩,by simp only;omega,s2,by simp only;omega⟩
theorem tA{l:List Int}{a lo hi:Int}(hs:Sr l a)(h:lo≤hi)(h1: -1000000000000≤lo)(h2:hi≤100000000000)(h3:hi-lo+1≤1000000000000):Wp (qe ⟨l,a⟩ lo hi) fun r=>(lo≤r.1∧r.1≤hi)∧Sr r.2.1 r.2.2:=by
 unfold qe
 have e1:W (hi-lo)=hi-lo:=bO (by omega) (by omega)
 have e2:W (hi-lo+1)=hi-lo+1:=bO (by omega) (by omega)
 simp only[e1,e2]
 refine(iI hs (n:=hi-lo+1) (by omega) (by omega)).bind fun y hy=> ?_
 obtain⟨y,l',a'⟩:=y
 simp only at hy⊢
 rw[bO (by omega) (by omega)]
 exact ay.2 ⟨⟨by simp only;omega,by simp only;omega⟩,hy.2⟩
theorem kP{l:List Int}{a:Int}{w:List Int}(hs:Sr l a)(h0:w≠[])(hl:w.length≤1000000):Wp (jH ⟨l,a⟩ w) fun r=>r.1∈w∧Sr r.2.1 r.2.2.1:=by
 unfold jH
 have hp:0<w.length:=List.length_pos_iff.2 h0
 refine(iI hs (n:=len w) (by unfold len;omega) (by unfold len;omega)).bind fun y hy=> ?_
 obtain⟨y,l',a'⟩:=y
 simp only at hy⊢
 unfold len at hy
 rw[eU hy.1.1 hy.1.2]
 exact ay.2 ⟨cr (by omega),hy.2⟩
theorem Yv(t:List Int):Wp (Gk t) fun r=>Sr r.1 r.2:=by
 unfold Gk
 have e:dw t 0 (kq (len t) 600)=some (t.take (kq (len t) 600).toNat):=by
  unfold dw kq len
  rw[if_pos (by split<;>omega)]
  simp
 rw[e]
 refine ay.2 ⟨Int.le_refl _, ?_,by simp only;omega⟩
 simp only[List.length_take]
 unfold kq
 split<;>omega
end Rx
end Go.Proofs.YtaneejpkncdodaaGreat
namespace Go.Proofs.YtaneejpkncdodaaGreat
open Go Go.RowKit
open Classical
namespace Dp
inductive fL(E:Nat→Nat→Prop):Nat→Nat→Prop
 |refl (i:Nat):fL E i i
 |step {i j k:Nat}:E i j→fL E j k→fL E i k
inductive e9(E:Nat→Nat→Prop):Nat→Nat→Nat→Prop
 |refl (r i:Nat):e9 E r i i
 |step {r i j k:Nat}:E i j→e9 E r j k→e9 E (r+1) i k
section
variable {E E':Nat→Nat→Prop} {n:Nat}
theorem fL.trans{i j k:Nat}(h:fL E i j)(h':fL E j k):fL E i k:=by
 induction h with
 |refl=>exact h'
 |step e _ ih=>exact .step e (ih h')
theorem fL.one{i j:Nat}(h:E i j):fL E i j:= .step h (.refl _)
theorem fL.symm(hs:∀i j,E i j→E j i){i j:Nat}(h:fL E i j):fL E j i:=by
 induction h with
 |refl=>exact .refl _
 |step e _ ih=>exact ih.trans (.one (hs _ _ e))
theorem fL.mono(he:∀i j,E i j→E' i j){i j:Nat}(h:fL E i j):fL E' i j:=by
 induction h with
 |refl=>exact .refl _
 |step e _ ih=>exact .step (he _ _ e) ih
theorem e9.conn{r i j:Nat}(h:e9 E r i j):fL E i j:=by
 induction h with
 |refl=>exact .refl _
 |step e _ ih=>exact .step e ih
theorem e9.more{r r' i j:Nat}(h:e9 E r i j)(hr:r≤r'):e9 E r' i j:=by
 induction h generalizing r' with
 |refl=>exact .refl _ _
 |step e _ ih=>
  cases r' with
  |zero=>omega
  |succ r'=>exact .step e (ih (by omega))
theorem e9.snoc{r i j k:Nat}(h:e9 E r i j)(e:E j k):e9 E (r+1) i k:=by
 induction h with
 |refl r i=>exact .step e (.refl _ _)
 |step e' _ ih=>exact .step e' (ih e)
theorem e9.zero{i j:Nat}(h:e9 E 0 i j):i=j:=by cases h;rfl
theorem e9.last{r i k:Nat}(h:e9 E (r+1) i k):e9 E r i k∨∃j,e9 E r i j∧E j k:=by
 generalize hm:r+1=m at h
 induction h generalizing r with
 |refl=>exact .inl (.refl _ _)
 | @step r' i j k e w ih=>
   cases r' with
   |zero=>
    have:r=0:=by omega
    subst this
    have:=w.zero
    subst this
    exact .inr ⟨i,.refl _ _,e⟩
   |succ r''=>
    have:r=r''+1:=by omega
    subst this
    rcases ih rfl with h|⟨j',h1,h2⟩
    · exact .inl (.step e h)
    · exact .inr ⟨j',.step e h1,h2⟩
def nk(E:Nat→Nat→Prop)(n r i:Nat):Nat:=((List.range n).filter fun j=>decide (e9 E r i j)).length
theorem Ms{p q:Nat→Bool}(h:∀x,p x=true→q x=true):∀l:List Nat,(l.filter p).length≤(l.filter q).length
 |[]=>Nat.le_refl _
 |x::l=>by
  have ih:=Ms h l
  by_cases hp:p x=true
  · rw[List.filter_cons_of_pos hp,List.filter_cons_of_pos (h x hp)];simpa using ih
  · rw[List.filter_cons_of_neg hp]
    by_cases hq:q x=true
    · rw[List.filter_cons_of_pos hq];simp;omega
    · rw[List.filter_cons_of_neg hq];exact ih
theorem Mt{p q:Nat→Bool}(h:∀x,p x=true→q x=true):∀l:List Nat,(l.filter p).length=(l.filter q).length→∀x∈l,q x=true→p x=true
 |[],_,x,hx,_=>by cases hx
 |y::l,he,x,hx,hq=>by
  have hle:=Ms h l
  by_cases hp:p y=true
  · rw[List.filter_cons_of_pos hp,List.filter_cons_of_pos (h y hp)] at he
    rcases List.mem_cons.1 hx with rfl|hx
    · exact hp
    · exact Mt h l (by simpa using he) x hx hq
  · rw[List.filter_cons_of_neg hp] at he
    by_cases oz:q y=true
    · rw[List.filter_cons_of_pos oz] at he
      simp at he
      omega
    · rw[List.filter_cons_of_neg oz] at he
      rcases List.mem_cons.1 hx with rfl|hx
      · exact(oz hq).elim
      · exact Mt h l he x hx hq
theorem abg(r i:Nat):nk E n r i≤n:=by
 unfold nk
 refine Nat.le_trans (List.length_filter_le _ _) ?_
 simp
theorem aai(hE:∀i j,E i j→j<n){r i:Nat}(hi:i<n)(h:nk E n r i=nk E n (r+1) i):∀m j,e9 E (r+m) i j→e9 E r i j:=by
 have h1:∀j,j<n→e9 E (r+1) i j→e9 E r i j:=by
  intro j hj hw
  have:=Mt (p:=fun j=>decide (e9 E r i j)) (q:=fun j=>decide (e9 E (r+1) i j)) (fun x hx=>decide_eq_true ((of_decide_eq_true hx).more (by omega))) (List.range n) h j (List.mem_range.2 hj) (decide_eq_true hw)
  exact of_decide_eq_true this
 intro m
 induction m with
 |zero=>intro j h;exact h
 |succ m ih=>
  intro j hw
  rcases e9.last (r:=r+m) hw with h2|⟨k,h2,h3⟩
  · exact ih j h2
  · exact h1 j (hE _ _ h3) ((ih k h2).snoc h3)
theorem fL.walk(hE:∀i j,E i j→j<n){i j:Nat}(hi:i<n)(h:fL E i j):e9 E (n-1) i j:=by
 have aek:∃m,e9 E m i j:=by
  induction h with
  |refl=>exact⟨0,.refl _ _⟩
  |step e _ ih=>
   obtain⟨m,hm⟩:=ih (hE _ _ e)
   exact⟨m+1,.step e hm⟩
 obtain⟨m,hm⟩:=aek
 have:∃r,r≤n-1∧nk E n r i=nk E n (r+1) i:=by
  apply Classical.byContradiction
  intro hn
  have afn:∀r,r≤n→r+1≤nk E n r i:=by
   intro r
   induction r with
   |zero=>
    intro _
    unfold nk
    have:i∈(List.range n).filter fun j=>decide (e9 E 0 i j):=List.mem_filter.2 ⟨List.mem_range.2 hi,decide_eq_true (.refl _ _)⟩
    exact List.length_pos_of_mem this
   |succ r ih=>
    intro hr
    have h1:=ih (by omega)
    have h2:nk E n r i≤nk E n (r+1) i:=Ms (fun x hx=>decide_eq_true ((of_decide_eq_true hx).more (by omega))) _
    have h3:nk E n r i≠nk E n (r+1) i:=fun e=>hn ⟨r,by omega,e⟩
    omega
  have h4:=afn n (Nat.le_refl _)
  have h5:=abg (E:=E) (n:=n) n i
  omega
 obtain⟨r,hr,he⟩:=this
 have h6:e9 E r i j:=aai hE hi he m j (hm.more (by omega))
 exact h6.more hr
end
end Dp
end Go.Proofs.YtaneejpkncdodaaGreat
namespace Go.Proofs.YtaneejpkncdodaaGreat
open Go Go.RowKit Dp
namespace Rx
open Classical
abbrev bd(nb:Int)(br:List aI)(S:List Source)(C:List Consumer):ak:=⟨nb,br,S,C,0,0⟩
theorem bj.snoc{nb:Int}{br:List aI}{S S':List Source}{C C':List Consumer}{x:aI}(h:bj (bd nb br S C))(hS:S.length≤S'.length)(hC:C.length≤C'.length)
  (hA:0≤x.A∧x.A≤nb-1)
  (hx:(x.Kind=1∧x.A+1≤x.B∧x.B≤nb-1)∨(x.Kind=2∧(0≤x.B∧x.B≤(S'.length:Int)-1)∧∀i,i<br.length→¬((gt br i).Kind=2∧(gt br i).B=x.B))∨(x.Kind=3∧(0≤x.B∧x.B≤(C'.length:Int)-1)∧∀i,i<br.length→¬((gt br i).Kind=3∧(gt br i).B=x.B∧(gt br i).A=x.A)))
  (cS:∀j,S.length≤j→j<S'.length→ft x j) (cC:∀j,C.length≤j→j<C'.length→kY x j):bj (bd nb (br++[x]) S' C'):=by
 obtain⟨h1,h2,h3⟩:=h
 refine⟨fun k hk=> ?_,fun j hj=> ?_,fun j hj=> ?_⟩
 · have bB:k<br.length+1:=by simpa using hk
   by_cases mN:k<br.length
   · have h4:=h1 k mN
     unfold vD at h4⊢
     simp only at h4⊢
     have e:∀i,i≤k→gt (br++[x]) i=gt br i:=fun i hi=>by rw[sC (by omega),if_pos (by omega)]
     rw[e k (Nat.le_refl _)]
     refine⟨h4.1, ?_⟩
     rcases h4.2 with h5|⟨h5,h6,h7⟩|⟨h5,h6,h7⟩
     · exact .inl h5
     · exact .inr (.inl ⟨h5,by omega,fun i hi=>by rw[e i (by omega)];exact h7 i hi⟩)
     · exact .inr (.inr ⟨h5,by omega,fun i hi=>by rw[e i (by omega)];exact h7 i hi⟩)
   · have:k=br.length:=by omega
     subst this
     unfold vD
     simp only
     have e:∀i,i<br.length→gt (br++[x]) i=gt br i:=fun i hi=>by rw[sC (by omega),if_pos hi]
     rw[Bz]
     refine⟨hA, ?_⟩
     rcases hx with h5|⟨h5,h6,h7⟩|⟨h5,h6,h7⟩
     · exact .inl h5
     · exact .inr (.inl ⟨h5,h6,fun i hi=>by rw[e i hi];exact h7 i hi⟩)
     · exact .inr (.inr ⟨h5,h6,fun i hi=>by rw[e i hi];exact h7 i hi⟩)
 · by_cases bZ:j<S.length
   · obtain⟨k,hk,hs⟩:=h2 j bZ
     have bB:k<br.length:=hk
     exact⟨k,by simp;omega,by show ft (gt (br++[x]) k) j;rw[FV bB];exact hs⟩
   · exact⟨br.length,by simp,by show ft (gt (br++[x]) br.length) j;rw[Bz];exact cS j (by omega) hj⟩
 · by_cases bZ:j<C.length
   · obtain⟨k,hk,hs⟩:=h3 j bZ
     have bB:k<br.length:=hk
     exact⟨k,by simp;omega,by show kY (gt (br++[x]) k) j;rw[FV bB];exact hs⟩
   · exact⟨br.length,by simp,by show kY (gt (br++[x]) br.length) j;rw[Bz];exact cC j (by omega) hj⟩
theorem bj.aan{nb:Int}{br:List aI}{S:List Source}{C:List Consumer}(h:bj (bd nb br S C)){i:Nat}(hi:i<br.length)(hk:(gt br i).Kind=2):(gt br i).B≤(S.length:Int)-1:=by
 have:=(h.1 i hi).2
 simp only at this
 rcases this with h5|⟨h5,h6,h7⟩|⟨h5,h6,h7⟩<;>omega
theorem bj.Uv{nb:Int}{br:List aI}{S:List Source}{C:List Consumer}(h:bj (bd nb br S C)){i:Nat}(hi:i<br.length)(hk:(gt br i).Kind=3):(gt br i).B≤(C.length:Int)-1:=by
 have:=(h.1 i hi).2
 simp only at this
 rcases this with h5|⟨h5,h6,h7⟩|⟨h5,h6,h7⟩<;>omega
theorem bj.tie{nb:Int}{br:List aI}{S:List Source}{C:List Consumer}(h:bj (bd nb br S C)){a c:Int}(h0:0≤a)(h1:a+1≤c)(h2:c≤nb-1):bj (bd nb (br++[⟨1,a,c⟩]) S C):=
 h.snoc (Nat.le_refl _) (Nat.le_refl _) ⟨h0,by simp only;omega⟩ (.inl ⟨rfl,h1,h2⟩) (fun j _ _=>by omega) (fun j _ _=>by omega)
theorem bj.src{nb:Int}{br:List aI}{S:List Source}{C:List Consumer}(h:bj (bd nb br S C)){a:Int}(h0:0≤a)(h1:a≤nb-1)(s:Source):bj (bd nb (br++[⟨2,a,len S⟩]) (S++[s]) C):=by
 refine h.snoc (by simp) (Nat.le_refl _) ⟨h0,h1⟩ (.inr (.inl ⟨rfl,by simp[len],fun i hi hh=> ?_⟩)) (fun j h3 h4=>⟨rfl,by simp at h4;unfold len;simp only;omega⟩) (fun j _ _=>by omega)
 have:=h.aan hi hh.1
 have e:=hh.2
 simp only[len] at e
 omega
theorem bj.eN{nb:Int}{br:List aI}{S:List Source}{C:List Consumer}(h:bj (bd nb br S C)){a:Int}(h0:0≤a)(h1:a≤nb-1)(c:Consumer):bj (bd nb (br++[⟨3,a,len C⟩]) S (C++[c])):=by
 refine h.snoc (Nat.le_refl _) (by simp) ⟨h0,h1⟩ (.inr (.inr ⟨rfl,by simp[len],fun i hi hh=> ?_⟩)) (fun j _ _=>by omega) (fun j h3 h4=>⟨rfl,by simp at h4;unfold len;simp only;omega⟩)
 have:=h.Uv hi hh.1
 have e:=hh.2.1
 simp only[len] at e
 omega
theorem bj.aid{nb:Int}{br:List aI}{S:List Source}{C:List Consumer}(h:bj (bd nb br S C)){a a':Int}(h0:0≤a)(h1:a≤nb-1)(h0':0≤a')(fT:a'≤nb-1)(be:a≠a')(c:Consumer):bj (bd nb (br++[⟨3,a,len C⟩]++[⟨3,a',len C⟩]) S (C++[c])):=by
 have h2:=h.eN h0 h1 c
 refine h2.snoc (Nat.le_refl _) (Nat.le_refl _) ⟨h0',fT⟩ (.inr (.inr ⟨rfl,by simp[len],fun i hi hh=> ?_⟩)) (fun j _ _=>by omega) (fun j _ _=>by omega)
 have cq:i<br.length+1:=by simpa using hi
 rw[sC cq] at hh
 by_cases hl:i<br.length
 · rw[if_pos hl] at hh
   have:=h.Uv hl hh.1
   have e:=hh.2.1
   simp only[len] at e
   omega
 · rw[if_neg hl] at hh
   exact be hh.2.2
structure m9(b:ak):Prop where
 ew:1≤b.ai∧b.ai≤4
 b_:b.ab.length≤18
 src:b.aa.length≤4
 eN:b.ae.length≤5
 BB:m_ b
 alR:∀x∈b.aa,10≤x.df∧x.df≤100
 load:∀x∈b.ae,0≤x.cX∧x.cX≤40
theorem m9.fO{b:ak}(h:m9 b):dL b:=⟨⟨h.ew.1,by have:=h.ew.2;omega⟩,by have:=h.b_;omega,by have:=h.src;omega,by have:=h.eN;omega⟩
theorem m9.sm{b:ak}(h:m9 b):bL b:=by
 refine⟨by have:=h.b_;unfold Sm;omega,by have:=h.src;unfold Sm;omega,by have:=h.eN;unfold Sm;omega,fun x hx=> ?_⟩
 obtain⟨k,hk,rfl⟩:=jO hx
 have:=(h.BB.2.2.2.2 k hk).2.2.2.2.2
 unfold Sm;omega
theorem m9.jj{b:ak}(h:m9 b):jj b=0:=sL.2 ⟨h.fO,h.BB⟩
theorem YE{l:List Int}{a:Int}(hs:Sr l a):Wp (HG ⟨l,a⟩) fun r=>Sr r.2.2.2.1 r.2.2.2.2.1∧m9 ⟨r.1,r.2.2.2.2.2.1,r.2.2.2.2.2.2.1,r.2.2.2.2.2.2.2,r.2.1,r.2.2.1⟩:=by
 unfold HG
 refine(tA hs (lo:=1) (hi:=4) (by omega) (by omega) (by omega) (by omega)).bind fun y hy=> ?_
 obtain⟨nb,l,a⟩:=y
 obtain⟨sh,hs⟩:=hy
 simp only at sh hs⊢
 refine(kP hs (by simp) (by simp)).bind fun y hy=> ?_
 obtain⟨ph,l,a,z⟩:=y
 obtain⟨hph,hs⟩:=hy
 simp only[List.mem_cons,List.not_mem_nil,or_false] at hph hs⊢
 refine(kP hs (by simp) (by simp)).bind fun y hy=> ?_
 obtain⟨fr,l,a,z⟩:=y
 obtain⟨cJ,hs⟩:=hy
 simp only[List.mem_cons,List.not_mem_nil,or_false] at cJ hs⊢
 refine Wp.bind (Q:=fun x=>∃l a br,x=(l,a,nb,ph,fr,br)∧Sr l a∧bj (bd nb br [] [])∧br.length≤3) ?_ fun x hx=> ?_
 · refine hG (nb-1).toNat (fun k s=>∃l a br,s=((k:Int)+1,l,a,nb,ph,fr,br)∧Sr l a∧bj (bd nb br [] [])∧br.length≤k) ⟨_,_,_,rfl,hs,⟨fun k hk=>absurd hk (by simp),fun j hj=>absurd hj (by simp),fun j hj=>absurd hj (by simp)⟩,Nat.le_refl _⟩ ?_ ?_
   · rintro k s hk ⟨l,a,br,rfl,hs,h1,h2⟩
     unfold N7
     simp only[dT (c:=(k:Int)+1<nb) (by omega),if_true]
     refine(iI hs (n:=6) (by omega) (by omega)).bind fun y hy=> ?_
     obtain⟨y,l,a⟩:=y
     obtain⟨hy,hs⟩:=hy
     simp only at hy hs⊢
     refine Wp.bind (Q:=fun x=>∃l a br,x=(l,a,nb,ph,fr,br)∧Sr l a∧bj (bd nb br [] [])∧br.length≤k+1) ?_ fun x hx=> ?_
     · refine Wp.ite (fun _=> ?_) (fun _=>ay.2 ⟨_,_,_,rfl,hs,h1,by omega⟩)
       refine(iI hs (n:=(k:Int)+1) (by omega) (by omega)).bind fun z hz=> ?_
       obtain⟨z,l,a⟩:=z
       obtain⟨hz,hs⟩:=hz
       simp only at hz hs⊢
       rw[c_ (by simp;omega)]
       exact ay.2 ⟨_,_,_,rfl,hs,h1.tie hz.1 (by omega) (by omega),by simp;omega⟩
     · obtain⟨l,a,Xk,rfl,hs,h3,h4⟩:=hx
       refine ay.2 ⟨l,a,Xk, ?_,hs,h3,h4⟩
       simp only
       rw[bO (by omega) (by omega)]
       rfl
   · rintro s ⟨l,a,br,rfl,hs,h1,h2⟩
     unfold N7
     simp only[dF (c:=(((nb-1).toNat:Nat):Int)+1<nb) (by omega),Bool.false_eq_true,if_false]
     exact ay.2 ⟨_,_,_,rfl,hs,h1,by omega⟩
 obtain⟨l,a,br1,rfl,hs,hx,cD⟩:=hx
 simp only
 refine Wp.bind (Q:=fun x=>∃c l a,x=(c,l,a)∧Sr l a∧(c=true→2<nb)) ?_ fun x k6=> ?_
 · refine Wp.ite (fun h=> ?_) (fun _=>ay.2 ⟨_,_,_,rfl,hs,fun h=>by cases h⟩)
   refine(iI hs (n:=2) (by omega) (by omega)).bind fun y hy=> ?_
   obtain⟨y,l,a⟩:=y
   exact ay.2 ⟨_,_,_,rfl,hy.2,fun _=>of_decide_eq_true h⟩
 obtain⟨more,l,a,rfl,hs,k6⟩:=k6
 simp only
 refine Wp.bind (Q:=fun x=>∃br,x=(nb,ph,fr,br)∧bj (bd nb br [] [])∧br.length≤4) ?_ fun x ui=> ?_
 · refine Wp.ite (fun h=> ?_) (fun _=>ay.2 ⟨_,rfl,hx,by omega⟩)
   have h2:=k6 h
   rw[c_ (by simp;omega),bO (x:=nb-1) (by omega) (by omega)]
   exact ay.2 ⟨_,rfl,hx.tie (Int.le_refl _) (by omega) (Int.le_refl _),by simp;omega⟩
 obtain⟨br2,rfl,ui,AU⟩:=ui
 simp only
 refine(iI hs (n:=5) (by omega) (by omega)).bind fun y hy=> ?_
 obtain⟨m,l,a⟩:=y
 obtain⟨hy,hs⟩:=hy
 simp only at hy hs⊢
 refine Wp.bind (Q:=fun x=>∃l a br S,x=(l,a,nb,ph,fr,br,S)∧Sr l a∧bj (bd nb br S [])∧br.length≤8∧S.length≤4∧∀s∈S,iW s∧10≤s.df∧s.df≤100) ?_ fun x hx=> ?_
 · refine hG m.toNat (fun k s=>∃l a br S,s=(m-k,l,a,nb,ph,fr,br,S)∧Sr l a∧bj (bd nb br S [])∧br.length≤4+k∧S.length=k∧∀q∈S,iW q∧10≤q.df∧q.df≤100) ⟨l,a,br2,[],by simp,hs,ui,by simpa using AU,rfl,by simp⟩ ?_ ?_
   · rintro k s hk ⟨l,a,br,S,rfl,hs,h1,h2,h3,h4⟩
     unfold N6
     simp only[dT (c:=m-(k:Int)>0) (by omega),if_true]
     refine(iI hs (n:=nb) (by omega) (by omega)).bind fun y nt=> ?_
     obtain⟨c,l,a⟩:=y
     obtain⟨nt,hs⟩:=nt
     simp only at nt hs⊢
     rw[c_ (xs:=br) (by simp;omega)]
     simp only[Option.bind_some]
     refine(kP hs (by simp) (by simp)).bind fun y hr=> ?_
     obtain⟨r,l,a,z⟩:=y
     obtain⟨hr,hs⟩:=hr
     simp only[List.mem_cons,List.not_mem_nil,or_false] at hr hs⊢
     refine(kP hs (by simp) (by simp)).bind fun y hl=> ?_
     obtain⟨le,l,a,z⟩:=y
     obtain⟨hl,hs⟩:=hl
     simp only[List.mem_cons,List.not_mem_nil,or_false] at hl hs⊢
     refine(kP hs (by simp) (by simp)).bind fun y ht=> ?_
     obtain⟨st,l,a,z⟩:=y
     obtain⟨ht,hs⟩:=ht
     simp only[List.mem_cons,List.not_mem_nil,or_false] at ht hs⊢
     rw[c_ (xs:=S) (by simp;omega)]
     simp only[Option.bind_some]
     refine ay.2 ⟨l,a,_,_, ?_,hs,h1.src nt.1 (by omega) ⟨r,le,st⟩,by simp;omega,by simp;omega,fun q hq=> ?_⟩
     · rw[bO (by omega) (by omega),show m-(k:Int)-1=m-((k+1:Nat):Int) from by omega]
     · rcases List.mem_append.1 hq with hq|hq
       · exact h4 q hq
       · simp only[List.mem_singleton] at hq
         subst hq
         unfold iW
         simp only
         omega
   · rintro s ⟨l,a,br,S,rfl,hs,h1,h2,h3,h4⟩
     unfold N6
     simp only[dF (c:=m-((m.toNat:Nat):Int)>0) (by omega),Bool.false_eq_true,if_false]
     exact ay.2 ⟨_,_,_,_,rfl,hs,h1,by omega,by omega,h4⟩
 obtain⟨l,a,br3,S,rfl,hs,g1,g2,g3,g4⟩:=hx
 simp only
 refine(iI hs (n:=6) (by omega) (by omega)).bind fun y nt=> ?_
 obtain⟨m2,l,a⟩:=y
 obtain⟨nt,hs⟩:=nt
 simp only at nt hs⊢
 refine Wp.bind (Q:=fun x=>∃l a br C,x=(l,a,nb,ph,fr,br,C)∧Sr l a∧bj (bd nb br S C)∧br.length≤18∧C.length≤5∧(∀k,k<C.length→iG (gt C k) k)∧∀c∈C,0≤c.cX∧c.cX≤40) ?_ fun x hx=> ?_
 · refine hG m2.toNat (fun k s=>∃l a br C,s=(m2-k,l,a,nb,ph,fr,br,C)∧Sr l a∧bj (bd nb br S C)∧br.length≤8+2*k∧C.length=k∧(∀j,j<C.length→iG (gt C j) j)∧∀c∈C,0≤c.cX∧c.cX≤40) ⟨l,a,br3,[],by simp,hs,g1,by simpa using g2,rfl,fun j hj=>absurd hj (by simp),by simp⟩ ?_ ?_
   · rintro k s hk ⟨l,a,br,C,rfl,hs,h1,h2,h3,h4,h5⟩
     unfold N5
     simp only[dT (c:=m2-(k:Int)>0) (by omega),if_true]
     refine(iI hs (n:=nb) (by omega) (by omega)).bind fun y AQ=> ?_
     obtain⟨c,l,a⟩:=y
     obtain⟨AQ,hs⟩:=AQ
     simp only at AQ hs⊢
     rw[c_ (xs:=br) (by simp;omega)]
     simp only[Option.bind_some]
     refine Wp.bind (Q:=fun x=>∃c l a,x=(c,l,a)∧Sr l a∧(c=true→1<nb)) ?_ fun x AT=> ?_
     · refine Wp.ite (fun h=> ?_) (fun _=>ay.2 ⟨_,_,_,rfl,hs,fun h=>by cases h⟩)
       refine(iI hs (n:=4) (by omega) (by omega)).bind fun y hy=> ?_
       obtain⟨y,l,a⟩:=y
       exact ay.2 ⟨_,_,_,rfl,hy.2,fun _=>of_decide_eq_true h⟩
     obtain⟨two,l,a,rfl,hs,AT⟩:=AT
     simp only
     refine Wp.bind (Q:=fun x=>∃br,x=(nb,ph,fr,br)∧(∀c,bj (bd nb br S (C++[c])))∧br.length≤8+2*(k+1)) ?_ fun x hx7=> ?_
     · refine Wp.ite (fun h=> ?_) (fun _=>ay.2 ⟨_,rfl,fun q=>h1.eN AQ.1 (by omega) q,by simp;omega⟩)
       have sh:=AT h
       have e1:iJ (W (c+1)) nb=some ((c+1)% nb):=by
        rw[bO (by omega) (by omega),P8 (by omega) (by omega)]
       rw[e1]
       simp only[Option.bind_some]
       rw[c_ (by simp;omega)]
       have hm0:0≤(c+1)% nb:=Int.emod_nonneg _ (by omega)
       have SI:(c+1)% nb<nb:=Int.emod_lt_of_pos _ (by omega)
       have be:c≠(c+1)% nb:=by
        by_cases ha:c+1<nb
        · rw[Int.emod_eq_of_lt (by omega) ha];omega
        · have:c+1=nb:=by omega
          rw[this,Int.emod_self]
          omega
       exact ay.2 ⟨_,rfl,fun q=>h1.aid AQ.1 (by omega) hm0 (by omega) be q,by simp;omega⟩
     obtain⟨Xk,rfl,iE,ss⟩:=hx7
     simp only
     refine(kP hs (by simp) (by simp)).bind fun y hl=> ?_
     obtain⟨lo,l,a,z⟩:=y
     obtain⟨hl,hs⟩:=hl
     simp only[List.mem_cons,List.not_mem_nil,or_false] at hl hs⊢
     rw[Qp (by omega) (by omega) (by omega)]
     simp only[Option.bind_some]
     refine(kP hs (by simp) (by simp)).bind fun y hle=> ?_
     obtain⟨le,l,a,z⟩:=y
     obtain⟨hle,hs⟩:=hle
     simp only[List.mem_cons,List.not_mem_nil,or_false] at hle hs⊢
     refine(iI hs (n:=3) (by omega) (by omega)).bind fun y KO=> ?_
     obtain⟨pr,l,a⟩:=y
     obtain⟨KO,hs⟩:=KO
     simp only at KO hs⊢
     refine(tA hs (lo:= -1) (hi:=2) (by omega) (by omega) (by omega) (by omega)).bind fun y KE=> ?_
     obtain⟨th,l,a⟩:=y
     obtain⟨KE,hs⟩:=KE
     simp only at KE hs⊢
     refine Wp.bind (Q:=fun x=>∃c l a,x=(c,l,a)∧Sr l a∧(c=true→0<k)) ?_ fun x Kw=> ?_
     · refine Wp.ite (fun h=> ?_) (fun _=>ay.2 ⟨_,_,_,rfl,hs,fun h=>by cases h⟩)
       refine(iI hs (n:=4) (by omega) (by omega)).bind fun y hy=> ?_
       obtain⟨y,l,a⟩:=y
       exact ay.2 ⟨_,_,_,rfl,hy.2,fun _=>by have:=of_decide_eq_true h;unfold len at this;omega⟩
     obtain⟨nd,l,a,rfl,hs,Kw⟩:=Kw
     simp only
     refine Wp.bind (Q:=fun x=>∃l a w,x=(l,a,lo,le,pr,th,w)∧Sr l a∧HO w k∧w.length≤4) ?_ fun x Kv=> ?_
     · refine Wp.ite (fun h=> ?_) (fun _=>ay.2 ⟨_,_,_,rfl,hs,fun i hi=>absurd hi (by simp),by simp⟩)
       have lj:=Kw h
       refine(iI hs (n:=len C) (by unfold len;omega) (by unfold len;omega)).bind fun y Kr=> ?_
       obtain⟨y,l,a⟩:=y
       obtain⟨Kr,hs⟩:=Kr
       simp only[len] at Kr hs⊢
       refine ay.2 ⟨_,_,_,rfl,hs,fun i hi=> ?_,by simp⟩
       have ix:i=0:=by simp at hi;omega
       subst ix
       have e:gt [y] 0=y:=rfl
       rw[e]
       exact⟨by omega,fun h=>by omega⟩
     obtain⟨l,a,ach,rfl,hs,Kv,ad7⟩:=Kv
     simp only
     rw[c_ (xs:=C) (by simp;omega)]
     simp only[Option.bind_some]
     refine ay.2 ⟨l,a,_,_, ?_,hs,iE ⟨lo,le,pr,th,ach⟩,by omega,by simp;omega,fun j hj=> ?_,fun c hc=> ?_⟩
     · rw[bO (by omega) (by omega),show m2-(k:Int)-1=m2-((k+1:Nat):Int) from by omega]
     · have eo:j<C.length+1:=by simpa using hj
       rw[sC eo]
       by_cases bZ:j<C.length
       · rw[if_pos bZ];exact h4 j bZ
       · rw[if_neg bZ]
         have:j=k:=by omega
         subst this
         refine⟨Kv, ?_, ?_, ?_, ?_,ad7⟩<;>simp only<;>omega
     · rcases List.mem_append.1 hc with hc|hc
       · exact h5 c hc
       · simp only[List.mem_singleton] at hc
         subst hc
         simp only
         omega
   · rintro s ⟨l,a,br,C,rfl,hs,h1,h2,h3,h4,h5⟩
     unfold N5
     simp only[dF (c:=m2-((m2.toNat:Nat):Int)>0) (by omega),Bool.false_eq_true,if_false]
     exact ay.2 ⟨_,_,_,_,rfl,hs,h1,by omega,by omega,h4,h5⟩
 obtain⟨l,a,br4,C,rfl,hs,k1,k2,k3,k4,k5⟩:=hx
 simp only
 exact ay.2 ⟨hs,sh,k2,g3,k3,⟨⟨fun k hk=>k1.1 k hk,k1.2.1,k1.2.2⟩,by simp only;omega,by simp only;omega,fun k hk=>(g4 _ (cr hk)).1,k4⟩,fun s hs=>(g4 s hs).2,k5⟩
end Rx
namespace Rx
open Classical
theorem yj{b:ak}{p q:ah}{j:Int}{n:Nat}(h:∀i,i<n→(gt b.ab i).Kind=3→(gt b.ab i).B=j→gt p.al i=gt q.al i):cK b p j n=cK b q j n:=by
 induction n with
 |zero=>rfl
 |succ n ih=>
  unfold cK
  rw[ih fun i hi=>h i (by omega)]
  congr 1
  by_cases h1:(gt b.ab n).Kind=3
  · by_cases h2:(gt b.ab n).B=j
    · rw[h n (by omega) h1 h2]
    · simp[h2]
  · simp[h1]
abbrev pc(cl:List Bool):ah:=⟨cl,[],[],[]⟩
theorem lI(a b c:Int):gC a b c=some (decide (b≤a∧a≤c)):=by
 unfold gC
 by_cases h:b≤a<;>simp[h]
theorem exists_eq{b:ak}(hb:dL b)(x:Part):BP b x=some (decide (0≤x.Number∧x.Number≤bsize b x.Kind-1)):=by
 have h1:=hb.ew
 have h2:=hb.b_
 have h3:=hb.src
 have h4:=hb.eN
 have e1:W (len b.aa-1)=(b.aa.length:Int)-1:=by unfold len;exact bO (by omega) (by omega)
 have e2:W (len b.ab-1)=(b.ab.length:Int)-1:=by unfold len;exact bO (by omega) (by omega)
 have e3:W (b.ai-1)=b.ai-1:=bO (by omega) (by omega)
 have e4:W (len b.ae-1)=(b.ae.length:Int)-1:=by unfold len;exact bO (by omega) (by omega)
 unfold BP bsize
 simp only[lI,e1,e2,e3,e4]
 by_cases k1:x.Kind=1
 · simp[k1]
 by_cases k2:x.Kind=2
 · simp[k2]
 by_cases k3:x.Kind=3
 · simp[k3]
 by_cases k4:x.Kind=4
 · simp[k4]
 have:¬(0≤x.Number∧x.Number≤(0:Int)-1):=by omega
 simp[k1,k2,k3,k4]
 omega
theorem ab8{b:ak}(hb:Sm b.ab)(i:Nat)(w:List Bool){cl:List Bool}(hl:cl.length=b.ab.length):
  Wp (aC (HC b ((i:Int),w)) (true,0,cl)) fun r=>r.length=b.ab.length∧cK b (pc r) (i:Int) b.ab.length≤1∧∀k,¬kY (gt b.ab k) i→gt r k=gt cl k:=by
 refine hG b.ab.length (fun k s=>∃f c,s=(f,(k:Int),c)∧c.length=b.ab.length∧cK b (pc c) (i:Int) k=(if f=true then 0 else 1)∧∀j,(k≤j∨¬kY (gt b.ab j) i)→gt c j=gt cl j) ⟨_,_,rfl,hl,rfl,fun _ _=>rfl⟩ ?_ ?_
 · rintro k s hk ⟨f,c,rfl,h1,h2,h3⟩
   have hs:=cN hb hk
   unfold HC
   simp only[aU hk,if_true,aD hk,aD (show k<c.length by omega),Option.bind_some,aX hs,fM (show k<c.length by omega)]
   by_cases hc:kY (gt b.ab k) i
   · rw[dU hc.1,dU hc.2]
     simp only[if_true,Option.bind_some]
     cases hv:gt c k with
     |true=>
      simp only[if_true,Option.bind_some]
      refine ay.2 ⟨_,_,rfl,by simpa using h1, ?_,fun j hj=> ?_⟩
      · simp only[Bool.false_eq_true,if_false]
        unfold cK
        have e1:cK b (pc (c.set k f)) (i:Int) k=cK b (pc c) (i:Int) k:=yj fun j hj _ _=>by
         show gt (c.set k f) j=gt c j
         rw[dI (by omega),if_neg (by omega)]
        have e2:gt (c.set k f) k=f:=by rw[dI (by omega),if_pos rfl]
        rw[e1,h2]
        cases f with
        |true=>simp[hc.1,hc.2,e2]
        |false=>simp[e2]
      · rw[dI (by omega)]
        by_cases lm:j=k
        · subst lm
          rcases hj with hj|hj
          · omega
          · exact(hj hc).elim
        · rw[if_neg lm]
          exact h3 j (hj.imp (fun h=>by omega) id)
     |false=>
      simp only[Bool.false_eq_true,if_false,Option.bind_some]
      refine ay.2 ⟨_,_,rfl,h1, ?_,fun j hj=>h3 j (hj.imp (fun h=>by omega) id)⟩
      show cK b (pc c) (i:Int) k+_=_
      rw[h2]
      simp[hv]
   · have:(if((gt b.ab k).Kind==3)=true then(if((gt b.ab k).B==(i:Int))=true then some (gt c k) else some false) else some false:Option Bool)=some false:=by
      by_cases h4:(gt b.ab k).Kind=3
      · have h5:(gt b.ab k).B≠(i:Int):=fun h=>hc ⟨h4,h⟩
        rw[dU h4,bW h5];rfl
      · rw[bW h4];rfl
     rw[this]
     simp only[Option.bind_some,Bool.false_eq_true,if_false]
     refine ay.2 ⟨_,_,rfl,h1, ?_,fun j hj=>h3 j (hj.imp (fun h=>by omega) id)⟩
     have hz:¬((gt b.ab k).Kind=3∧(gt b.ab k).B=(i:Int)∧gt c k=true):=fun h=>hc ⟨h.1,h.2.1⟩
     show cK b (pc c) (i:Int) k+(if(gt b.ab k).Kind=3∧(gt b.ab k).B=(i:Int)∧gt c k=true then 1 else 0)=_
     rw[h2,if_neg hz,Nat.add_zero]
 · rintro s ⟨f,c,rfl,h1,h2,h3⟩
   unfold HC
   simp only[bA,Bool.false_eq_true,if_false]
   refine ay.2 ⟨h1, ?_,fun k hk=>h3 k (.inr hk)⟩
   rw[h2]
   split<;>omega
structure CF(b:ak)(p:ah):Prop where
 shape:Shape b p
 BB:qf b p
 ak1:p.ax.length≤4
 amr:∀x∈p.aa,4950≤x.aB∧x.aB≤5005
theorem CF.sm{b:ak}{p:ah}(hb:m9 b)(h:CF b p):bf p:=by
 obtain⟨h1,h2,h3⟩:=h.shape
 have:=hb.b_
 have:=hb.src
 have:=hb.eN
 have:=h.ak1
 exact⟨by unfold Sm;omega,by unfold Sm;omega,by unfold Sm;omega,by unfold Sm;omega⟩
theorem CF.aH{b:ak}{p:ah}(hb:m9 b)(h:CF b p):aH b p=0:=by
 unfold Go.Proofs.YtaneejpkncdodaaGreat.Rx.aH
 rw[if_pos hb.jj,if_pos h.shape,if_pos h.BB]
def alE(b:ak)(l:List Int)(a:Int)(cl:List Bool)(run:List az)(fO:List Int)(b_:List Part):Prop:=Sr l a∧CF b ⟨cl,run,fO,b_⟩
theorem Yr{l:List Int}{a:Int}(hs:Sr l a){b:ak}(hb:m9 b):Wp (HD ⟨l,a⟩ b) fun r=>∃l a cl run fO b_,r=(l,a,b.ab,b.aa,b.ae,cl,run,fO,b_)∧alE b l a cl run fO b_:=by
 have iE:=hb.b_
 have iN:=hb.src
 have xI:=hb.eN
 have de:=hb.sm
 unfold HD
 refine Wp.bind (Q:=fun x=>∃l a cl,x=(l,a,cl)∧Sr l a∧cl.length=b.ab.length) ?_ fun x hx=> ?_
 · refine hG b.ab.length (fun k s=>∃l a cl,s=((k:Int),l,a,cl)∧Sr l a∧cl.length=k) ⟨_,_,_,rfl,hs,rfl⟩ ?_ ?_
   · rintro k s hk ⟨l,a,cl,rfl,hs,h1⟩
     unfold N3
     simp only[aU hk,if_true]
     refine(iI hs (n:=2) (by omega) (by omega)).bind fun y hy=> ?_
     obtain⟨y,l,a⟩:=y
     simp only
     rw[c_ (by simp;omega)]
     exact ay.2 ⟨_,_,_,by rw[aX (by omega)],hy.2,by simp;omega⟩
   · rintro s ⟨l,a,cl,rfl,hs,h1⟩
     unfold N3
     simp only[bA,Bool.false_eq_true,if_false]
     exact ay.2 ⟨_,_,_,rfl,hs,h1⟩
 obtain⟨l,a,cl0,rfl,hs,hx⟩:=hx
 simp only
 refine Wp.bind (Q:=fun c:List Bool=>c.length=b.ab.length∧∀j,j<b.ae.length→cK b (pc c) (j:Int) b.ab.length≤1) ?_ fun cl cg=> ?_
 · refine hG b.ae.length (fun k s=>∃c,s=((k:Int),c)∧c.length=b.ab.length∧∀j,j<k→cK b (pc c) (j:Int) b.ab.length≤1) ⟨_,rfl,hx,fun j hj=>by omega⟩ ?_ ?_
   · rintro k s hk ⟨c,rfl,h1,h2⟩
     unfold N2
     simp only[aU hk,if_true]
     refine(ab8 de.1 k c h1).bind fun r hr=> ?_
     refine ay.2 ⟨_,by rw[aX (by omega)],hr.1,fun j hj=> ?_⟩
     by_cases lm:j=k
     · subst lm;exact hr.2.1
     · rw[yj (q:=pc c) fun i hi h3 h4=>hr.2.2 i fun hh=>by have:=hh.2;omega]
       exact h2 j (by omega)
   · rintro s ⟨c,rfl,h1,h2⟩
     unfold N2
     simp only[bA,Bool.false_eq_true,if_false]
     exact ay.2 ⟨h1,h2⟩
 refine Wp.bind (Q:=fun x=>∃l a run,x=(l,a,run)∧Sr l a∧run.length=b.aa.length∧∀r∈run,dq r∧4950≤r.aB∧r.aB≤5005) ?_ fun x k6=> ?_
 · refine hG b.aa.length (fun k s=>∃l a run,s=((k:Int),l,a,run)∧Sr l a∧run.length=k∧∀r∈run,dq r∧4950≤r.aB∧r.aB≤5005) ⟨_,_,_,rfl,hs,rfl,by simp⟩ ?_ ?_
   · rintro k s hk ⟨l,a,run,rfl,hs,h1,h2⟩
     unfold N1
     simp only[aU hk,if_true]
     refine(kP hs (by simp) (by simp)).bind fun y e1=> ?_
     obtain⟨y1,l,a,z⟩:=y
     obtain⟨e1,hs⟩:=e1
     simp only[List.mem_cons,List.not_mem_nil,or_false] at e1 hs⊢
     refine(iI hs (n:=5) (by omega) (by omega)).bind fun y e2=> ?_
     obtain⟨y2,l,a⟩:=y
     obtain⟨e2,hs⟩:=e2
     simp only at e2 hs⊢
     refine(kP hs (by simp) (by simp)).bind fun y e3=> ?_
     obtain⟨y3,l,a,z⟩:=y
     obtain⟨e3,hs⟩:=e3
     simp only[List.mem_cons,List.not_mem_nil,or_false] at e3 hs⊢
     refine(kP hs (by simp) (by simp)).bind fun y e4=> ?_
     obtain⟨y4,l,a,z⟩:=y
     obtain⟨e4,hs⟩:=e4
     simp only[List.mem_cons,List.not_mem_nil,or_false] at e4 hs⊢
     rw[c_ (by simp;omega)]
     simp only[Option.bind_some]
     refine ay.2 ⟨_,_,_,by rw[aX (by omega)],hs,by simp;omega,fun r hr=> ?_⟩
     rcases List.mem_append.1 hr with hr|hr
     · exact h2 r hr
     · simp only[List.mem_singleton] at hr
       subst hr
       unfold dq
       simp only
       omega
   · rintro s ⟨l,a,run,rfl,hs,h1,h2⟩
     unfold N1
     simp only[bA,Bool.false_eq_true,if_false]
     exact ay.2 ⟨_,_,_,rfl,hs,h1,h2⟩
 obtain⟨l,a,run,rfl,hs,k6,R7⟩:=k6
 simp only
 refine Wp.bind (Q:=fun x=>∃l a fO,x=(l,a,fO)∧Sr l a∧fO.length=b.ae.length∧∀k,k<b.ae.length→0≤gt fO k∧gt fO k≤(gt b.ae k).cX) ?_ fun x ui=> ?_
 · refine hG b.ae.length (fun k s=>∃l a fO,s=((k:Int),l,a,fO)∧Sr l a∧fO.length=k∧∀j,j<k→0≤gt fO j∧gt fO j≤(gt b.ae j).cX) ⟨_,_,_,rfl,hs,rfl,fun j hj=>by omega⟩ ?_ ?_
   · rintro k s hk ⟨l,a,fO,rfl,hs,h1,h2⟩
     have ln:=hb.BB.2.2.2.2 k hk
     unfold N0
     have lU:=ln.2.1
     have hls:=ln.2.2.1
     simp only[aU hk,if_true,aD hk,Option.bind_some]
     rw[Qp lU.1 (by omega) (by omega)]
     simp only[Option.bind_some]
     refine(kP hs (by simp) (by simp)).bind fun y e1=> ?_
     obtain⟨y1,l,a,z⟩:=y
     obtain⟨e1,hs⟩:=e1
     simp only[List.mem_cons,List.not_mem_nil,or_false] at e1 hs⊢
     rw[c_ (by simp;omega)]
     simp only[Option.bind_some]
     refine ay.2 ⟨_,_,_,by rw[aX (by omega)],hs,by simp;omega,fun j hj=> ?_⟩
     rw[sC (by omega)]
     by_cases bZ:j<fO.length
     · rw[if_pos bZ];exact h2 j (by omega)
     · rw[if_neg bZ]
       have:j=k:=by omega
       subst this
       omega
   · rintro s ⟨l,a,fO,rfl,hs,h1,h2⟩
     unfold N0
     simp only[bA,Bool.false_eq_true,if_false]
     exact ay.2 ⟨_,_,_,rfl,hs,h1,h2⟩
 obtain⟨l,a,fO,rfl,hs,ui,ad6⟩:=ui
 simp only
 refine Wp.bind (Q:=fun x=>∃l a b_,x=(l,a,b_)∧Sr l a∧b_.length≤4∧∀k,k<b_.length→kL b b_ k) ?_ fun x AU=> ?_
 · refine hG 4 (fun k s=>∃l a b_,s=((k:Int)+1,l,a,b_)∧Sr l a∧b_.length≤k∧(∀x∈b_,x.Kind≤(k:Int))∧∀j,j<b_.length→kL b b_ j) ⟨_,_,_,rfl,hs,Nat.le_refl _,by simp,fun j hj=>absurd hj (by simp)⟩ ?_ ?_
   · rintro k s hk ⟨l,a,b_,rfl,hs,h1,h2,h3⟩
     unfold NZ
     simp only[dT (c:=(k:Int)+1≤4) (by omega),if_true]
     refine(iI hs (n:=5) (by omega) (by omega)).bind fun y hy=> ?_
     obtain⟨y1,l,a⟩:=y
     obtain⟨hy,hs⟩:=hy
     simp only at hy hs⊢
     refine Wp.bind (Q:=fun x=>∃l a b_,x=(l,a,b_)∧Sr l a∧b_.length≤k+1∧(∀q∈b_,q.Kind≤(k:Int)+1)∧∀j,j<b_.length→kL b b_ j) ?_ fun x hx5=> ?_
     · refine Wp.ite (fun _=> ?_) (fun _=>ay.2 ⟨_,_,_,rfl,hs,by omega,fun q hq=>by have:=h2 q hq;omega,h3⟩)
       refine(iI hs (n:=4) (by omega) (by omega)).bind fun y e1=> ?_
       obtain⟨y2,l,a⟩:=y
       obtain⟨e1,hs⟩:=e1
       simp only at e1 hs⊢
       rw[exists_eq hb.fO]
       simp only[Option.bind_some,Option.bind_fun_some]
       refine Wp.bind (Q:=fun x:List Part=>x.length≤k+1∧(∀q∈x,q.Kind≤(k:Int)+1)∧∀j,j<x.length→kL b x j) ?_ fun x AT=>ay.2 ⟨_,_,_,rfl,hs,AT⟩
       refine Wp.ite (fun he=> ?_) (fun _=>ay.2 ⟨by omega,fun q hq=>by have:=h2 q hq;omega,h3⟩)
       have iC:=of_decide_eq_true he
       rw[c_ (by simp;omega)]
       refine ay.2 ⟨by simp;omega,fun q hq=> ?_,fun j hj=> ?_⟩
       · rcases List.mem_append.1 hq with hq|hq
         · have:=h2 q hq;omega
         · simp only[List.mem_singleton] at hq
           subst hq
           exact Int.le_refl _
       · have eo:j<b_.length+1:=by simpa using hj
         unfold kL
         rw[sC eo]
         by_cases bZ:j<b_.length
         · rw[if_pos bZ,sC (by omega),if_pos (by omega)]
           exact h3 j bZ
         · rw[if_neg bZ]
           refine⟨iC,fun h0=> .inl ?_⟩
           rw[sC (by omega),if_pos (by omega)]
           have:=h2 _ (cr (show j-1<b_.length by omega))
           simp only
           omega
     · obtain⟨l,a,ak5,rfl,hs,q1,q2,q3⟩:=hx5
       refine ay.2 ⟨l,a,ak5, ?_,hs,q1,fun q hq=>by have:=q2 q hq;omega,q3⟩
       rw[bO (by omega) (by omega),show(k:Int)+1+1=((k+1:Nat):Int)+1 from by omega]
   · rintro s ⟨l,a,b_,rfl,hs,h1,h2,h3⟩
     unfold NZ
     simp only[dF (c:=((4:Nat):Int)+1≤4) (by omega),Bool.false_eq_true,if_false]
     exact ay.2 ⟨_,_,_,rfl,hs,h1,h3⟩
 obtain⟨l,a,b_,rfl,hs,AU,ad5⟩:=AU
 simp only
 refine ay.2 ⟨_,_,_,_,_,_,rfl,hs,⟨cg.1,k6,ui⟩,⟨⟨ad5,by simp only;omega⟩,fun k hk=>(R7 _ (cr hk)).1,fun k hk=> ?_⟩,AU,fun r hr=>(R7 r hr).2⟩
 simp only at hk
 have bB:k<b.ae.length:=by omega
 refine⟨ad6 k bB, ?_⟩
 exact Nat.le_trans (Nat.le_of_eq (yj (b:=b) (p:=⟨cl,run,fO,b_⟩) (q:=pc cl) (fun _ _ _ _=>rfl))) (cg.2 k bB)
end Rx
namespace Rx
def gb(b:ak)(p:ah)(kind j:Int)(k:Nat):Bool:=((gt b.ab k).Kind==kind&&(gt b.ab k).B==j)&&gt p.al k
def cB(b:ak)(p:ah)(kind j:Int):Int×Bool:=match(List.range b.ab.length).find? (gb b p kind j) with
 |some k=>((gt b.ab k).A,true)
 |none=>(0,false)
theorem Rs{b:ak}{p:ah}(hs:Sm b.ab)(hc:p.al.length=b.ab.length)(kind j:Int):Cd b p kind j=some (cB b p kind j):=by
 have h:=km (step:=yC b p kind j) (fun k=>(k:Int)) b.ab.length (gb b p kind j) (R:=fun k=> .inr ((gt b.ab k).A,true)) (e:= .inl ())
  (fun k hk hp=>by
    simp only[yC,aU hk,if_true,aD hk,aD (show k<p.al.length by omega),Option.bind_some,Option.bind_fun_some,Sum.elim_inl,Sum.elim_inr,a_,aX (cN hs hk)]
    unfold gb at hp
    cases h1:(gt b.ab k).Kind==kind with
    |false=>simp
    |true=>
     cases h2:(gt b.ab k).B==j with
     |false=>simp
     |true=>
      rw[h1,h2] at hp
      simp only[Bool.and_self,Bool.true_and] at hp
      simp[hp])
  (fun k hk hp=>by
    simp only[yC,aU hk,if_true,aD hk,aD (show k<p.al.length by omega),Option.bind_some,Option.bind_fun_some,Sum.elim_inl,Sum.elim_inr,a_]
    unfold gb at hp
    simp only[Bool.and_eq_true] at hp
    simp[hp.1.1,hp.1.2,hp.2])
  (by simp only[yC,bA,Bool.false_eq_true,if_false])
 have h':aC (yC b p kind j) 0=_:=h
 unfold Cd cB
 rw[h']
 cases(List.range b.ab.length).find? (gb b p kind j)<;>rfl
def conn(b:ak)(p:ah)(j:Int):Int×Bool:=if 0≤j∧j≤(p.aa.length:Int)-1 then(if(gt p.aa j.toNat).State=2 then cB b p 2 j else(0,false)) else(0,false)
theorem Ut{b:ak}{p:ah}(hs:Sm b.ab)(hp:Sm p.aa)(hc:p.al.length=b.ab.length)(j:Int):Ci b p j=some (conn b p j):=by
 unfold Sm at hp
 have e1:W (len p.aa-1)=(p.aa.length:Int)-1:=by unfold len;exact bO (by omega) (by omega)
 unfold Ci conn
 simp only[e1,mE,Option.bind_some,Option.bind_fun_some,Sum.elim_inl,Sum.elim_inr,a_]
 by_cases h:0≤j∧j≤(p.aa.length:Int)-1
 · rw[dT h,if_pos h]
   simp only[Bool.not_true,Bool.false_eq_true,if_false,eU h.1 (show j<(p.aa.length:Int) by omega),Option.bind_some,Option.bind_fun_some,Sum.elim_inl,Sum.elim_inr,a_,Rs hs hc]
   by_cases h2:(gt p.aa j.toNat).State=2
   · simp[h2]
   · simp[h2]
 · rw[dF h,if_neg h]
   rfl
theorem T5{b:ak}{p:ah}(hs:Sm b.ab)(hc:p.al.length=b.ab.length)(j:Int):Ch b p j=some (cB b p 3 j):=by
 unfold Ch
 rw[Rs hs hc]
 rfl
def least(f:List Int)(x:aI):Int:=if gt f x.B.toNat<gt f x.A.toNat then gt f x.B.toNat else gt f x.A.toNat
def kb(b:ak)(p:ah)(f:List Int)(k:Nat):List Int:=
 if(gt b.ab k).Kind=1∧gt p.al k=true then(f.set (gt b.ab k).A.toNat (least f (gt b.ab k))).set (gt b.ab k).B.toNat (least f (gt b.ab k)) else f
def eE(b:ak)(p:ah):Nat→List Int→List Int
 |0,f=>f
 |k+1,f=>kb b p (eE b p k f) k
def rounds(b:ak)(p:ah):Nat→List Int→List Int
 |0,f=>f
 |r+1,f=>eE b p b.ab.length (rounds b p r f)
def own(n:Nat):List Int:=(List.range n).map Int.ofNat
def bl(b:ak)(p:ah):List Int:=rounds b p b.ai.toNat (own b.ai.toNat)
theorem Pg(b:ak)(p:ah)(f:List Int)(k:Nat):(kb b p f k).length=f.length:=by unfold kb;split<;>simp
theorem Ph(b:ak)(p:ah)(k:Nat)(f:List Int):(eE b p k f).length=f.length:=by
 induction k with
 |zero=>rfl
 |succ k ih=>unfold eE;rw[Pg,ih]
theorem P3(b:ak)(p:ah)(r:Nat)(f:List Int):(rounds b p r f).length=f.length:=by
 induction r with
 |zero=>rfl
 |succ r ih=>unfold rounds;rw[Ph,ih]
theorem Mg(b:ak)(p:ah):(bl b p).length=b.ai.toNat:=by unfold bl;rw[P3];simp[own]
theorem Jv{n k:Nat}(h:k<n):gt (own n) k=(k:Int):=by unfold own;rw[fU _ h];rfl
theorem aaT{b:ak}{p:ah}(hb:bj b)(hs:Sm b.ab)(hc:p.al.length=b.ab.length){f:List Int}(hf:(f.length:Int)=b.ai):aC (Ce b p) ((0:Int),f)=some (eE b p b.ab.length f):=by
 refine dP (step:=Ce b p) (fun k=>((k:Int),eE b p k f)) b.ab.length (fun k hk=> ?_) (by simp only[Ce,bA,Bool.false_eq_true,if_false])
 have dz:=hb.1 k hk
 have hl:=Ph b p k f
 simp only[Ce,aU hk,if_true,aD hk,aD (show k<p.al.length by omega),Option.bind_some,Option.bind_fun_some,Sum.elim_inl,Sum.elim_inr,a_,aX (cN hs hk)]
 by_cases h1:(gt b.ab k).Kind=1
 · rw[dU h1]
   simp only[if_true,Option.bind_some,Option.bind_fun_some,Sum.elim_inl,Sum.elim_inr,a_]
   cases h2:gt p.al k with
   |false=>
    simp only[Bool.false_eq_true,if_false,Option.bind_some,Option.bind_fun_some,Sum.elim_inl,Sum.elim_inr,a_]
    have e:eE b p (k+1) f=eE b p k f:=by
     show kb b p (eE b p k f) k=_
     unfold kb
     rw[if_neg (fun h=>by rw[h2] at h;exact absurd h.2 (by simp))]
    rw[e]
   |true=>
    have hA:=dz.1
    have hB:(gt b.ab k).A+1≤(gt b.ab k).B∧(gt b.ab k).B≤b.ai-1:=by
     rcases dz.2 with h|h|h
     · exact h.2
     · have:=h.1;omega
     · have:=h.1;omega
    simp only[if_true,eU hA.1 (show(gt b.ab k).A<((eE b p k f).length:Int) by omega),eU (show 0≤(gt b.ab k).B by omega) (show(gt b.ab k).B<((eE b p k f).length:Int) by omega),Option.bind_some,Option.bind_fun_some,Sum.elim_inl,Sum.elim_inr,a_]
    have e:eE b p (k+1) f=((eE b p k f).set (gt b.ab k).A.toNat (least (eE b p k f) (gt b.ab k))).set (gt b.ab k).B.toNat (least (eE b p k f) (gt b.ab k)):=by
     show kb b p (eE b p k f) k=_
     unfold kb
     rw[if_pos ⟨h1,h2⟩]
    rw[ww hA.1 (by omega)]
    simp only[Option.bind_some,Option.bind_fun_some,Sum.elim_inl,Sum.elim_inr,a_]
    rw[ww (by omega) (by simp;omega),e,eU (show 0≤(gt b.ab k).B by omega) (by simp;omega)]
    rfl
 · rw[bW h1]
   simp only[Bool.false_eq_true,if_false,Option.bind_some,Option.bind_fun_some,Sum.elim_inl,Sum.elim_inr,a_]
   have e:eE b p (k+1) f=eE b p k f:=by
    show kb b p (eE b p k f) k=_
    unfold kb
    rw[if_neg (fun h=>h1 h.1)]
   rw[e]
theorem agW{b:ak}{p:ah}(hl:dL b)(hb:bj b)(hs:Sm b.ab)(hc:p.al.length=b.ab.length):Hg b p=some (bl b p):=by
 have iD:=hl.ew
 obtain⟨n,hn⟩:=Int.eq_ofNat_of_zero_le (show 0≤b.ai by omega)
 have hn6:n≤6:=by omega
 unfold Hg
 rw[hn,Aw (by omega)]
 simp only[Option.bind_some,Option.bind_fun_some,Sum.elim_inl,Sum.elim_inr,a_]
 have afd:aC (Cg (List.replicate n (0:Int))) ((0:Int),List.replicate n (0:Int))=some (own n):=by
  have hlz:(List.replicate n (0:Int)).length=n:=by simp
  have h:=dP (step:=Cg (List.replicate n (0:Int))) (fun k=>((k:Int),(List.range n).map fun i:Nat=>if i<k then(i:Int) else 0)) n (r:=own n)
   (fun k hk=>by
     have hlen:((List.range n).map fun i:Nat=>if i<k then(i:Int) else 0).length=n:=by simp
     have e1:decide ((k:Int)<len (List.replicate n (0:Int)))=true:=dT (by unfold len;omega)
     simp only[Cg,e1,if_true,aD (show k<((List.range n).map fun i:Nat=>if i<k then(i:Int) else 0).length by omega),Option.bind_some,Option.bind_fun_some,Sum.elim_inl,Sum.elim_inr,a_,fM (show k<((List.range n).map fun i:Nat=>if i<k then(i:Int) else 0).length by omega),aX (show k<1000000000000000000 by omega)]
     congr 3
     apply fi
     · simp
     · intro i hi
       have cq:i<n:=by simpa using hi
       rw[dI (by omega),fU _ cq,fU _ cq]
       by_cases iQ:i=k
       · subst iQ;rw[if_pos rfl,if_pos (by omega)]
       · rw[if_neg iQ]
         by_cases h1:i<k
         · rw[if_pos h1,if_pos (by omega)]
         · rw[if_neg h1,if_neg (by omega)])
   (by
     have e1:decide ((n:Int)<len (List.replicate n (0:Int)))=false:=dF (by unfold len;omega)
     simp only[Cg,e1,Bool.false_eq_true,if_false]
     congr 2
     apply fi
     · simp[own]
     · intro i hi
       have cq:i<n:=by simpa using hi
       rw[fU _ cq,if_pos cq,Jv cq])
  have e0:((List.range n).map fun i:Nat=>if i<0 then(i:Int) else 0)=List.replicate n (0:Int):=by
   apply fi
   · simp
   · intro i hi
     have cq:i<n:=by simpa using hi
     rw[fU _ cq,By cq]
     rfl
  rw[←e0] at h⊢
  exact h
 rw[afd]
 simp only[Option.bind_some,Option.bind_fun_some,Sum.elim_inl,Sum.elim_inr,a_]
 have uw:(own n).length=n:=by simp[own]
 have pB:aC (Cf b p (own n)) ((0:Int),own n)=some (rounds b p n (own n)):=by
  refine dP (step:=Cf b p (own n)) (fun k=>((k:Int),rounds b p k (own n))) n (fun k hk=> ?_) ?_
  · have e1:decide ((k:Int)<len (own n))=true:=dT (by unfold len;omega)
    have iO:=P3 b p k (own n)
    simp only[Cf,e1,if_true,aaT hb hs hc (f:=rounds b p k (own n)) (by omega),Option.bind_some,Option.bind_fun_some,Sum.elim_inl,Sum.elim_inr,a_,aX (show k<1000000000000000000 by omega)]
    rfl
  · have e1:decide ((n:Int)<len (own n))=false:=dF (by unfold len;omega)
    simp only[Cf,e1,Bool.false_eq_true,if_false]
 rw[pB]
 unfold bl
 rw[hn]
 rfl
def gK(b:ak)(p:ah)(i j:Nat):Prop:=∃k,k<b.ab.length∧(gt b.ab k).Kind=1∧gt p.al k=true∧(((gt b.ab k).A=(i:Int)∧(gt b.ab k).B=(j:Int))∨((gt b.ab k).A=(j:Int)∧(gt b.ab k).B=(i:Int)))
theorem gK.symm{b:ak}{p:ah}{i j:Nat}(h:gK b p i j):gK b p j i:=by
 obtain⟨k,h1,h2,h3,h4⟩:=h
 exact⟨k,h1,h2,h3,h4.symm⟩
theorem gK.lt{b:ak}{p:ah}(hb:bj b){i j:Nat}(h:gK b p i j):i<b.ai.toNat∧j<b.ai.toNat:=by
 obtain⟨k,h1,h2,h3,h4⟩:=h
 have dz:=hb.1 k h1
 have hA:=dz.1
 have hB:(gt b.ab k).A+1≤(gt b.ab k).B∧(gt b.ab k).B≤b.ai-1:=by
  rcases dz.2 with h|h|h
  · exact h.2
  · have:=h.1;omega
  · have:=h.1;omega
 rcases h4 with h4|h4<;>omega
structure sY(b:ak)(p:ah)(f:List Int):Prop where
 len:f.length=b.ai.toNat
 sound:∀i,i<b.ai.toNat→∃m:Nat,gt f i=(m:Int)∧m≤i∧fL (gK b p) i m
theorem adi(b:ak)(p:ah):sY b p (own b.ai.toNat):=⟨by simp[own],fun i hi=>⟨i,Jv hi,Nat.le_refl _,.refl _⟩⟩
theorem tC{b:ak}(hb:bj b){k:Nat}(hk:k<b.ab.length)(h1:(gt b.ab k).Kind=1):(gt b.ab k).A.toNat<(gt b.ab k).B.toNat∧(gt b.ab k).B.toNat<b.ai.toNat∧(gt b.ab k).A=((gt b.ab k).A.toNat:Int)∧(gt b.ab k).B=((gt b.ab k).B.toNat:Int):=by
 have dz:=hb.1 k hk
 have hA:=dz.1
 have hB:(gt b.ab k).A+1≤(gt b.ab k).B∧(gt b.ab k).B≤b.ai-1:=by
  rcases dz.2 with h|h|h
  · exact h.2
  · have:=h.1;omega
  · have:=h.1;omega
 omega
theorem IA{b:ak}{p:ah}(hb:bj b){f:List Int}(hf:f.length=b.ai.toNat){k:Nat}(hk:k<b.ab.length)(i:Nat):
  gt (kb b p f k) i=if(gt b.ab k).Kind=1∧gt p.al k=true∧(i=(gt b.ab k).A.toNat∨i=(gt b.ab k).B.toNat) then least f (gt b.ab k) else gt f i:=by
 unfold kb
 by_cases h1:(gt b.ab k).Kind=1∧gt p.al k=true
 · have he:=tC hb hk h1.1
   rw[if_pos h1,dI (by simp;omega),dI (by omega)]
   by_cases hB:i=(gt b.ab k).B.toNat
   · rw[if_pos hB,if_pos ⟨h1.1,h1.2,.inr hB⟩]
   · rw[if_neg hB]
     by_cases hA:i=(gt b.ab k).A.toNat
     · rw[if_pos hA,if_pos ⟨h1.1,h1.2,.inl hA⟩]
     · rw[if_neg hA,if_neg (fun h=>by rcases h.2.2 with h|h<;>contradiction)]
 · rw[if_neg h1,if_neg (fun h=>h1 ⟨h.1,h.2.1⟩)]
theorem least_le(f:List Int)(x:aI):least f x≤gt f x.A.toNat∧least f x≤gt f x.B.toNat:=by unfold least;split<;>omega
theorem Ps{b:ak}{p:ah}(hb:bj b){f:List Int}(hf:sY b p f){k:Nat}(hk:k<b.ab.length):sY b p (kb b p f k)∧∀i,gt (kb b p f k) i≤gt f i:=by
 refine⟨⟨by rw[Pg,hf.len],fun i hi=> ?_⟩,fun i=> ?_⟩
 · rw[IA hb hf.len hk]
   split
   · rename_i h
     obtain⟨h1,h2,h3⟩:=h
     have he:=tC hb hk h1
     have hT:gK b p (gt b.ab k).A.toNat (gt b.ab k).B.toNat:=⟨k,hk,h1,h2,.inl ⟨he.2.2.1,he.2.2.2⟩⟩
     obtain⟨m1,e1,l1,c1⟩:=hf.sound (gt b.ab k).A.toNat (by omega)
     obtain⟨m2,e2,l2,c2⟩:=hf.sound (gt b.ab k).B.toNat he.2.1
     unfold least
     rw[e1,e2]
     by_cases aQ:(m2:Int)<(m1:Int)
     · rw[if_pos aQ]
       refine⟨m2,rfl, ?_, ?_⟩
       · rcases h3 with rfl|rfl<;>omega
       · rcases h3 with rfl|rfl
         · exact .step hT c2
         · exact c2
     · rw[if_neg aQ]
       refine⟨m1,rfl, ?_, ?_⟩
       · rcases h3 with rfl|rfl<;>omega
       · rcases h3 with rfl|rfl
         · exact c1
         · exact .step hT.symm c1
   · exact hf.sound i hi
 · rw[IA hb hf.len hk]
   split
   · rename_i h
     have:=least_le f (gt b.ab k)
     rcases h.2.2 with rfl|rfl
     · exact this.1
     · exact this.2
   · exact Int.le_refl _
theorem D0{b:ak}{p:ah}(hb:bj b){f:List Int}(hf:sY b p f):∀k,k≤b.ab.length→sY b p (eE b p k f)∧∀i,gt (eE b p k f) i≤gt f i
 |0,_=>⟨hf,fun _=>Int.le_refl _⟩
 |k+1,hk=>by
  obtain⟨h1,h2⟩:=D0 hb hf k (by omega)
  obtain⟨h3,h4⟩:=Ps hb h1 (k:=k) (by omega)
  exact⟨h3,fun i=>Int.le_trans (h4 i) (h2 i)⟩
theorem PU{b:ak}{p:ah}(hb:bj b){f:List Int}(hf:sY b p f){k:Nat}:∀m,k+m≤b.ab.length→∀i,gt (eE b p (k+m) f) i≤gt (eE b p k f) i
 |0,_=>fun _=>Int.le_refl _
 |m+1,hm=>fun i=>by
  have h1:=PU hb hf m (k:=k) (by omega) i
  have h2:=(Ps hb (D0 hb hf (k+m) (by omega)).1 (k:=k+m) (by omega)).2 i
  exact Int.le_trans h2 h1
theorem aaV{b:ak}{p:ah}(hb:bj b){f:List Int}(hf:sY b p f){i j:Nat}(h:gK b p i j):gt (eE b p b.ab.length f) i≤gt f j:=by
 obtain⟨k,hk,h1,h2,h3⟩:=h
 have he:=tC hb hk h1
 have hm:=PU hb hf (k:=k+1) (b.ab.length-(k+1)) (by omega) i
 rw[show k+1+(b.ab.length-(k+1))=b.ab.length from by omega] at hm
 refine Int.le_trans hm ?_
 show gt (kb b p (eE b p k f) k) i≤gt f j
 have pH:=D0 hb hf k (by omega)
 rw[IA hb pH.1.len hk]
 have hl:=least_le (eE b p k f) (gt b.ab k)
 have hj:=pH.2 j
 rw[if_pos ⟨h1,h2,by rcases h3 with h3|h3<;>omega⟩]
 rcases h3 with h3|h3
 · have:(gt b.ab k).B.toNat=j:=by omega
   rw[this] at hl
   omega
 · have:(gt b.ab k).A.toNat=j:=by omega
   rw[this] at hl
   omega
theorem Jh{b:ak}{p:ah}(hb:bj b)(r:Nat):sY b p (rounds b p r (own b.ai.toNat)):=by
 induction r with
 |zero=>exact adi b p
 |succ r ih=>exact(D0 hb ih _ (Nat.le_refl _)).1
theorem P2{b:ak}{p:ah}(hb:bj b):∀(r:Nat) {i j:Nat},i<b.ai.toNat→e9 (gK b p) r i j→gt (rounds b p r (own b.ai.toNat)) i≤(j:Int)
 |0,i,j,hi,h=>by
  have:=h.zero
  subst this
  rw[show rounds b p 0 (own b.ai.toNat)=own b.ai.toNat from rfl,Jv hi]
  exact Int.le_refl _
 |r+1,i,j,hi,h=>by
  have hk:=Jh (p:=p) hb r
  cases h with
  |refl=>
   obtain⟨m,h1,h2,_⟩:=(Jh (p:=p) hb (r+1)).sound i hi
   rw[h1];omega
  |step e w=>
   exact Int.le_trans (aaV hb hk e) (P2 hb r (e.lt hb).2 w)
theorem FW{b:ak}{p:ah}(hb:bj b){i:Nat}(hi:i<b.ai.toNat):∃m:Nat,gt (bl b p) i=(m:Int)∧fL (gK b p) i m∧∀j,fL (gK b p) i j→m≤j:=by
 obtain⟨m,h1,h2,h3⟩:=(Jh (p:=p) hb b.ai.toNat).sound i hi
 refine⟨m,h1,h3,fun j hj=> ?_⟩
 have hw:=(hj.walk (n:=b.ai.toNat) (fun i j h=>(h.lt hb).2) hi).more (r':=b.ai.toNat) (by omega)
 have:=P2 hb b.ai.toNat hi hw
 have fT:gt (rounds b p b.ai.toNat (own b.ai.toNat)) i=(m:Int):=h1
 rw[fT] at this
 omega
theorem Mh{b:ak}{p:ah}(hb:bj b){i j:Nat}(hi:i<b.ai.toNat)(hj:j<b.ai.toNat):gt (bl b p) i=gt (bl b p) j↔fL (gK b p) i j:=by
 obtain⟨m,h1,h2,h3⟩:=FW (p:=p) hb hi
 obtain⟨m',fT,FT,xM⟩:=FW (p:=p) hb hj
 rw[h1,fT]
 have hs:∀i j,gK b p i j→gK b p j i:=fun _ _ h=>h.symm
 constructor
 · intro h
   have:m=m':=by omega
   subst this
   exact h2.trans (FT.symm hs)
 · intro h
   have e1:=h3 m' (h.trans FT)
   have e2:=xM m ((h.symm hs).trans h2)
   omega
theorem uS{b:ak}{p:ah}(hb:bj b){i:Nat}(hi:i<b.ai.toNat):0≤gt (bl b p) i∧gt (bl b p) i≤(i:Int):=by
 obtain⟨m,h1,h2,h3⟩:=FW (p:=p) hb hi
 have:=h3 i (.refl _)
 omega
end Rx
namespace Rx
def aZ(P:Nat→Bool)(k:Nat):List Int:=((List.range k).filter P).map Int.ofNat
theorem kT(P:Nat→Bool)(k:Nat):aZ P (k+1)=aZ P k++if P k=true then [(k:Int)] else []:=by
 unfold aZ
 rw[List.range_succ,List.filter_append,List.map_append]
 cases h:P k<;>simp[h]
theorem ke(P:Nat→Bool)(k:Nat):(aZ P k).length≤k:=by
 unfold aZ
 rw[List.length_map]
 refine Nat.le_trans (List.length_filter_le _ _) ?_
 simp
theorem rL{P:Nat→Bool}{k:Nat}{x:Int}:x∈aZ P k↔∃i,i<k∧P i=true∧x=(i:Int):=by
 unfold aZ
 rw[List.mem_map]
 constructor
 · rintro⟨i,hi,rfl⟩
   rw[List.mem_filter,List.mem_range] at hi
   exact⟨i,hi.1,hi.2,rfl⟩
 · rintro⟨i,h1,h2,rfl⟩
   exact⟨i,by rw[List.mem_filter,List.mem_range];exact⟨h1,h2⟩,rfl⟩
theorem abC(P:Nat→Bool)(k:Nat):(aZ P k).Nodup:=by
 unfold aZ
 rw[List.nodup_iff_pairwise_ne]
 refine List.Pairwise.map _ (R:=fun a b=>a≠b) (fun a b h e=>h ?_) ((List.nodup_iff_pairwise_ne.1 List.nodup_range).filter _)
 exact Int.ofNat.inj e
def fw(b:ak)(p:ah)(f i:Nat):Bool:=gt (bl b p) i==(f:Int)
def eF(b:ak)(p:ah)(f j:Nat):Bool:=(conn b p (j:Int)).2&&gt (bl b p) (conn b p (j:Int)).1.toNat==(f:Int)
def eZ(b:ak)(p:ah)(f j:Nat):Bool:=(cB b p 3 (j:Int)).2&&gt (bl b p) (cB b p 3 (j:Int)).1.toNat==(f:Int)
def cQ(b:ak)(p:ah)(i j k:Nat):List aP:=(List.range b.ai.toNat).map fun f=>⟨aZ (fw b p f) i,aZ (eF b p f) j,aZ (eZ b p f) k⟩
def cf(b:ak)(p:ah)(f:Nat):aP:=⟨aZ (fw b p f) b.ai.toNat,aZ (eF b p f) b.aa.length,aZ (eZ b p f) b.ae.length⟩
def aE(b:ak)(p:ah):List aP:=(cQ b p b.ai.toNat b.aa.length b.ae.length).filter fun x=> !x.ai.isEmpty
theorem EW{b:ak}{p:ah}(hb:bj b){kind j:Int}(h:(cB b p kind j).2=true):0≤(cB b p kind j).1∧(cB b p kind j).1<b.ai:=by
 unfold cB at h⊢
 cases hf:(List.range b.ab.length).find? (gb b p kind j) with
 |none=>rw[hf] at h;simp at h
 |some k=>
  have hk:=List.mem_range.1 (List.mem_of_find?_eq_some hf)
  have:=(hb.1 k hk).1
  simp only
  omega
theorem Gy{b:ak}{p:ah}(hb:bj b){j:Int}(h:(conn b p j).2=true):0≤(conn b p j).1∧(conn b p j).1<b.ai:=by
 unfold conn at h⊢
 by_cases h1:0≤j∧j≤(p.aa.length:Int)-1
 · rw[if_pos h1] at h⊢
   by_cases h2:(gt p.aa j.toNat).State=2
   · rw[if_pos h2] at h⊢
     exact EW hb h
   · rw[if_neg h2] at h;simp at h
 · rw[if_neg h1] at h;simp at h
theorem rS(b:ak)(p:ah)(i j k:Nat):(cQ b p i j k).length=b.ai.toNat:=by simp[cQ]
theorem px{b:ak}{p:ah}{i j k f:Nat}(h:f<b.ai.toNat):gt (cQ b p i j k) f=⟨aZ (fw b p f) i,aZ (eF b p f) j,aZ (eZ b p f) k⟩:=by
 unfold cQ;rw[fU _ h]
section
variable {b:ak} {p:ah}
theorem ahE(hl:dL b)(hb:bj b):aC (Cm (bl b p)) ((0:Int),cQ b p 0 0 0)=some (cQ b p b.ai.toNat 0 0):=by
 have iD:=hl.ew
 have xF:=Mg b p
 refine dP (step:=Cm (bl b p)) (fun k=>((k:Int),cQ b p k 0 0)) b.ai.toNat (fun k hk=> ?_) ?_
 · have e1:decide ((k:Int)<len (bl b p))=true:=dT (by unfold len;omega)
   obtain⟨g0,g1⟩:=uS (p:=p) hb hk
   have hlen:=rS b p k 0 0
   obtain⟨m,hm⟩:=Int.eq_ofNat_of_zero_le g0
   have jx:m<b.ai.toNat:=by omega
   have iO:=ke (fw b p m) k
   have e2:(cQ b p k 0 0).set m ⟨aZ (fw b p m) k++[(k:Int)],aZ (eF b p m) 0,aZ (eZ b p m) 0⟩=cQ b p (k+1) 0 0:=by
    apply fi
    · simp[cQ]
    · intro i hi
      have cq:i<b.ai.toNat:=by simpa[cQ] using hi
      rw[dI (by omega),px cq,px cq,kT]
      by_cases sj:i=m
      · subst sj
        have:fw b p i k=true:=by unfold fw;rw[hm];simp
        rw[if_pos rfl,if_pos this]
      · have:fw b p i k=false:=by unfold fw;rw[hm];exact bW (by omega)
        rw[if_neg sj,this]
        simp
   have e3:(cQ b p (k+1) 0 0).length=b.ai.toNat:=rS _ _ _ _ _
   simp only[Cm,e1,if_true,aD (show k<(bl b p).length by omega),Option.bind_some,Option.bind_fun_some,Sum.elim_inl,Sum.elim_inr,a_,hm,Int.ofNat_eq_natCast,aD (show m<(cQ b p k 0 0).length by omega),px jx,c_ (show(aZ (fw b p m) k).length+[(k:Int)].length≤1073741824 by simp;omega),fM (show m<(cQ b p k 0 0).length by omega),e2,aD (show m<(cQ b p (k+1) 0 0).length by omega),aX (show k<1000000000000000000 by omega)]
 · have e1:decide ((b.ai.toNat:Int)<len (bl b p))=false:=dF (by unfold len;omega)
   simp only[Cm,e1,Bool.false_eq_true,if_false]
theorem ahD(hl:dL b)(hb:bj b)(hs:Sm b.ab)(hp:Sm p.aa)(hc:p.al.length=b.ab.length):aC (Cl b p (bl b p)) ((0:Int),cQ b p b.ai.toNat 0 0)=some (cQ b p b.ai.toNat b.aa.length 0):=by
 have iD:=hl.ew
 have xF:=Mg b p
 have iN:=hl.src
 refine dP (step:=Cl b p (bl b p)) (fun k=>((k:Int),cQ b p b.ai.toNat k 0)) b.aa.length (fun k hk=> ?_) (by simp only[Cl,bA,Bool.false_eq_true,if_false])
 have hlen:=rS b p b.ai.toNat k 0
 simp only[Cl,aU hk,if_true,Ut hs hp hc,Option.bind_some,Option.bind_fun_some,Sum.elim_inl,Sum.elim_inr,a_,aX (show k<1000000000000000000 by omega)]
 cases jg:(conn b p (k:Int)).2 with
 |false=>
  have e2:cQ b p b.ai.toNat (k+1) 0=cQ b p b.ai.toNat k 0:=by
   unfold cQ
   refine List.map_congr_left fun f _=> ?_
   rw[kT,show eF b p f k=false by unfold eF;rw[jg];rfl]
   simp
  simp only[Bool.false_eq_true,if_false,Option.bind_some,Option.bind_fun_some,Sum.elim_inl,Sum.elim_inr,a_,e2]
 |true=>
  obtain⟨c0,c1⟩:=Gy hb jg
  have ht:(conn b p (k:Int)).1.toNat<b.ai.toNat:=by omega
  obtain⟨g0,g1⟩:=uS (p:=p) hb ht
  obtain⟨m,hm⟩:=Int.eq_ofNat_of_zero_le g0
  have jx:m<b.ai.toNat:=by omega
  have iO:=ke (eF b p m) k
  have e2:(cQ b p b.ai.toNat k 0).set m ⟨aZ (fw b p m) b.ai.toNat,aZ (eF b p m) k++[(k:Int)],aZ (eZ b p m) 0⟩=cQ b p b.ai.toNat (k+1) 0:=by
   apply fi
   · simp[cQ]
   · intro i hi
     have cq:i<b.ai.toNat:=by simpa[cQ] using hi
     rw[dI (by omega),px cq,px cq,kT]
     by_cases sj:i=m
     · subst sj
       have:eF b p i k=true:=by unfold eF;rw[jg,hm];simp
       rw[if_pos rfl,if_pos this]
     · have:eF b p i k=false:=by unfold eF;rw[jg,hm];simp;omega
       rw[if_neg sj,this]
       simp
  have e3:(cQ b p b.ai.toNat (k+1) 0).length=b.ai.toNat:=rS _ _ _ _ _
  simp only[if_true,eU c0 (show(conn b p (k:Int)).1<((bl b p).length:Int) by omega),Option.bind_some,Option.bind_fun_some,Sum.elim_inl,Sum.elim_inr,a_,hm,Int.ofNat_eq_natCast,aD (show m<(cQ b p b.ai.toNat k 0).length by omega),px jx,c_ (show(aZ (eF b p m) k).length+[(k:Int)].length≤1073741824 by simp;omega),fM (show m<(cQ b p b.ai.toNat k 0).length by omega),e2,aD (show m<(cQ b p b.ai.toNat (k+1) 0).length by omega)]
theorem ahC(hl:dL b)(hb:bj b)(hs:Sm b.ab)(hc:p.al.length=b.ab.length):aC (Ck b p (bl b p)) ((0:Int),cQ b p b.ai.toNat b.aa.length 0)=some (cQ b p b.ai.toNat b.aa.length b.ae.length):=by
 have iD:=hl.ew
 have xF:=Mg b p
 have iN:=hl.eN
 refine dP (step:=Ck b p (bl b p)) (fun k=>((k:Int),cQ b p b.ai.toNat b.aa.length k)) b.ae.length (fun k hk=> ?_) (by simp only[Ck,bA,Bool.false_eq_true,if_false])
 have hlen:=rS b p b.ai.toNat b.aa.length k
 simp only[Ck,aU hk,if_true,T5 hs hc,Option.bind_some,Option.bind_fun_some,Sum.elim_inl,Sum.elim_inr,a_,aX (show k<1000000000000000000 by omega)]
 cases jg:(cB b p 3 (k:Int)).2 with
 |false=>
  have e2:cQ b p b.ai.toNat b.aa.length (k+1)=cQ b p b.ai.toNat b.aa.length k:=by
   unfold cQ
   refine List.map_congr_left fun f _=> ?_
   rw[kT,show eZ b p f k=false by unfold eZ;rw[jg];rfl]
   simp
  simp only[Bool.false_eq_true,if_false,Option.bind_some,Option.bind_fun_some,Sum.elim_inl,Sum.elim_inr,a_,e2]
 |true=>
  obtain⟨c0,c1⟩:=EW hb jg
  have ht:(cB b p 3 (k:Int)).1.toNat<b.ai.toNat:=by omega
  obtain⟨g0,g1⟩:=uS (p:=p) hb ht
  obtain⟨m,hm⟩:=Int.eq_ofNat_of_zero_le g0
  have jx:m<b.ai.toNat:=by omega
  have iO:=ke (eZ b p m) k
  have e2:(cQ b p b.ai.toNat b.aa.length k).set m ⟨aZ (fw b p m) b.ai.toNat,aZ (eF b p m) b.aa.length,aZ (eZ b p m) k++[(k:Int)]⟩=cQ b p b.ai.toNat b.aa.length (k+1):=by
   apply fi
   · simp[cQ]
   · intro i hi
     have cq:i<b.ai.toNat:=by simpa[cQ] using hi
     rw[dI (by omega),px cq,px cq,kT]
     by_cases sj:i=m
     · subst sj
       have:eZ b p i k=true:=by unfold eZ;rw[jg,hm];simp
       rw[if_pos rfl,if_pos this]
     · have:eZ b p i k=false:=by unfold eZ;rw[jg,hm];simp;omega
       rw[if_neg sj,this]
       simp
  have e3:(cQ b p b.ai.toNat b.aa.length (k+1)).length=b.ai.toNat:=rS _ _ _ _ _
  simp only[if_true,eU c0 (show(cB b p 3 (k:Int)).1<((bl b p).length:Int) by omega),Option.bind_some,Option.bind_fun_some,Sum.elim_inl,Sum.elim_inr,a_,hm,Int.ofNat_eq_natCast,aD (show m<(cQ b p b.ai.toNat b.aa.length k).length by omega),px jx,c_ (show(aZ (eZ b p m) k).length+[(k:Int)].length≤1073741824 by simp;omega),fM (show m<(cQ b p b.ai.toNat b.aa.length k).length by omega),e2,aD (show m<(cQ b p b.ai.toNat b.aa.length (k+1)).length by omega)]
end
theorem ah1{l:List aP}(hl:Sm l):DB l=some (l.filter fun x=> !x.ai.isEmpty):=by
 have hE:∀x:aP,Cn x=some (x.ai.isEmpty):=fun x=>by
  unfold Cn
  cases h:x.ai with
  |nil=>rfl
  |cons a l=>simp[len];omega
 have h:=km (step:=v_ l) (fun k=>(k:Int)) l.length (fun k=>(gt l k).ai.isEmpty) (R:=fun k=> .inr (k:Int)) (e:= .inl ())
  (fun k hk hp=>by simp only[v_,hE,aU hk,if_true,aD hk,Option.bind_some,Option.bind_fun_some,Sum.elim_inl,Sum.elim_inr,a_,hp,Bool.false_eq_true,if_false,aX (cN hl hk)])
  (fun k hk hp=>by simp only[v_,hE,aU hk,if_true,aD hk,Option.bind_some,Option.bind_fun_some,Sum.elim_inl,Sum.elim_inr,a_,hp])
  (by simp only[v_,bA,Bool.false_eq_true,if_false])
 have h':aC (v_ l) 0=_:=h
 have xy:∀m,m≤l.length→(∀k,k<m→(gt l k).ai.isEmpty=false)→(l.take m).filter (fun x=> !x.ai.isEmpty)=l.take m:=by
  intro m hm hk
  rw[List.filter_eq_self]
  intro x hx
  obtain⟨k,h1,rfl⟩:=(tT hm).1 hx
  rw[hk k h1];rfl
 unfold DB IS
 rw[h']
 cases hf:(List.range l.length).find? (fun k=>(gt l k).ai.isEmpty) with
 |none=>
  have iF:∀k,k<l.length→(gt l k).ai.isEmpty=false:=fun k hk=>by
   have:=List.find?_eq_none.1 hf k (List.mem_range.2 hk)
   simpa using this
  have:=xy l.length (Nat.le_refl _) iF
  rw[List.take_length] at this
  rw[this]
  rfl
 |some k0=>
  have lj:=List.mem_range.1 (List.mem_of_find?_eq_some hf)
  have pD:(gt l k0).ai.isEmpty=true:=List.find?_some (p:=fun k=>(gt l k).ai.isEmpty) hf
  have af5:∀k,k<k0→(gt l k).ai.isEmpty=false:=by
   obtain⟨_,la,lb,h2,h3⟩:=List.find?_eq_some_iff_append.1 hf
   intro k hk
   have hlen:la.length=k0:=by
    have h4:(List.range l.length)[la.length]? =some k0:=by rw[h2];simp
    rw[List.getElem?_range (by
     have:=congrArg List.length h2
     simp at this
     omega)] at h4
    exact Option.some.inj h4
   have fh:k∈la:=by
    have h4:(List.range l.length)[k]? =some k:=List.getElem?_range (by omega)
    rw[h2,List.getElem?_append_left (by omega)] at h4
    exact List.mem_of_getElem? h4
   simpa using h3 k fh
  have be:((k0:Int)== -1)=false:=bW (by omega)
  have xv:k0<1000000000000000000:=cN hl lj
  simp only[Option.bind_some,Option.bind_fun_some,Sum.elim_inl,Sum.elim_inr,a_,Sum.elim_inr,be,Bool.false_eq_true,if_false,aX xv]
  have qL:Wp (aC DA ((k0:Int),((k0+1:Nat):Int),l)) fun r=>∃(i:Nat) (x:List aP),r=((i:Int),x)∧i≤l.length∧x.length=l.length∧x.take i=l.filter fun x=> !x.ai.isEmpty:=by
   refine hG (l.length-(k0+1)) (fun m s=>∃(i:Nat) (x:List aP),s=((i:Int),((k0+1+m:Nat):Int),x)∧i<k0+1+m∧x.length=l.length∧x.take i=(l.take (k0+1+m)).filter (fun x=> !x.ai.isEmpty)∧∀q,k0+1+m≤q→gt x q=gt l q) ⟨k0,l,rfl,by omega,rfl, ?_,fun _ _=>rfl⟩ ?_ ?_
   · rw[Nat.add_zero,gN lj,List.filter_append,xy k0 (by omega) af5]
     simp[pD]
   · rintro m s hm ⟨i,x,rfl,h1,h2,h3,h4⟩
     have hj:k0+1+m<l.length:=by omega
     have hs:k0+1+m<1000000000000000000:=cN hl hj
     have hg:=h4 (k0+1+m) (Nat.le_refl _)
     unfold DA
     simp only[aU (show k0+1+m<x.length by omega),if_true,aD (show k0+1+m<x.length by omega),aD (show i<x.length by omega),hg,hE,Option.bind_some,Option.bind_fun_some,Sum.elim_inl,Sum.elim_inr,a_,fM (show i<x.length by omega),aX (show i<1000000000000000000 by omega),aX hs]
     cases he:(gt l (k0+1+m)).ai.isEmpty with
     |true=>
      simp only[Bool.not_true,Bool.false_eq_true,if_false,Option.bind_some,Option.bind_fun_some,Sum.elim_inl,Sum.elim_inr,a_]
      refine ay.2 ⟨i,x,rfl,by omega,h2, ?_,fun q hq=>h4 q (by omega)⟩
      rw[show k0+1+(m+1)=k0+1+m+1 from rfl,gN hj,List.filter_append,h3]
      simp[he]
     |false=>
      simp only[Bool.not_false,if_true,Option.bind_some,Option.bind_fun_some,Sum.elim_inl,Sum.elim_inr,a_]
      refine ay.2 ⟨i+1,_,rfl,by omega,by simpa using h2, ?_,fun q hq=> ?_⟩
      · rw[show k0+1+(m+1)=k0+1+m+1 from rfl,gN hj,List.filter_append,←h3,gN (show i<(x.set i (gt l (k0+1+m))).length by simp;omega),dI (by omega),if_pos rfl,List.take_set_of_le (Nat.le_refl _)]
        simp[he]
      · rw[dI (by omega),if_neg (by omega)]
        exact h4 q (by omega)
   · rintro s ⟨i,x,rfl,h1,h2,h3,h4⟩
     have e:k0+1+(l.length-(k0+1))=l.length:=by omega
     rw[e] at h1 h3⊢
     rw[List.take_length] at h3
     unfold DA
     have e1:decide ((l.length:Int)<len x)=false:=dF (by unfold len;omega)
     simp only[e1,Bool.false_eq_true,if_false]
     exact ay.2 ⟨i,x,rfl,by omega,h2,h3⟩
  obtain⟨r,hr,i,x,rfl,h2,h3,h4⟩:=qL
  rw[hr]
  simp only[Option.bind_some,Option.bind_fun_some,Sum.elim_inl,Sum.elim_inr,a_]
  have s1:dw x (i:Int) (len x)=some ((x.take (len x).toNat).drop (i:Int).toNat):=by
   unfold dw len
   rw[if_pos ⟨by omega,by omega,by omega⟩]
  rw[s1]
  simp only[Option.bind_some,Option.bind_fun_some,Sum.elim_inl,Sum.elim_inr,a_,Int.toNat_natCast]
  have nz:(x.take i).length=i:=by simp;omega
  unfold mU
  rw[Int.toNat_natCast,zH (xs:=x.take i++List.replicate (x.length-i) (⟨[],[],[]⟩:aP)) (n:=i) (by simp;omega)]
  rw[List.take_append_of_le_length (by omega),List.take_of_length_le (by omega),h4]
section
variable {b:ak} {p:ah}
theorem bG:aH b p=0↔(dL b∧m_ b)∧Shape b p∧qf b p:=by
 unfold aH
 by_cases h0:jj b=0
 · rw[if_pos h0]
   have h1:=sL.1 h0
   by_cases h2:Shape b p<;>by_cases h3:qf b p<;>simp[h1,h2,h3]
 · rw[if_neg h0]
   exact⟨fun h=>(h0 h).elim,fun h=>(h0 (sL.2 h.1)).elim⟩
theorem xn(hb:bL b)(hp:bf p)(h:aH b p=0):oR b p=some (aE b p):=by
 obtain⟨⟨hl,hg⟩,ky,_⟩:=bG.1 h
 have iD:=hl.ew
 obtain⟨n,hn⟩:=Int.eq_ofNat_of_zero_le (show 0≤b.ai by omega)
 have A_:ki (⟨[],[],[]⟩:aP) b.ai=some (cQ b p 0 0 0):=by
  rw[hn,Aw (by omega)]
  congr 1
  apply fi
  · simp[cQ,hn]
  · intro k hk
    have bB:k<n:=by simpa using hk
    rw[By bB,px (by omega)]
    rfl
 unfold oR
 rw[kR hb hp,h]
 simp only[Option.bind_some,Option.bind_fun_some,Sum.elim_inl,Sum.elim_inr,a_,bne_self_eq_false,Bool.false_eq_true,if_false,agW hl hg.1 hb.1 ky.1,A_,ahE hl hg.1,ahD hl hg.1 hb.1 hp.2.1 ky.1,ahC hl hg.1 hb.1 ky.1]
 rw[ah1 (by unfold Sm;rw[rS];omega)]
 rfl
theorem adw(hb:bL b)(hp:bf p)(h:aH b p≠0):oR b p=some []:=by
 unfold oR
 rw[kR hb hp]
 have:(aH b p !=0)=true:=by simpa using h
 simp only[Option.bind_some,Option.bind_fun_some,Sum.elim_inl,Sum.elim_inr,a_,this,if_true]
theorem oh{x:aP}:x∈aE b p↔∃f,f<b.ai.toNat∧x=cf b p f∧(cf b p f).ai≠[]:=by
 unfold aE cQ
 rw[List.mem_filter,List.mem_map]
 constructor
 · rintro⟨⟨f,hf,rfl⟩,h⟩
   refine⟨f,List.mem_range.1 hf,rfl,fun e=> ?_⟩
   have e':aZ (fw b p f) b.ai.toNat=[]:=e
   rw[e'] at h
   cases h
 · rintro⟨f,hf,rfl,h⟩
   refine⟨⟨f,List.mem_range.2 hf,rfl⟩, ?_⟩
   cases he:(cf b p f).ai with
   |nil=>exact(h he).elim
   |cons _ _=>rfl
theorem w_{f:Nat}{x:Int}:x∈(cf b p f).ai↔∃i,i<b.ai.toNat∧gt (bl b p) i=(f:Int)∧x=(i:Int):=by
 show x∈aZ (fw b p f) b.ai.toNat↔_
 rw[rL]
 constructor
 · rintro⟨i,h1,h2,h3⟩
   exact⟨i,h1,by simpa[fw] using h2,h3⟩
 · rintro⟨i,h1,h2,h3⟩
   exact⟨i,h1,by simp[fw,h2],h3⟩
theorem Ax{f:Nat}{x:Int}:x∈(cf b p f).aa↔∃j,j<b.aa.length∧(conn b p (j:Int)).2=true∧gt (bl b p) (conn b p (j:Int)).1.toNat=(f:Int)∧x=(j:Int):=by
 show x∈aZ (eF b p f) b.aa.length↔_
 rw[rL]
 constructor
 · rintro⟨i,h1,h2,h3⟩
   unfold eF at h2
   simp only[Bool.and_eq_true,beq_iff_eq] at h2
   exact⟨i,h1,h2.1,h2.2,h3⟩
 · rintro⟨i,h1,h2,h3,h4⟩
   exact⟨i,h1,by unfold eF;rw[h2,h3];simp,h4⟩
theorem w9{f:Nat}{x:Int}:x∈(cf b p f).ae↔∃j,j<b.ae.length∧(cB b p 3 (j:Int)).2=true∧gt (bl b p) (cB b p 3 (j:Int)).1.toNat=(f:Int)∧x=(j:Int):=by
 show x∈aZ (eZ b p f) b.ae.length↔_
 rw[rL]
 constructor
 · rintro⟨i,h1,h2,h3⟩
   unfold eZ at h2
   simp only[Bool.and_eq_true,beq_iff_eq] at h2
   exact⟨i,h1,h2.1,h2.2,h3⟩
 · rintro⟨i,h1,h2,h3,h4⟩
   exact⟨i,h1,by unfold eZ;rw[h2,h3];simp,h4⟩
def aT(b:ak)(p:ah)(k:Int):aP:=cf b p (gt (bl b p) k.toNat).toNat
theorem ud(hb:bj b){k:Int}(h0:0≤k)(h1:k<b.ai):aT b p k∈aE b p∧k∈(aT b p k).ai:=by
 obtain⟨g0,g1⟩:=uS (p:=p) hb (show k.toNat<b.ai.toNat by omega)
 have hm:k∈(aT b p k).ai:=w_.2 ⟨k.toNat,by omega,by omega,by omega⟩
 exact⟨oh.2 ⟨_,by omega,rfl,fun e=>by rw[show cf b p (gt (bl b p) k.toNat).toNat=aT b p k from rfl] at e;rw[e] at hm;cases hm⟩,hm⟩
theorem J9{x:aP}(hx:x∈aE b p){k:Int}(hk:k∈x.ai):0≤k∧k<b.ai.toNat∧x=aT b p k:=by
 obtain⟨f,hf,rfl,_⟩:=oh.1 hx
 obtain⟨i,hi,hg,rfl⟩:=w_.1 hk
 refine⟨by omega,by omega, ?_⟩
 unfold aT
 rw[Int.toNat_natCast,hg,Int.toNat_natCast]
theorem rR:(aE b p).length≤b.ai.toNat:=by
 unfold aE
 refine Nat.le_trans (List.length_filter_le _ _) ?_
 rw[rS]
 exact Nat.le_refl _
theorem pw(f:Nat):(cf b p f).ai.length≤b.ai.toNat∧(cf b p f).aa.length≤b.aa.length∧(cf b p f).ae.length≤b.ae.length:=
 ⟨ke _ _,ke _ _,ke _ _⟩
def bM(b:ak)(p:ah)(k:Int):aP×Bool:=if aH b p=0∧0≤k∧k<b.ai then(aT b p k,true) else(⟨[],[],[]⟩,false)
def i_(b:ak)(p:ah)(k:Int):List Int×List Int×List Int×Bool:=((bM b p k).1.ai,(bM b p k).1.aa,(bM b p k).1.ae,(bM b p k).2)
theorem of_eq(hb:bL b)(hp:bf p)(k:Int):mh b p k=some (i_ b p k):=by
 unfold mh i_ bM
 by_cases h:aH b p=0
 case neg=>
  rw[adw hb hp h,if_neg (fun hh=>h hh.1)]
  have:aC (sR k []) 0=some (.inl ()):=mB (.done (by simp[sR,len])) (by omega)
  simp only[Option.bind_some,Option.bind_fun_some,Sum.elim_inl,Sum.elim_inr,a_,this,Sum.elim_inl]
 obtain⟨⟨hl,hg⟩,ky,_⟩:=bG.1 h
 have iD:=hl.ew
 have je:=rR (b:=b) (p:=p)
 rw[xn hb hp h]
 simp only[Option.bind_some,Option.bind_fun_some,Sum.elim_inl,Sum.elim_inr,a_]
 have de:∀q,q<(aE b p).length→Sm (gt (aE b p) q).ai:=fun q hq=>by
  obtain⟨f,hf,e,_⟩:=oh.1 (cr hq)
  rw[e]
  have:=(pw (b:=b) (p:=p) f).1
  unfold Sm;omega
 have h1:=km (step:=sR k (aE b p)) (fun i=>(i:Int)) (aE b p).length (fun i=>decide (k∈(gt (aE b p) i).ai)) (R:=fun i=> .inr ((gt (aE b p) i).ai,(gt (aE b p) i).aa,(gt (aE b p) i).ae,true)) (e:= .inl ())
  (fun i hi hq=>by simp only[sR,aU hi,if_true,aD hi,Option.bind_some,Option.bind_fun_some,Sum.elim_inl,Sum.elim_inr,a_,contains_eq (de i hi),hq,Bool.false_eq_true,if_false,aX (show i<1000000000000000000 by omega)])
  (fun i hi hq=>by simp only[sR,aU hi,if_true,aD hi,Option.bind_some,Option.bind_fun_some,Sum.elim_inl,Sum.elim_inr,a_,contains_eq (de i hi),hq])
  (by simp only[sR,bA,Bool.false_eq_true,if_false])
 have fT:aC (sR k (aE b p)) 0=_:=h1
 rw[fT]
 cases hf:(List.range (aE b p).length).find? (fun i=>decide (k∈(gt (aE b p) i).ai)) with
 |none=>
  have:¬(aH b p=0∧0≤k∧k<b.ai):=fun hh=>by
   obtain⟨h2,h3⟩:=ud (p:=p) hg.1 hh.2.1 hh.2.2
   obtain⟨q,hq,e⟩:=jO h2
   have:=List.find?_eq_none.1 hf q (List.mem_range.2 hq)
   rw[e] at this
   simp[h3] at this
  rw[if_neg this]
  rfl
 |some q=>
  have hq:=List.mem_range.1 (List.mem_of_find?_eq_some hf)
  have hk:k∈(gt (aE b p) q).ai:=of_decide_eq_true (List.find?_some (p:=fun i=>decide (k∈(gt (aE b p) i).ai)) hf)
  obtain⟨k0,k1,e⟩:=J9 (cr hq) hk
  rw[if_pos ⟨h,k0,by omega⟩,←e]
  rfl
def qZ(b:ak)(p:ah)(j:Int):Int×Bool:=if aH b p=0 then conn b p j else(0,false)
def iS(b:ak)(p:ah)(j:Int):Int×Bool:=if aH b p=0 then cB b p 3 j else(0,false)
end
def cW(b:ak)(kind j:Int)(k:Nat):Bool:=(gt b.ab k).Kind==kind&&((gt b.ab k).B==j||(kind==1&&(gt b.ab k).A==j))
end Rx
namespace Rx
section
variable {b:ak} {p:ah}
theorem JY(hb:bL b)(hp:bf p)(k:Int):vq b p k=some (decide (0<(bM b p k).1.aa.length)):=by
 unfold vq
 rw[of_eq hb hp]
 simp only[Option.bind_some,Option.bind_fun_some,Sum.elim_inl,Sum.elim_inr,a_]
 congr 1
 rw[decide_eq_decide]
 simp only[i_,len]
 omega
end
end Rx
namespace Rx
section
variable {b:ak} {p:ah}
theorem T6(hb:bL b)(hp:bf p)(j:Int):Co b p j=some (iS b p j):=by
 unfold Co iS
 rw[kR hb hp]
 by_cases h:aH b p=0
 · rw[if_pos h,h]
   simp only[Option.bind_some,Option.bind_fun_some,Sum.elim_inl,Sum.elim_inr,a_,bne_self_eq_false,Bool.false_eq_true,if_false,T5 hb.1 (bG.1 h).2.1.1]
 · have:(aH b p !=0)=true:=by simpa using h
   simp only[Option.bind_some,Option.bind_fun_some,Sum.elim_inl,Sum.elim_inr,a_,this,if_true,if_neg h]
end
section
variable {b:ak} {p:ah}
theorem Uu(hb:bL b)(hp:bf p)(j:Int):Cp b p j=some (qZ b p j):=by
 unfold Cp qZ
 rw[kR hb hp]
 by_cases h:aH b p=0
 · rw[if_pos h,h]
   simp only[Option.bind_some,Option.bind_fun_some,Sum.elim_inl,Sum.elim_inr,a_,bne_self_eq_false,Bool.false_eq_true,if_false,Ut hb.1 hp.2.1 (bG.1 h).2.1.1]
 · have:(aH b p !=0)=true:=by simpa using h
   simp only[Option.bind_some,Option.bind_fun_some,Sum.elim_inl,Sum.elim_inr,a_,this,if_true,if_neg h]
end
end Rx
namespace Rx
open Classical
theorem rC{b:ak}(hs:Sm b.ab)(kind j:Int):sG b kind j=some (aZ (cW b kind j) b.ab.length):=by
 have h1:=dP (step:=BL b kind j) (fun k=>((k:Int),aZ (cW b kind j) k)) b.ab.length (r:=aZ (cW b kind j) b.ab.length)
  (fun k hk=>by
    have iO:=ke (cW b kind j) k
    have pH:=cN hs hk
    have qV:bD (aZ (cW b kind j) k) [(k:Int)]=some (aZ (cW b kind j) k++[(k:Int)]):=c_ (by unfold Sm at hs;simp;omega)
    simp only[BL,aU hk,if_true,aD hk,Option.bind_some,aX pH,kT,qV]
    unfold cW
    cases e1:(gt b.ab k).Kind==kind<;>cases e2:(gt b.ab k).B==j<;>cases e3:kind==1<;>cases e4:(gt b.ab k).A==j<;>simp)
  (by simp only[BL,bA,Bool.false_eq_true,if_false])
 have fT:aC (BL b kind j) (0,[])=_:=h1
 unfold sG
 rw[fT]
 rfl
theorem Qo(P:Nat→Bool)(k:Nat):(aZ P (k+1)).length=(aZ P k).length+if P k=true then 1 else 0:=by
 rw[kT,List.length_append]
 split<;>rfl
theorem Am{P:Nat→Bool}{n:Nat}:(aZ P n).length=0↔∀k,k<n→P k=false:=by
 induction n with
 |zero=>simp[aZ]
 |succ n ih=>
  rw[Qo]
  constructor
  · intro h k hk
    by_cases hp:P n=true
    · rw[if_pos hp] at h;omega
    · by_cases uD:k=n
      · subst uD;simpa using hp
      · exact ih.1 (by omega) k (by omega)
  · intro h
    rw[ih.2 fun k hk=>h k (by omega),h n (by omega)]
    rfl
theorem Al{P:Nat→Bool}{n:Nat}:(aZ P n).length=1↔(∃k,k<n∧P k=true)∧∀i j,i<j→j<n→P i=true→P j=true→False:=by
 induction n with
 |zero=>simp[aZ]
 |succ n ih=>
  rw[Qo]
  constructor
  · intro h
    by_cases hp:P n=true
    · rw[if_pos hp] at h
      have h0:=Am.1 (show(aZ P n).length=0 by omega)
      refine⟨⟨n,by omega,hp⟩,fun i j dQ hj hi _=> ?_⟩
      rw[h0 i (by omega)] at hi
      cases hi
    · rw[if_neg hp] at h
      obtain⟨⟨k,hk,k_⟩,hu⟩:=ih.1 (by omega)
      refine⟨⟨k,by omega,k_⟩,fun i j dQ hj hi Sw=> ?_⟩
      by_cases hjn:j=n
      · subst hjn;exact hp Sw
      · exact hu i j dQ (by omega) hi Sw
  · rintro⟨⟨k,hk,k_⟩,hu⟩
    by_cases hp:P n=true
    · rw[if_pos hp,Am.2 fun i hi=>by
       cases nv:P i with
       |false=>rfl
       |true=>exact(hu i n hi (by omega) nv hp).elim]
    · rw[if_neg hp]
      have uD:k≠n:=fun e=>hp (e▸k_)
      exact ih.2 ⟨⟨k,by omega,k_⟩,fun i j dQ hj=>hu i j dQ (by omega)⟩
theorem sE{b:ak}{j k:Nat}:cW b 2 (j:Int) k=true↔ft (gt b.ab k) j:=by
 unfold cW ft
 by_cases h1:(gt b.ab k).Kind=2<;>by_cases h2:(gt b.ab k).B=(j:Int)<;>simp[h1,h2]
theorem F3{b:ak}{j k:Nat}:cW b 3 (j:Int) k=true↔kY (gt b.ab k) j:=by
 unfold cW kY
 by_cases h1:(gt b.ab k).Kind=3<;>by_cases h2:(gt b.ab k).B=(j:Int)<;>simp[h1,h2]
def HK(b:ak)(k:Nat):Prop:=
 (0≤(gt b.ab k).A∧(gt b.ab k).A≤b.ai-1)∧
 (((gt b.ab k).Kind=1∧(gt b.ab k).A+1≤(gt b.ab k).B∧(gt b.ab k).B≤b.ai-1)∨
  ((gt b.ab k).Kind=2∧(0≤(gt b.ab k).B∧(gt b.ab k).B≤(b.aa.length:Int)-1))∨
  ((gt b.ab k).Kind=3∧(0≤(gt b.ab k).B∧(gt b.ab k).B≤(b.ae.length:Int)-1)∧∀i,i<k→¬((gt b.ab i).Kind=(gt b.ab k).Kind∧(gt b.ab i).A=(gt b.ab k).A∧(gt b.ab i).B=(gt b.ab k).B)))
theorem wN{b:ak}:bj b↔(∀k,k<b.ab.length→HK b k)∧(∀j,j<b.aa.length→(aZ (cW b 2 (j:Int)) b.ab.length).length=1)∧∀j,j<b.ae.length→(aZ (cW b 3 (j:Int)) b.ab.length).length≠0:=by
 constructor
 · rintro⟨h1,h2,h3⟩
   refine⟨fun k hk=> ?_,fun j hj=>Al.2 ⟨?_,fun i k iQ hk hi hp=> ?_⟩,fun j hj h0=> ?_⟩
   · obtain⟨hA,hB⟩:=h1 k hk
     refine⟨hA, ?_⟩
     rcases hB with h|⟨h4,h5,_⟩|⟨h4,h5,h6⟩
     · exact .inl h
     · exact .inr (.inl ⟨h4,h5⟩)
     · exact .inr (.inr ⟨h4,h5,fun i hi hh=>h6 i hi ⟨by rw[hh.1];exact h4,hh.2.2,hh.2.1⟩⟩)
   · obtain⟨k,hk,hs⟩:=h2 j hj
     exact⟨k,hk,sE.2 hs⟩
   · have cq:=sE.1 hi
     have lT:=sE.1 hp
     rcases(h1 k hk).2 with h|⟨h4,h5,h6⟩|⟨h4,_⟩
     · have:=h.1;have:=lT.1;omega
     · exact h6 i iQ ⟨cq.1,by rw[cq.2,lT.2]⟩
     · have:=lT.1;omega
   · obtain⟨k,hk,hs⟩:=h3 j hj
     have:=Am.1 h0 k hk
     rw[F3.2 hs] at this
     cases this
 · rintro⟨h1,h2,h3⟩
   refine⟨fun k hk=> ?_,fun j hj=> ?_,fun j hj=> ?_⟩
   · obtain⟨hA,hB⟩:=h1 k hk
     refine⟨hA, ?_⟩
     rcases hB with h|⟨h4,h5⟩|⟨h4,h5,h6⟩
     · exact .inl h
     · refine .inr (.inl ⟨h4,h5,fun i hi hh=> ?_⟩)
       have hj:(gt b.ab k).B=((gt b.ab k).B.toNat:Int):=by omega
       obtain⟨_,hu⟩:=Al.1 (h2 (gt b.ab k).B.toNat (by omega))
       exact hu i k hi hk (sE.2 ⟨hh.1,by rw[hh.2];exact hj⟩) (sE.2 ⟨h4,hj⟩)
     · exact .inr (.inr ⟨h4,h5,fun i hi hh=>h6 i hi ⟨by rw[hh.1,h4],hh.2.2,hh.2.1⟩⟩)
   · obtain⟨⟨k,hk,hp⟩,_⟩:=Al.1 (h2 j hj)
     exact⟨k,hk,sE.1 hp⟩
   · apply Classical.byContradiction
     intro hn
     refine h3 j hj (Am.2 fun k hk=> ?_)
     cases hp:cW b 3 (j:Int) k with
     |false=>rfl
     |true=>exact(hn ⟨k,hk,F3.1 hp⟩).elim
theorem abd{b:ak}(hl:dL b):Ga b=some (decide (bj b)):=by
 have hb:=hl.ew
 have iE:=hl.b_
 have iN:=hl.src
 have xI:=hl.eN
 have de:Sm b.ab:=by unfold Sm;omega
 have eB:W (b.ai-1)=b.ai-1:=bO (by omega) (by omega)
 have eS:W (len b.aa-1)=(b.aa.length:Int)-1:=by unfold len;exact bO (by omega) (by omega)
 have eC:W (len b.ae-1)=(b.ae.length:Int)-1:=by unfold len;exact bO (by omega) (by omega)
 have fS:∀k,k<b.ab.length→aC (xY (gt b.ab k) (b.ab.take k)) 0=some (if ∃i,i<k∧((gt b.ab i).Kind=(gt b.ab k).Kind∧(gt b.ab i).A=(gt b.ab k).A∧(gt b.ab i).B=(gt b.ab k).B) then .inr (.inr (.inr (.inr (.inr false)))) else .inl ()):=by
  intro k hk
  have hlen:(b.ab.take k).length=k:=by simp;omega
  have hg:∀i,i<k→gt (b.ab.take k) i=gt b.ab i:=fun i hi=>by
   rw[ep (by omega),ep (by omega)];simp
  refine Eq.trans (kn (step:=xY (gt b.ab k) (b.ab.take k)) (fun i=>(i:Int)) k (fun i=>(gt b.ab i).Kind=(gt b.ab k).Kind∧(gt b.ab i).A=(gt b.ab k).A∧(gt b.ab i).B=(gt b.ab k).B) (r:= .inr (.inr (.inr (.inr (.inr false))))) (e:= .inl ())
   (fun i hi hp=>by
     have e:((gt b.ab i).Kind==(gt b.ab k).Kind&&((gt b.ab i).A==(gt b.ab k).A&&(gt b.ab i).B==(gt b.ab k).B))=false:=by
      by_cases h1:(gt b.ab i).Kind=(gt b.ab k).Kind
      · by_cases h2:(gt b.ab i).A=(gt b.ab k).A
        · rw[dU h1,dU h2,bW (fun h3=>hp ⟨h1,h2,h3⟩)];rfl
        · rw[dU h1,bW h2];rfl
      · rw[bW h1];rfl
     simp only[xY,aU (show i<(b.ab.take k).length by omega),if_true,aD (show i<(b.ab.take k).length by omega),hg i hi,Option.bind_some,e,Bool.false_eq_true,if_false,aX (show i<1000000000000000000 by omega)])
   (fun i hi hp=>by
     simp only[xY,aU (show i<(b.ab.take k).length by omega),if_true,aD (show i<(b.ab.take k).length by omega),hg i hi,Option.bind_some,dU hp.1,dU hp.2.1,dU hp.2.2,Bool.and_self])
   (by
     have e1:decide ((k:Int)<len (b.ab.take k))=false:=dF (by unfold len;omega)
     simp only[xY,e1,Bool.false_eq_true,if_false])) (by congr)
 have l1:aC (u7 b) 0=some (if ∃k,k<b.ab.length∧¬HK b k then .inr false else .inl ()):=by
  refine Eq.trans (kn (r:= .inr false) (e:= .inl ()) (step:=u7 b) (fun k=>(k:Int)) b.ab.length (fun k=>¬HK b k) (fun k hk hp=> ?_) (fun k hk hp=> ?_) (by simp only[u7,bA,Bool.false_eq_true,if_false])) (by congr)
  · obtain⟨hA,hB⟩:=Classical.not_not.1 hp
    have u4:W ((gt b.ab k).A+1)=(gt b.ab k).A+1:=bO (by omega) (by omega)
    simp only[u7,aU hk,if_true,aD hk,Option.bind_some,lI,eB,eS,eC,u4,dT hA,Bool.not_true,Bool.false_eq_true,if_false]
    rcases hB with⟨h1,h2⟩|⟨h1,h2⟩|⟨h1,h2,h3⟩
    · simp only[dU h1,if_true,dT h2,Bool.not_true,Bool.false_eq_true,if_false,Option.bind_some,Sum.elim_inl,aX (show k<1000000000000000000 by omega)]
    · simp only[bW (show(gt b.ab k).Kind≠1 by omega),dU h1,if_true,dT h2,Bool.not_true,Bool.false_eq_true,if_false,Option.bind_some,Sum.elim_inl,aX (show k<1000000000000000000 by omega)]
    · have iw:¬∃i,i<k∧((gt b.ab i).Kind=(gt b.ab k).Kind∧(gt b.ab i).A=(gt b.ab k).A∧(gt b.ab i).B=(gt b.ab k).B):=fun⟨i,hi,hh⟩=>h3 i hi hh
      simp only[bW (show(gt b.ab k).Kind≠1 by omega),bW (show(gt b.ab k).Kind≠2 by omega),dU h1,if_true,dT h2,Bool.not_true,Bool.false_eq_true,if_false,zH (show k≤b.ab.length by omega),Option.bind_some,fS k hk,if_neg iw,Sum.elim_inl,aX (show k<1000000000000000000 by omega)]
  · by_cases hA:0≤(gt b.ab k).A∧(gt b.ab k).A≤b.ai-1
    case neg=>simp only[u7,aU hk,if_true,aD hk,Option.bind_some,lI,eB,dF hA,Bool.not_false]
    have u4:W ((gt b.ab k).A+1)=(gt b.ab k).A+1:=bO (by omega) (by omega)
    simp only[u7,aU hk,if_true,aD hk,Option.bind_some,lI,eB,eS,eC,u4,dT hA,Bool.not_true,Bool.false_eq_true,if_false]
    by_cases h1:(gt b.ab k).Kind=1
    · have h2:¬((gt b.ab k).A+1≤(gt b.ab k).B∧(gt b.ab k).B≤b.ai-1):=fun h=>hp ⟨hA,.inl ⟨h1,h⟩⟩
      simp only[dU h1,if_true,dF h2,Bool.not_false,Option.bind_some,Sum.elim_inr]
    by_cases h2:(gt b.ab k).Kind=2
    · have h3:¬(0≤(gt b.ab k).B∧(gt b.ab k).B≤(b.aa.length:Int)-1):=fun h=>hp ⟨hA,.inr (.inl ⟨h2,h⟩)⟩
      simp only[bW h1,dU h2,if_true,dF h3,Bool.not_false,Bool.false_eq_true,if_false,Option.bind_some,Sum.elim_inr]
    by_cases h3:(gt b.ab k).Kind=3
    case neg=>simp only[bW h1,bW h2,bW h3,Bool.false_eq_true,if_false,Option.bind_some,Sum.elim_inr]
    by_cases h4:0≤(gt b.ab k).B∧(gt b.ab k).B≤(b.ae.length:Int)-1
    case neg=>simp only[bW h1,bW h2,dU h3,if_true,dF h4,Bool.not_false,Bool.false_eq_true,if_false,Option.bind_some,Sum.elim_inr]
    have AP:∃i,i<k∧((gt b.ab i).Kind=(gt b.ab k).Kind∧(gt b.ab i).A=(gt b.ab k).A∧(gt b.ab i).B=(gt b.ab k).B):=by
     apply Classical.byContradiction
     intro hn
     exact hp ⟨hA,.inr (.inr ⟨h3,h4,fun i hi hh=>hn ⟨i,hi,hh⟩⟩)⟩
    simp only[bW h1,bW h2,dU h3,if_true,dT h4,Bool.not_true,Bool.false_eq_true,if_false,zH (show k≤b.ab.length by omega),Option.bind_some,fS k hk,if_pos AP,Sum.elim_inr]
 have l3:aC (xX b) 0=some (if ∃j,j<b.aa.length∧¬(aZ (cW b 2 (j:Int)) b.ab.length).length=1 then .inr false else .inl ()):=by
  refine Eq.trans (kn (r:= .inr false) (e:= .inl ()) (step:=xX b) (fun k=>(k:Int)) b.aa.length (fun j=>¬(aZ (cW b 2 (j:Int)) b.ab.length).length=1) (fun j hj hp=> ?_) (fun j hj hp=> ?_) (by simp only[xX,bA,Bool.false_eq_true,if_false])) (by congr)
  · have e:(len (aZ (cW b 2 (j:Int)) b.ab.length) !=1)=false:=by have:=Classical.not_not.1 hp;simp[len,this]
    simp only[xX,aU hj,if_true,rC de,Option.bind_some,e,Bool.false_eq_true,if_false,aX (show j<1000000000000000000 by omega)]
  · have e:(len (aZ (cW b 2 (j:Int)) b.ab.length) !=1)=true:=by simp[len];omega
    simp only[xX,aU hj,if_true,rC de,Option.bind_some,e]
 have l4:aC (xW b) 0=some (if ∃j,j<b.ae.length∧(aZ (cW b 3 (j:Int)) b.ab.length).length=0 then .inr false else .inl ()):=by
  refine Eq.trans (kn (r:= .inr false) (e:= .inl ()) (step:=xW b) (fun k=>(k:Int)) b.ae.length (fun j=>(aZ (cW b 3 (j:Int)) b.ab.length).length=0) (fun j hj hp=> ?_) (fun j hj hp=> ?_) (by simp only[xW,bA,Bool.false_eq_true,if_false])) (by congr)
  · have e:decide (len (aZ (cW b 3 (j:Int)) b.ab.length)<1)=false:=dF (by unfold len;omega)
    simp only[xW,aU hj,if_true,rC de,Option.bind_some,e,Bool.false_eq_true,if_false,aX (show j<1000000000000000000 by omega)]
  · have e:decide (len (aZ (cW b 3 (j:Int)) b.ab.length)<1)=true:=dT (by unfold len;omega)
    simp only[xW,aU hj,if_true,rC de,Option.bind_some,e]
 unfold Ga
 rw[l1,Option.bind_some]
 by_cases g1:∃k,k<b.ab.length∧¬HK b k
 · rw[if_pos g1,dF (fun h:bj b=>by obtain⟨k,hk,hn⟩:=g1;exact hn ((wN.1 h).1 k hk))]
   rfl
 rw[if_neg g1,Sum.elim_inl,l3,Option.bind_some]
 by_cases g2:∃j,j<b.aa.length∧¬(aZ (cW b 2 (j:Int)) b.ab.length).length=1
 · rw[if_pos g2,dF (fun h:bj b=>by obtain⟨k,hk,hn⟩:=g2;exact hn ((wN.1 h).2.1 k hk))]
   rfl
 rw[if_neg g2,Sum.elim_inl,l4,Option.bind_some]
 by_cases g3:∃j,j<b.ae.length∧(aZ (cW b 3 (j:Int)) b.ab.length).length=0
 · rw[if_pos g3,dF (fun h:bj b=>by obtain⟨k,hk,hn⟩:=g3;exact(wN.1 h).2.2 k hk hn)]
   rfl
 rw[if_neg g3,dT (wN.2 ⟨fun k hk=>Classical.byContradiction fun h=>g1 ⟨k,hk,h⟩,fun k hk=>Classical.byContradiction fun h=>g2 ⟨k,hk,h⟩,fun k hk h=>g3 ⟨k,hk,h⟩⟩)]
 rfl
end Rx
namespace Rx
open Classical
theorem aa4{b:ak}(hl:dL b):F9 b=some (decide (∀k,k<b.aa.length→iW (gt b.aa k))):=by
 have iN:=hl.src
 have h:aC (xT b) 0=some (if ∃k,k<b.aa.length∧¬iW (gt b.aa k) then .inr false else .inl ()):=by
  refine Eq.trans (kn (r:= .inr false) (e:= .inl ()) (step:=xT b) (fun k=>(k:Int)) b.aa.length (fun k=>¬iW (gt b.aa k)) (fun k hk hp=> ?_) (fun k hk hp=> ?_) (by simp only[xT,bA,Bool.false_eq_true,if_false])) (by congr)
  · obtain⟨h1,h2,h3⟩:=Classical.not_not.1 hp
    simp only[xT,aU hk,if_true,aD hk,Option.bind_some,lI,dT h1,dT h2,dT h3,Bool.not_true,Bool.false_eq_true,if_false,aX (show k<1000000000000000000 by omega)]
  · simp only[xT,aU hk,if_true,aD hk,Option.bind_some,lI]
    by_cases h1:1≤(gt b.aa k).df∧(gt b.aa k).df≤50000
    case neg=>simp[h1]
    by_cases h2:0≤(gt b.aa k).cF∧(gt b.aa k).cF≤(gt b.aa k).df
    case neg=>simp[h1,h2]
    have h3:¬(0≤(gt b.aa k).Start∧(gt b.aa k).Start≤600):=fun h=>hp ⟨h1,h2,h⟩
    simp[h1,h2,h3]
 unfold F9
 rw[h,Option.bind_some]
 by_cases g:∃k,k<b.aa.length∧¬iW (gt b.aa k)
 · rw[if_pos g,dF (c:=∀k,k<b.aa.length→iW (gt b.aa k)) (fun h=>by obtain⟨k,hk,hn⟩:=g;exact hn (h k hk))];rfl
 · rw[if_neg g,dT (c:=∀k,k<b.aa.length→iW (gt b.aa k)) (fun k hk=>Classical.byContradiction fun h=>g ⟨k,hk,h⟩)];rfl
theorem abb{b:ak}(hl:dL b)(hs:bL b):F' b=some (decide (∀k,k<b.ae.length→iG (gt b.ae k) k)):=by
 have xI:=hl.eN
 have fS:∀k,k<b.ae.length→aC (xU (k:Int) (gt b.ae k)) 0=some (if ∃i,i<(gt b.ae k).bK.length∧¬((0≤gt (gt b.ae k).bK i∧gt (gt b.ae k).bK i≤(k:Int)-1)∧(0<i→gt (gt b.ae k).bK (i-1)<gt (gt b.ae k).bK i)) then .inr (.inr (.inr false)) else .inl ()):=by
  intro k hk
  generalize hx:gt b.ae k=x
  have hl:Sm x.bK:=hx▸hs.2.2.2 _ (cr hk)
  have e0:W ((k:Int)-1)=(k:Int)-1:=bO (by omega) (by omega)
  refine Eq.trans (kn (step:=xU (k:Int) x) (fun i=>(i:Int)) x.bK.length (fun i=>¬((0≤gt x.bK i∧gt x.bK i≤(k:Int)-1)∧(0<i→gt x.bK (i-1)<gt x.bK i))) (r:= .inr (.inr (.inr false))) (e:= .inl ()) (fun i hi hp=> ?_) (fun i hi hp=> ?_) (by simp only[xU,bA,Bool.false_eq_true,if_false])) (by congr)
  · obtain⟨h1,h2⟩:=Classical.not_not.1 hp
    simp only[xU,aU hi,if_true,aD hi,Option.bind_some,lI,e0,dT h1,Bool.not_true,Bool.false_eq_true,if_false]
    by_cases ix:0<i
    · have h3:=h2 ix
      rw[dT (c:=(i:Int)>0) (by omega)]
      simp only[if_true,qc (cN hl hi) ix,aD (show i-1<x.bK.length by omega),Option.bind_some,dF (c:=gt x.bK (i-1)≥gt x.bK i) (by omega),Bool.false_eq_true,if_false,aX (cN hl hi)]
    · rw[dF (c:=(i:Int)>0) (by omega)]
      simp only[Bool.false_eq_true,if_false,Option.bind_some,aX (cN hl hi)]
  · simp only[xU,aU hi,if_true,aD hi,Option.bind_some,lI,e0]
    by_cases h1:0≤gt x.bK i∧gt x.bK i≤(k:Int)-1
    · have h2:0<i∧gt x.bK i≤gt x.bK (i-1):=by
       by_cases ix:0<i
       · refine⟨ix,Int.not_lt.1 fun h=>hp ⟨h1,fun _=>h⟩⟩
       · exact(hp ⟨h1,fun h=>(ix h).elim⟩).elim
      rw[dT h1,dT (c:=(i:Int)>0) (by omega)]
      simp only[Bool.not_true,Bool.false_eq_true,if_false,if_true,qc (cN hl hi) h2.1,aD (show i-1<x.bK.length by omega),Option.bind_some,dT (c:=gt x.bK (i-1)≥gt x.bK i) (by omega)]
    · rw[dF h1]
      simp only[Bool.not_false,if_true,Option.bind_some]
 have bN:∀x:Consumer,(Option.bind (some (decide (0≤x.cX∧x.cX≤50000))) fun x3=>if(!x3)=true then some true else Option.bind (some (decide (0≤x.cF∧x.cF≤x.cX))) fun x4=>if(!x4)=true then some true else Option.bind (some (decide (0≤x.ij∧x.ij≤15))) fun x5=>if(!x5)=true then some true else Option.bind (some (decide (-1≤x.j7∧x.j7≤7))) fun x6=>if(!x6)=true then some true else some (decide (len x.bK>4)))=some (decide (¬((0≤x.cX∧x.cX≤50000)∧(0≤x.cF∧x.cF≤x.cX)∧(0≤x.ij∧x.ij≤15)∧(-1≤x.j7∧x.j7≤7)∧x.bK.length≤4))):=by
  intro x
  have e5:decide (len x.bK>4)=decide (¬x.bK.length≤4):=by rw[decide_eq_decide];unfold len;omega
  rw[e5]
  simp only[Option.bind_some]
  by_cases h1:0≤x.cX∧x.cX≤50000
  case neg=>rw[dF h1,dT (c:=¬(_∧_)) (fun h=>h1 h.1)];rfl
  by_cases h2:0≤x.cF∧x.cF≤x.cX
  case neg=>rw[dT h1,dF h2,dT (c:=¬(_∧_)) (fun h=>h2 h.2.1)];rfl
  by_cases h3:0≤x.ij∧x.ij≤15
  case neg=>rw[dT h1,dT h2,dF h3,dT (c:=¬(_∧_)) (fun h=>h3 h.2.2.1)];rfl
  by_cases h4: -1≤x.j7∧x.j7≤7
  case neg=>rw[dT h1,dT h2,dT h3,dF h4,dT (c:=¬(_∧_)) (fun h=>h4 h.2.2.2.1)];rfl
  rw[dT h1,dT h2,dT h3,dT h4]
  by_cases h5:x.bK.length≤4
  · rw[dF (c:=¬x.bK.length≤4) (fun h=>h h5),dF (c:=¬(_∧_)) (fun h=>h ⟨h1,h2,h3,h4,h5⟩)];rfl
  · rw[dT (c:=¬x.bK.length≤4) h5,dT (c:=¬(_∧_)) (fun h=>h5 h.2.2.2.2)];rfl
 have SW:∀k,HO (gt b.ae k).bK k↔¬∃i,i<(gt b.ae k).bK.length∧¬((0≤gt (gt b.ae k).bK i∧gt (gt b.ae k).bK i≤(k:Int)-1)∧(0<i→gt (gt b.ae k).bK (i-1)<gt (gt b.ae k).bK i)):=
  fun k=>⟨fun h ⟨i,hi,hn⟩=>hn (h i hi),fun h i hi=>Classical.byContradiction fun hn=>h ⟨i,hi,hn⟩⟩
 have h:aC (xV b) 0=some (if ∃k,k<b.ae.length∧¬iG (gt b.ae k) k then .inr false else .inl ()):=by
  refine Eq.trans (kn (r:= .inr false) (e:= .inl ()) (step:=xV b) (fun k=>(k:Int)) b.ae.length (fun k=>¬iG (gt b.ae k) k) (fun k hk hp=> ?_) (fun k hk hp=> ?_) (by simp only[xV,bA,Bool.false_eq_true,if_false])) (by congr)
  · obtain⟨h1,h2⟩:=Classical.not_not.1 hp
    simp only[xV,aU hk,if_true,aD hk,Option.bind_some,lI]
    have:=bN (gt b.ae k)
    simp only[Option.bind_some] at this
    rw[this,dF (c:=¬(_∧_)) (fun h=>h h2)]
    simp only[Option.bind_some,Bool.false_eq_true,if_false]
    rw[fS k hk,if_neg ((SW k).1 h1)]
    simp only[Option.bind_some,Sum.elim_inl,aX (show k<1000000000000000000 by omega)]
  · simp only[xV,aU hk,if_true,aD hk,Option.bind_some,lI]
    have:=bN (gt b.ae k)
    simp only[Option.bind_some] at this
    rw[this]
    by_cases h2:(0≤(gt b.ae k).cX∧(gt b.ae k).cX≤50000)∧(0≤(gt b.ae k).cF∧(gt b.ae k).cF≤(gt b.ae k).cX)∧(0≤(gt b.ae k).ij∧(gt b.ae k).ij≤15)∧(-1≤(gt b.ae k).j7∧(gt b.ae k).j7≤7)∧(gt b.ae k).bK.length≤4
    · rw[dF (c:=¬(_∧_)) (fun h=>h h2)]
      simp only[Option.bind_some,Bool.false_eq_true,if_false]
      rw[fS k hk,if_pos (Classical.byContradiction fun hn=>hp ⟨(SW k).2 hn,h2⟩)]
      rfl
    · rw[dT (c:=¬(_∧_)) h2]
      rfl
 unfold F'
 rw[h,Option.bind_some]
 by_cases g:∃k,k<b.ae.length∧¬iG (gt b.ae k) k
 · rw[if_pos g,dF (c:=∀k,k<b.ae.length→iG (gt b.ae k) k) (fun h=>by obtain⟨k,hk,hn⟩:=g;exact hn (h k hk))];rfl
 · rw[if_neg g,dT (c:=∀k,k<b.ae.length→iG (gt b.ae k) k) (fun k hk=>Classical.byContradiction fun h=>g ⟨k,hk,h⟩)];rfl
theorem abc{b:ak}(hs:bL b):Gi b=some (jj b):=by
 unfold Gi jj
 by_cases h1:1≤b.ai∧b.ai≤6
 case neg=>
  have hn:¬dL b:=fun h=>h1 h.ew
  by_cases TI:b.ai<1
  · simp[TI,hn]
  · have h1b:b.ai>6:=by omega
    simp[TI,h1b,hn]
 have a1:decide (b.ai<1)=false:=dF (by omega)
 have a2:decide (b.ai>6)=false:=dF (by omega)
 by_cases h2:b.ab.length≤24
 case neg=>
  have:¬dL b:=fun h=>h2 h.b_
  have e:decide (len b.ab>24)=true:=dT (by unfold len;omega)
  simp[a1,a2,this,e]
 have a3:decide (len b.ab>24)=false:=dF (by unfold len;omega)
 by_cases h3:b.aa.length≤8
 case neg=>
  have:¬dL b:=fun h=>h3 h.src
  have e:decide (len b.aa>8)=true:=dT (by unfold len;omega)
  simp[a1,a2,a3,this,e]
 have a4:decide (len b.aa>8)=false:=dF (by unfold len;omega)
 by_cases h4:b.ae.length≤16
 case neg=>
  have:¬dL b:=fun h=>h4 h.eN
  have e:decide (len b.ae>16)=true:=dT (by unfold len;omega)
  simp[a1,a2,a3,a4,this,e]
 have a5:decide (len b.ae>16)=false:=dF (by unfold len;omega)
 have hl:dL b:=⟨h1,h2,h3,h4⟩
 simp only[a1,a2,a3,a4,a5,Bool.false_eq_true,if_false,Option.bind_some,abd hl,aa4 hl,abb hl hs,if_pos hl]
 by_cases g1:bj b
 case neg=>rw[dF g1,if_neg (fun h:m_ b=>g1 h.1)];rfl
 by_cases g2:∀k,k<b.aa.length→iW (gt b.aa k)
 case neg=>rw[dT g1,dF g2,if_neg (fun h:m_ b=>g2 h.2.2.2.1)];rfl
 by_cases g3:∀k,k<b.ae.length→iG (gt b.ae k) k
 case neg=>rw[dT g1,dT g2,dF g3,if_neg (fun h:m_ b=>g3 h.2.2.2.2)];rfl
 rw[dT g1,dT g2,dT g3]
 simp only[Bool.not_true,Bool.false_eq_true,if_false]
 by_cases g4:b.aG<0
 · rw[dT g4,if_neg (fun h:m_ b=>by have:=h.2.1;omega)];rfl
 by_cases g5:b.aG>1800
 · rw[dF g4,dT g5,if_neg (fun h:m_ b=>by have:=h.2.1;omega)];rfl
 by_cases g6:b.aB<0
 · rw[dF g4,dF g5,dT g6,if_neg (fun h:m_ b=>by have:=h.2.2.1;omega)];rfl
 by_cases g7:b.aB>6000
 · rw[dF g4,dF g5,dF g6,dT g7,if_neg (fun h:m_ b=>by have:=h.2.2.1;omega)];rfl
 rw[dF g4,dF g5,dF g6,dF g7,if_pos (show m_ b from⟨g1,by omega,by omega,g2,g3⟩)]
 rfl
end Rx
namespace Rx
open Classical
theorem Qd(x y:Part):Gj x y=some (decide (before x y)):=by
 unfold Gj before
 by_cases h1:x.Kind<y.Kind
 · simp[h1]
 · by_cases h2:x.Kind=y.Kind
   · by_cases h3:x.Number<y.Number<;>simp[h1,h2,h3]
   · simp[h1,h2]
def mc(p:ah)(l:List Int):Nat:=(l.filter fun k=>gt p.al k.toNat).length
theorem Uw(p:ah)(l m:List Int):mc p (l++m)=mc p l+mc p m:=by unfold mc;rw[List.filter_append,List.length_append]
theorem aie(p:ah)(l:List Int):mc p l≤l.length:=List.length_filter_le _ _
theorem aif(b:ak)(p:ah)(j:Nat)(n:Nat):mc p (aZ (cW b 3 (j:Int)) n)=cK b p (j:Int) n:=by
 induction n with
 |zero=>rfl
 |succ n ih=>
  rw[kT,Uw,ih]
  show cK b p (j:Int) n+_=cK b p (j:Int) n+_
  congr 1
  by_cases h:cW b 3 (j:Int) n=true
  · obtain⟨h1,h2⟩:=F3.1 h
    rw[if_pos h]
    cases h3:gt p.al n<;>simp[mc,h1,h2,h3]
  · rw[if_neg h,if_neg (fun hh=>h (F3.2 ⟨hh.1,hh.2.1⟩))]
    rfl
theorem Qc{b:ak}{p:ah}(hc:p.al.length=b.ab.length)(hs:Sm b.ab)(j:Nat):aC (xZ p (aZ (cW b 3 (j:Int)) b.ab.length)) (0,0)=some (cK b p (j:Int) b.ab.length:Int):=by
 generalize hl:aZ (cW b 3 (j:Int)) b.ab.length=l
 have hll:l.length≤b.ab.length:=hl▸ke _ _
 have fh:∀k,k<l.length→∃i:Nat,gt l k=(i:Int)∧i<p.al.length:=fun k hk=>by
  have h1:gt l k∈aZ (cW b 3 (j:Int)) b.ab.length:=by rw[hl];exact cr hk
  obtain⟨i,hi,_,e⟩:=rL.1 h1
  exact⟨i,e,by omega⟩
 have de:Sm l:=by unfold Sm at hs⊢;omega
 have h:=dP (step:=xZ p l) (fun k=>((mc p (l.take k):Int),(k:Int))) l.length (r:=(mc p l:Int))
  (fun k hk=>by
    obtain⟨i,e,hi⟩:=fh k hk
    have hle:=aie p (l.take k)
    have Fu:(l.take k).length≤k:=by simp;omega
    simp only[xZ,aU hk,if_true,aD hk,e,aD hi,Option.bind_some,aX (cN de hk),gN hk,Uw]
    cases h3:gt p.al i with
    |true=>
     have:mc p [(i:Int)]=1:=by simp[mc,h3]
     simp only[if_true,Option.bind_some,this]
     rw[aX (show mc p (l.take k)<1000000000000000000 by have:=cN de hk;omega)]
    |false=>
     have:mc p [(i:Int)]=0:=by simp[mc,h3]
     simp only[Bool.false_eq_true,if_false,Option.bind_some,this,Nat.add_zero])
  (by simp only[xZ,bA,Bool.false_eq_true,if_false,List.take_length])
 have h':aC (xZ p l) (0,0)=_:=h
 rw[h',←hl,aif]
theorem Ad{b:ak}{p:ah}(hb:bL b)(hp:bf p):sH b p=some (aH b p):=by
 unfold sH aH
 rw[abc hb]
 simp only[Option.bind_some]
 by_cases h0:jj b=0
 case neg=>simp[h0]
 have hL:=(sL.1 h0).1
 have h3:=hL.eN
 have e0:(jj b !=0)=false:=by simp[h0]
 simp only[e0,Bool.false_eq_true,if_false,if_pos h0]
 by_cases h1:p.al.length=b.ab.length
 case neg=>
  have:¬Shape b p:=fun h=>h1 h.1
  have e:(len p.al !=len b.ab)=true:=by simp[len];omega
  simp[e,this]
 by_cases h2:p.aa.length=b.aa.length
 case neg=>
  have:¬Shape b p:=fun h=>h2 h.2.1
  have e1:(len p.al !=len b.ab)=false:=by simp[len,h1]
  have e:(len p.aa !=len b.aa)=true:=by simp[len];omega
  simp[e,e1,this]
 by_cases h4:p.ar.length=b.ae.length
 case neg=>
  have:¬Shape b p:=fun h=>h4 h.2.2
  have e1:(len p.al !=len b.ab)=false:=by simp[len,h1]
  have e2:(len p.aa !=len b.aa)=false:=by simp[len,h2]
  have e:(len p.ar !=len b.ae)=true:=by simp[len];omega
  simp[e,e1,e2,this]
 have ky:Shape b p:=⟨h1,h2,h4⟩
 have e1:(len p.al !=len b.ab)=false:=by simp[len,h1]
 have e2:(len p.aa !=len b.aa)=false:=by simp[len,h2]
 have e3:(len p.ar !=len b.ae)=false:=by simp[len,h4]
 have l1:aC (yb p) 0=some (if ∃k,k<p.aa.length∧¬dq (gt p.aa k) then .inr 11 else .inl ()):=by
  have de:=hp.2.1
  refine Eq.trans (kn (r:= .inr 11) (e:= .inl ()) (step:=yb p) (fun k=>(k:Int)) p.aa.length (fun k=>¬dq (gt p.aa k)) (fun k hk hq=> ?_) (fun k hk hq=> ?_) (by simp only[yb,bA,Bool.false_eq_true,if_false])) (by congr)
  · obtain⟨q1,q2,q3,q4⟩:=Classical.not_not.1 hq
    simp only[yb,aU hk,if_true,aD hk,Option.bind_some,lI,dT q1,dT q2,dT q3,dT q4,Bool.not_true,Bool.false_eq_true,if_false,aX (cN de hk)]
  · simp only[yb,aU hk,if_true,aD hk,Option.bind_some,lI]
    by_cases q1:0≤(gt p.aa k).State∧(gt p.aa k).State≤3
    case neg=>simp[q1]
    by_cases q2:0≤(gt p.aa k).eD∧(gt p.aa k).eD≤2147483648
    case neg=>simp[q1,q2]
    by_cases q3:0≤(gt p.aa k).aB∧(gt p.aa k).aB≤6000
    case neg=>simp[q1,q2,q3]
    have q4:¬(0≤(gt p.aa k).aG∧(gt p.aa k).aG≤3599):=fun h=>hq ⟨q1,q2,q3,h⟩
    simp[q1,q2,q3,q4]
 have l2:aC (ya b p) 0=some (if ∃k,k<p.ar.length∧¬(0≤gt p.ar k∧gt p.ar k≤(gt b.ae k).cX) then .inr 11 else .inl ()):=by
  have de:=hp.2.2.1
  refine Eq.trans (kn (r:= .inr 11) (e:= .inl ()) (step:=ya b p) (fun k=>(k:Int)) p.ar.length (fun k=>¬(0≤gt p.ar k∧gt p.ar k≤(gt b.ae k).cX)) (fun k hk hq=> ?_) (fun k hk hq=> ?_) (by simp only[ya,bA,Bool.false_eq_true,if_false])) (by congr)
  · simp only[ya,aU hk,if_true,aD hk,aD (show k<b.ae.length by omega),Option.bind_some,lI,dT (Classical.not_not.1 hq),Bool.not_true,Bool.false_eq_true,if_false,aX (cN de hk)]
  · simp only[ya,aU hk,if_true,aD hk,aD (show k<b.ae.length by omega),Option.bind_some,lI,dF hq,Bool.not_false]
 have l3:aC (x_ b p) 0=some (if ∃k,k<p.ax.length∧¬kL b p.ax k then .inr 11 else .inl ()):=by
  have de:=hp.2.2.2
  refine Eq.trans (kn (r:= .inr 11) (e:= .inl ()) (step:=x_ b p) (fun k=>(k:Int)) p.ax.length (fun k=>¬kL b p.ax k) (fun k hk hq=> ?_) (fun k hk hq=> ?_) (by simp only[x_,bA,Bool.false_eq_true,if_false])) (by congr)
  · obtain⟨q1,q2⟩:=Classical.not_not.1 hq
    simp only[x_,aU hk,if_true,aD hk,Option.bind_some,exists_eq hL,dT q1,Bool.not_true,Bool.false_eq_true,if_false]
    by_cases lj:0<k
    · rw[dT (c:=(k:Int)>0) (by omega)]
      simp only[if_true,qc (cN de hk) lj,aD (show k-1<p.ax.length by omega),Option.bind_some,Qd,dT (q2 lj),Bool.not_true,Bool.false_eq_true,if_false,aX (cN de hk)]
    · rw[dF (c:=(k:Int)>0) (by omega)]
      simp only[Bool.false_eq_true,if_false,Option.bind_some,aX (cN de hk)]
  · simp only[x_,aU hk,if_true,aD hk,Option.bind_some,exists_eq hL]
    by_cases q1:0≤(gt p.ax k).Number∧(gt p.ax k).Number≤bsize b (gt p.ax k).Kind-1
    · have q2:0<k∧¬before (gt p.ax (k-1)) (gt p.ax k):=by
       by_cases lj:0<k
       · exact⟨lj,fun h=>hq ⟨q1,fun _=>h⟩⟩
       · exact(hq ⟨q1,fun h=>(lj h).elim⟩).elim
      rw[dT q1,dT (c:=(k:Int)>0) (by omega)]
      simp only[Bool.not_true,Bool.false_eq_true,if_false,if_true,qc (cN de hk) q2.1,aD (show k-1<p.ax.length by omega),Option.bind_some,Qd,dF q2.2,Bool.not_false]
    · rw[dF q1]
      simp only[Bool.not_false,if_true,Option.bind_some]
 have l4:aC (x0 b p) 0=some (if ∃k,k<b.ae.length∧¬cK b p (k:Int) b.ab.length≤1 then .inr 11 else .inl ()):=by
  refine Eq.trans (kn (r:= .inr 11) (e:= .inl ()) (step:=x0 b p) (fun k=>(k:Int)) b.ae.length (fun k=>¬cK b p (k:Int) b.ab.length≤1) (fun k hk hq=> ?_) (fun k hk hq=> ?_) (by simp only[x0,bA,Bool.false_eq_true,if_false])) (by congr)
  · simp only[x0,aU hk,if_true,rC hb.1,Option.bind_some,Qc h1 hb.1,dF (c:=(cK b p (k:Int) b.ab.length:Int)>1) (by omega),Bool.false_eq_true,if_false,aX (show k<1000000000000000000 by omega)]
  · simp only[x0,aU hk,if_true,rC hb.1,Option.bind_some,Qc h1 hb.1,dT (c:=(cK b p (k:Int) b.ab.length:Int)>1) (by omega)]
 simp only[e1,e2,e3,Bool.false_eq_true,if_false,Option.bind_some,if_pos ky,l1,l2,l3,l4]
 by_cases g1:∃k,k<p.aa.length∧¬dq (gt p.aa k)
 · rw[if_pos g1,if_neg (fun h:qf b p=>by obtain⟨k,hk,hn⟩:=g1;exact hn (h.2.1 k hk))];rfl
 rw[if_neg g1,Sum.elim_inl]
 by_cases g2:∃k,k<p.ar.length∧¬(0≤gt p.ar k∧gt p.ar k≤(gt b.ae k).cX)
 · rw[if_pos g2,if_neg (fun h:qf b p=>by obtain⟨k,hk,hn⟩:=g2;exact hn (h.2.2 k hk).1)];rfl
 rw[if_neg g2,Sum.elim_inl]
 by_cases g3:p.ax.length≤32
 case neg=>rw[dT (c:=len p.ax>32) (by unfold len;omega),if_neg (fun h:qf b p=>g3 h.1.2)];rfl
 rw[dF (c:=len p.ax>32) (by unfold len;omega)]
 simp only[Bool.false_eq_true,if_false]
 by_cases g4:∃k,k<p.ax.length∧¬kL b p.ax k
 · rw[if_pos g4,if_neg (fun h:qf b p=>by obtain⟨k,hk,hn⟩:=g4;exact hn (h.1.1 k hk))];rfl
 rw[if_neg g4,Sum.elim_inl]
 by_cases g5:∃k,k<b.ae.length∧¬cK b p (k:Int) b.ab.length≤1
 · rw[if_pos g5,if_neg (fun h:qf b p=>by obtain⟨k,hk,hn⟩:=g5;exact hn (h.2.2 k (by omega)).2)];rfl
 rw[if_neg g5,Sum.elim_inl,if_pos (show qf b p from⟨⟨fun k hk=>Classical.byContradiction fun h=>g4 ⟨k,hk,h⟩,g3⟩,fun k hk=>Classical.byContradiction fun h=>g1 ⟨k,hk,h⟩,fun k hk=>⟨Classical.byContradiction fun h=>g2 ⟨k,hk,h⟩,Classical.byContradiction fun h=>g5 ⟨k,by omega,h⟩⟩⟩)]
end Rx
namespace Rx
open Classical
def ja(b:ak)(p:ah)(m:List Bool)(k:Nat):List Bool:=
 if(gt b.ab k).Kind=1∧gt p.al k=true∧(gt m (gt b.ab k).A.toNat=true∨gt m (gt b.ab k).B.toNat=true) then(m.set (gt b.ab k).A.toNat true).set (gt b.ab k).B.toNat true else m
def kl(b:ak)(p:ah)(m:List Bool):Nat→List Bool
 |0=>m
 |k+1=>ja b p (kl b p m k) k
def oi(b:ak)(p:ah)(m:List Bool):Nat→List Bool
 |0=>m
 |r+1=>kl b p (oi b p m r) b.ab.length
theorem acz(b:ak)(p:ah)(m:List Bool)(k:Nat):(ja b p m k).length=m.length:=by unfold ja;split<;>simp
theorem Ay(b:ak)(p:ah)(m:List Bool)(k:Nat):(kl b p m k).length=m.length:=by
 induction k with
 |zero=>rfl
 |succ k ih=>unfold kl;rw[acz,ih]
theorem EM(b:ak)(p:ah)(m:List Bool)(r:Nat):(oi b p m r).length=m.length:=by
 induction r with
 |zero=>rfl
 |succ r ih=>unfold oi;rw[Ay,ih]
section
variable {b:ak} {p:ah}
theorem JL(hb:bj b){m:List Bool}(hm:m.length=b.ai.toNat){k:Nat}(hk:k<b.ab.length)(i:Nat):gt (ja b p m k) i=if(gt b.ab k).Kind=1∧gt p.al k=true∧(gt m (gt b.ab k).A.toNat=true∨gt m (gt b.ab k).B.toNat=true)∧(i=(gt b.ab k).A.toNat∨i=(gt b.ab k).B.toNat) then true else gt m i:=by
 unfold ja
 by_cases h:(gt b.ab k).Kind=1∧gt p.al k=true∧(gt m (gt b.ab k).A.toNat=true∨gt m (gt b.ab k).B.toNat=true)
 · obtain⟨e1,e2,_,_⟩:=tC hb hk h.1
   rw[if_pos h,dI (by simp;omega),dI (by omega)]
   by_cases hi:i=(gt b.ab k).B.toNat
   · rw[if_pos hi,if_pos ⟨h.1,h.2.1,h.2.2,.inr hi⟩]
   · rw[if_neg hi]
     by_cases cI:i=(gt b.ab k).A.toNat
     · rw[if_pos cI,if_pos ⟨h.1,h.2.1,h.2.2,.inl cI⟩]
     · rw[if_neg cI,if_neg (fun hh=>hh.2.2.2.elim cI hi)]
 · rw[if_neg h,if_neg (fun hh=>h ⟨hh.1,hh.2.1,hh.2.2.1⟩)]
theorem acy(hb:bj b){m:List Bool}(hm:m.length=b.ai.toNat){k:Nat}(hk:k<b.ab.length){i:Nat}(h:gt m i=true):gt (ja b p m k) i=true:=by
 rw[JL hb hm hk]
 split
 · rfl
 · exact h
theorem EK(hb:bj b){m:List Bool}(hm:m.length=b.ai.toNat){i:Nat}(k:Nat):∀d,k+d≤b.ab.length→gt (kl b p m k) i=true→gt (kl b p m (k+d)) i=true
 |0,_,h=>h
 |d+1,hd,h=>acy hb (by rw[Ay,hm]) (show k+d<b.ab.length by omega) (EK hb hm k d (by omega) h)
theorem acA(hb:bj b){m:List Bool}(hm:m.length=b.ai.toNat){i j:Nat}(h:gt m i=true)(ht:gK b p i j):gt (kl b p m b.ab.length) j=true:=by
 obtain⟨k,hk,h1,h2,h3⟩:=ht
 have e:=tC hb hk h1
 have hi:=EK (p:=p) hb hm 0 k (by omega) h
 rw[Nat.zero_add] at hi
 have hj:gt (kl b p m (k+1)) j=true:=by
  show gt (ja b p (kl b p m k) k) j=true
  rw[JL hb (by rw[Ay,hm]) hk,if_pos]
  refine⟨h1,h2, ?_, ?_⟩
  · rcases h3 with h3|h3
    · exact .inl (by rw[show(gt b.ab k).A.toNat=i from by omega];exact hi)
    · exact .inr (by rw[show(gt b.ab k).B.toNat=i from by omega];exact hi)
  · omega
 have:=EK hb hm (k+1) (b.ab.length-(k+1)) (by omega) hj
 rwa[show k+1+(b.ab.length-(k+1))=b.ab.length from by omega] at this
theorem Q5(hb:bj b){m:List Bool}(hm:m.length=b.ai.toNat){s:Nat}(h:∀i,gt m i=true→fL (gK b p) s i):∀k,k≤b.ab.length→∀i,gt (kl b p m k) i=true→fL (gK b p) s i
 |0,_,i,hi=>h i hi
 |k+1,hk,i,hi=>by
  have ih:=Q5 hb hm h k (by omega)
  have cq:gt (ja b p (kl b p m k) k) i=true:=hi
  rw[JL hb (by rw[Ay,hm]) (by omega)] at cq
  split at cq
  · rename_i hc
    obtain⟨h1,h2,h3,h4⟩:=hc
    have e:=tC hb (show k<b.ab.length by omega) h1
    have ht:gK b p (gt b.ab k).A.toNat (gt b.ab k).B.toNat:=⟨k,by omega,h1,h2,.inl ⟨e.2.2.1,e.2.2.2⟩⟩
    rcases h3 with h3|h3
    · have c:=ih _ h3
      rcases h4 with rfl|rfl
      · exact c
      · exact c.trans (.one ht)
    · have c:=ih _ h3
      rcases h4 with rfl|rfl
      · exact c.trans (.one ht.symm)
      · exact c
  · exact ih i cq
theorem Q7(hb:bj b){m:List Bool}(hm:m.length=b.ai.toNat){s:Nat}(h:∀i,gt m i=true→fL (gK b p) s i):∀r i,gt (oi b p m r) i=true→fL (gK b p) s i
 |0,i,hi=>h i hi
 |r+1,i,hi=>Q5 hb (by rw[EM,hm]) (Q7 hb hm h r) _ (Nat.le_refl _) i hi
theorem JM(hb:bj b){m:List Bool}(hm:m.length=b.ai.toNat){s:Nat}(h:gt m s=true):∀r j,e9 (gK b p) r s j→gt (oi b p m r) j=true
 |0,j,w=>by rw[←w.zero];exact h
 |r+1,j,w=>by
  have hl:(oi b p m r).length=b.ai.toNat:=by rw[EM,hm]
  rcases w.last with h1|⟨i,h1,h2⟩
  · have:=EK (p:=p) hb hl 0 b.ab.length (by omega) (JM hb hm h r j h1)
    rw[Nat.zero_add] at this
    exact this
  · exact acA hb hl (JM hb hm h r i h1) h2
def iL(n s:Nat):List Bool:=(List.replicate n false).set s true
theorem acs(hb:bj b){s:Nat}(hs:s<b.ai.toNat){j:Nat}:gt (oi b p (iL b.ai.toNat s) b.ai.toNat) j=true↔fL (gK b p) s j:=by
 have hm:(iL b.ai.toNat s).length=b.ai.toNat:=by simp[iL]
 have h0:gt (iL b.ai.toNat s) s=true:=by unfold iL;rw[dI (by simpa using hs),if_pos rfl]
 constructor
 · refine Q7 hb hm (fun i hi=> ?_) _ j
   unfold iL at hi
   rw[dI (by simpa using hs)] at hi
   by_cases SP:i=s
   · subst SP;exact .refl _
   · rw[if_neg SP] at hi
     by_cases jW:i<b.ai.toNat
     · rw[By jW] at hi;cases hi
     · unfold gt at hi
       simp[List.getD_eq_getElem?_getD,jW] at hi
 · intro h
   have hw:=(h.walk (n:=b.ai.toNat) (fun i j h=>(h.lt hb).2) hs).more (r':=b.ai.toNat) (by omega)
   exact JM hb hm h0 _ _ hw
theorem abE{P Q:Nat→Bool}{n:Nat}(h:∀i,i<n→P i=Q i):aZ P n=aZ Q n:=by
 unfold aZ
 rw[List.filter_congr fun x hx=>h x (List.mem_range.1 hx)]
theorem abe(hb:bj b)(hs:Sm b.ab)(hc:p.al.length=b.ab.length){m:List Bool}(hm:(m.length:Int)=b.ai):aC (BJ b p) ((0:Int),m)=some (kl b p m b.ab.length):=by
 refine dP (step:=BJ b p) (fun k=>((k:Int),kl b p m k)) b.ab.length (fun k hk=> ?_) (by simp only[BJ,bA,Bool.false_eq_true,if_false])
 have dz:=hb.1 k hk
 have hl:=Ay b p m k
 have aeg:kl b p m (k+1)=ja b p (kl b p m k) k:=rfl
 simp only[BJ,aU hk,if_true,aD hk,aD (show k<p.al.length by omega),Option.bind_some,aX (cN hs hk),aeg]
 generalize kl b p m k=q at hl⊢
 by_cases h1:(gt b.ab k).Kind=1
 case neg=>
  have e0:ja b p q k=q:=by unfold ja;rw[if_neg (fun h=>h1 h.1)]
  simp only[bW h1,e0,Bool.false_eq_true,if_false,Option.bind_some]
 cases h2:gt p.al k with
 |false=>
  have e0:ja b p q k=q:=by unfold ja;rw[if_neg (fun h=>by rw[h2] at h;exact absurd h.2.1 (by simp))]
  simp only[dU h1,e0,if_true,Bool.false_eq_true,if_false,Option.bind_some]
 |true=>
  have e:=tC hb hk h1
  have iA:∀x:List Bool,x.length=q.length→idx x (gt b.ab k).A=some (gt x (gt b.ab k).A.toNat):=fun x hx=>eU (by omega) (by omega)
  have iB:∀x:List Bool,x.length=q.length→idx x (gt b.ab k).B=some (gt x (gt b.ab k).B.toNat):=fun x hx=>eU (by omega) (by omega)
  have sA:∀x:List Bool,x.length=q.length→cG x (gt b.ab k).A true=some (x.set (gt b.ab k).A.toNat true):=fun x hx=>ww (by omega) (by omega)
  have sB:∀x:List Bool,x.length=q.length→cG x (gt b.ab k).B true=some (x.set (gt b.ab k).B.toNat true):=fun x hx=>ww (by omega) (by omega)
  simp only[dU h1,if_true,Option.bind_some,iA q rfl,iB q rfl,sA q rfl,iB (q.set (gt b.ab k).A.toNat true) (by simp),sB (q.set (gt b.ab k).A.toNat true) (by simp)]
  cases h3:gt q (gt b.ab k).A.toNat with
  |true=>
   have e0:ja b p q k=(q.set (gt b.ab k).A.toNat true).set (gt b.ab k).B.toNat true:=by unfold ja;rw[if_pos ⟨h1,h2,.inl h3⟩]
   simp only[if_true,Option.bind_some,e0]
  |false=>
   cases h4:gt q (gt b.ab k).B.toNat with
   |true=>
    have e0:ja b p q k=(q.set (gt b.ab k).A.toNat true).set (gt b.ab k).B.toNat true:=by unfold ja;rw[if_pos ⟨h1,h2,.inr h4⟩]
    simp only[if_true,Bool.false_eq_true,if_false,Option.bind_some,e0]
   |false=>
    have e0:ja b p q k=q:=by unfold ja;rw[if_neg (fun h=>by rcases h.2.2 with h|h<;>simp[h3,h4] at h)]
    simp only[Bool.false_eq_true,if_false,Option.bind_some,e0]
theorem abf(hl:dL b)(hb:bj b)(hs:Sm b.ab)(hc:p.al.length=b.ab.length){k:Int}(h0:0≤k)(h1:k<b.ai):F_ b p k=some (aT b p k).ai:=by
 have iD:=hl.ew
 obtain⟨n,hn⟩:=Int.eq_ofNat_of_zero_le (show 0≤b.ai by omega)
 obtain⟨s,hk⟩:=Int.eq_ofNat_of_zero_le h0
 subst hk
 have hsn:s<n:=by omega
 have sh:b.ai.toNat=n:=by omega
 have Fq:(iL n s).length=n:=by simp[iL]
 have bN:(List.replicate n false).set s true=iL n s:=rfl
 have l1:aC (BK b p (iL n s)) ((0:Int),iL n s)=some (oi b p (iL n s) n):=by
  refine dP (step:=BK b p (iL n s)) (fun k=>((k:Int),oi b p (iL n s) k)) n (fun k hk=> ?_) ?_
  · have e1:decide ((k:Int)<len (iL n s))=true:=dT (by unfold len;omega)
    have iO:=EM b p (iL n s) k
    simp only[BK,e1,if_true,abe hb hs hc (m:=oi b p (iL n s) k) (by omega),Option.bind_some,aX (show k<1000000000000000000 by omega)]
    rfl
  · have e1:decide ((n:Int)<len (iL n s))=false:=dF (by unfold len;omega)
    simp only[BK,e1,Bool.false_eq_true,if_false]
 have l3:∀m:List Bool,m.length=n→aC (BI m) ((0:Int),[])=some (aZ (fun j=>gt m j) n):=by
  intro m hm
  refine dP (step:=BI m) (fun k=>((k:Int),aZ (fun j=>gt m j) k)) n (fun k hk=> ?_) ?_
  · have iO:=ke (fun j=>gt m j) k
    have qV:bD (aZ (fun j=>gt m j) k) [(k:Int)]=some (aZ (fun j=>gt m j) k++[(k:Int)]):=c_ (by simp;omega)
    simp only[BI,aU (show k<m.length by omega),if_true,aD (show k<m.length by omega),Option.bind_some,kT,qV,aX (show k<1000000000000000000 by omega)]
    cases gt m k<;>simp
  · have e1:decide ((n:Int)<len m)=false:=dF (by unfold len;omega)
    simp only[BI,e1,Bool.false_eq_true,if_false]
 unfold F_
 rw[hn,Aw (by omega)]
 have iO:(List.replicate n false).length=n:=by simp
 have SF:=EM b p (iL n s) n
 rw[Fq] at SF
 simp only[Option.bind_some,Int.ofNat_eq_natCast,aD (show s<(List.replicate n false).length by omega),fM (show s<(List.replicate n false).length by omega),bN,l1,l3 _ SF]
 have S4:=uS (p:=p) hb (show s<b.ai.toNat by omega)
 show some _=some (aZ (fw b p (gt (bl b p) ((s:Int)).toNat).toNat) b.ai.toNat)
 rw[sh,Int.toNat_natCast]
 congr 1
 refine abE fun i hi=> ?_
 have h4:=acs (p:=p) hb (s:=s) (j:=i) (by omega)
 have h5:=Mh (p:=p) hb (i:=i) (j:=s) (by omega) (by omega)
 rw[sh] at h4
 have Si:∀i j,gK b p i j→gK b p j i:=fun _ _ h=>h.symm
 have h6:gt (oi b p (iL n s) n) i=true↔fw b p (gt (bl b p) s).toNat i=true:=by
  rw[h4]
  unfold fw
  rw[beq_iff_eq,show(((gt (bl b p) s).toNat:Nat):Int)=gt (bl b p) s from by omega,h5]
  exact⟨fun h=>h.symm Si,fun h=>h.symm Si⟩
 exact Bool.eq_iff_iff.2 h6
end
end Rx
namespace Rx
open Classical
theorem acX{α:Type}[ad α](l:List α):(List.range l.length).map (gt l)=l:=by
 apply fi
 · simp
 · intro k hk
   have bB:k<l.length:=by simpa using hk
   rw[fU _ bB]
theorem ahB{α:Type}[ad α](l:List α)(P:α→Bool):l.find? P=((List.range l.length).find? fun q=>P (gt l q)).map (gt l):=by
 have h:=congrArg (List.find? P) (acX l)
 rw[List.find?_map] at h
 exact h.symm
theorem ahA(F:Nat→Bool)(P:Int→Bool)(n:Nat):(aZ F n).find? P=((List.range n).find? fun k=>F k&&P (k:Int)).map Int.ofNat:=by
 unfold aZ
 rw[List.find?_map,List.find?_filter]
 congr 2
 funext k
 simp
theorem Jp{P:Nat→Bool}{m:Nat}(hP:P m=true)(si:∀i,i<m→P i=false):∀n,m<n→0<(aZ P n).length∧gt (aZ P n) 0=(m:Int)
 |0,h=>by omega
 |n+1,h=>by
  rw[kT]
  by_cases KY:m<n
  · obtain⟨h1,h2⟩:=Jp hP si n KY
    exact⟨by simp;omega,by rw[FV h1];exact h2⟩
  · have:m=n:=by omega
    subst this
    have h0:aZ P m=[]:=List.length_eq_zero_iff.1 (Am.2 si)
    rw[h0,if_pos hP]
    exact⟨by simp,rfl⟩
section
variable {b:ak} {p:ah}
theorem TK(hb:bj b){k:Nat}(hk:k<b.ai.toNat):∃m:Nat,gt (bl b p) k=(m:Int)∧m≤k∧gt (bl b p) m=(m:Int):=by
 obtain⟨m,h1,h2,h3⟩:=FW (p:=p) hb hk
 have A_:m≤k:=h3 k (.refl _)
 refine⟨m,h1,A_, ?_⟩
 rw[←h1]
 exact((Mh (p:=p) hb hk (by omega)).2 h2).symm
theorem adu(hb:bj b){k:Nat}(hk:k<b.ai.toNat):0<(aT b p (k:Int)).ai.length∧gt (aT b p (k:Int)).ai 0=gt (bl b p) k:=by
 obtain⟨m,h1,h2,h3⟩:=TK (p:=p) hb hk
 have he:aT b p (k:Int)=cf b p m:=by unfold aT;rw[Int.toNat_natCast,h1,Int.toNat_natCast]
 rw[he,h1]
 refine Jp (P:=fw b p m) (by unfold fw;rw[h3];simp) (fun i hi=> ?_) _ (by omega)
 unfold fw
 have:=(uS (p:=p) hb (show i<b.ai.toNat by omega)).2
 exact bW (by omega)
theorem ads(hb:bj b){k:Nat}(hk:k<b.ai.toNat):(cf b p k).ai.isEmpty=false↔gt (bl b p) k=(k:Int):=by
 constructor
 · intro h
   cases hl:(cf b p k).ai with
   |nil=>rw[hl] at h;cases h
   |cons x l=>
    obtain⟨i,h1,h2,h3⟩:=w_.1 (show x∈(cf b p k).ai by rw[hl];exact List.mem_cons_self)
    obtain⟨m,e1,e2,e3⟩:=TK (p:=p) hb h1
    have:m=k:=by omega
    subst this
    exact e3
 · intro h
   cases hl:(cf b p k).ai with
   |nil=>
    have:=w_ (f:=k) (x:=(k:Int))|>.2 ⟨k,hk,h,rfl⟩
    rw[hl] at this
    cases this
   |cons _ _=>rfl
theorem J_:aE b p=((List.range b.ai.toNat).filter fun f=> !(cf b p f).ai.isEmpty).map (cf b p):=by
 unfold aE cQ
 rw[List.filter_map]
 rfl
theorem aba(hb:bL b)(hp:bf p)(j:Int):Gg b p j=some (qZ b p j):=by
 unfold Gg qZ
 rw[Ad hb hp]
 by_cases h:aH b p=0
 case neg=>
  have:(aH b p !=0)=true:=by simpa using h
  simp only[Option.bind_some,this,if_true,if_neg h]
 obtain⟨⟨hl,hg⟩,⟨s1,s2,s3⟩,_⟩:=bG.1 h
 have iN:=hl.src
 have h0:(aH b p !=0)=false:=by simp[h]
 simp only[Option.bind_some,h0,Bool.false_eq_true,if_false,if_pos h]
 unfold conn
 by_cases h1:j<0
 · have iw:¬(0≤j∧j≤(p.aa.length:Int)-1):=by omega
   rw[dT h1,if_neg iw];rfl
 rw[dF h1]
 by_cases h2:j≥(b.aa.length:Int)
 · have iw:¬(0≤j∧j≤(p.aa.length:Int)-1):=by omega
   rw[dT (c:=j≥len b.aa) h2,if_neg iw];rfl
 have AP:0≤j∧j≤(p.aa.length:Int)-1:=by omega
 rw[dF (c:=j≥len b.aa) h2,if_pos AP]
 obtain⟨i,rfl⟩:=Int.eq_ofNat_of_zero_le (show 0≤j by omega)
 simp only[Int.ofNat_eq_natCast,Int.toNat_natCast,Bool.false_eq_true,if_false]
 rw[aD (show i<p.aa.length by omega)]
 simp only[Option.bind_some]
 by_cases h3:(gt p.aa i).State=2
 case neg=>rw[if_neg h3,Cr h3];rfl
 rw[if_pos h3,Ho h3]
 simp only[Bool.false_eq_true,if_false,rC hb.1,Option.bind_some]
 have hlen:=(wN.1 hg.1).2.1 i (by omega)
 obtain⟨⟨k,hk,k_⟩,hu⟩:=Al.1 hlen
 have KB:∀q,q<b.ab.length→cW b 2 (i:Int) q=true→q=k:=fun q hq iP=>by
  rcases Nat.lt_trichotomy q k with aQ|he|aQ
  · exact(hu q k aQ hk iP k_).elim
  · exact he
  · exact(hu k q aQ hq k_ iP).elim
 have hd:=Jp (P:=cW b 2 (i:Int)) k_ (fun q hq=>by
  cases iP:cW b 2 (i:Int) q with
  |false=>rfl
  |true=>have:=KB q (by omega) iP;omega) b.ab.length hk
 have e0:idx (aZ (cW b 2 (i:Int)) b.ab.length) 0=some (k:Int):=by
  have:=aD hd.1
  rw[hd.2] at this
  exact this
 rw[e0]
 simp only[Option.bind_some,aD (show k<p.al.length by omega),aD hk]
 have qM:∀q,gb b p 2 (i:Int) q=(cW b 2 (i:Int) q&&gt p.al q):=fun q=>by
  unfold gb cW
  simp
 unfold cB
 cases hc:gt p.al k with
 |false=>
  rw[Mq (fun q hq=>by
   rw[qM]
   cases iP:cW b 2 (i:Int) q with
   |false=>rfl
   |true=>rw[KB q hq iP,hc];rfl)]
  rfl
 |true=>
  cases hf:(List.range b.ab.length).find? (gb b p 2 (i:Int)) with
  |none=>
   have:=List.find?_eq_none.1 hf k (List.mem_range.2 hk)
   rw[qM,k_,hc] at this
   simp at this
  |some q=>
   have hq:=List.mem_range.1 (List.mem_of_find?_eq_some hf)
   have iP:=List.find?_some hf
   rw[qM,Bool.and_eq_true] at iP
   rw[KB q hq iP.1]
   rfl
theorem aa_(hb:bL b)(hp:bf p){j:Int}(hj:0≤j∧j<b.ae.length):Ge b p j=some (iS b p j):=by
 unfold Ge iS
 rw[Ad hb hp]
 by_cases h:aH b p=0
 case neg=>
  have:(aH b p !=0)=true:=by simpa using h
  simp only[Option.bind_some,this,if_true,if_neg h]
 obtain⟨⟨hl,hg⟩,⟨s1,s2,s3⟩,_⟩:=bG.1 h
 have iE:=hl.b_
 have h0:(aH b p !=0)=false:=by simp[h]
 simp only[Option.bind_some,h0,Bool.false_eq_true,if_false,if_pos h]
 rw[dF (c:=j<0) (by omega),dF (c:=j≥len b.ae) (by unfold len;omega)]
 simp only[Bool.false_eq_true,if_false,rC hb.1,Option.bind_some]
 have aeY:(aZ (cW b 3 j) b.ab.length).length≤b.ab.length:=ke _ _
 have uL:∀q,q<(aZ (cW b 3 j) b.ab.length).length→∃i:Nat,gt (aZ (cW b 3 j) b.ab.length) q=(i:Int)∧i<b.ab.length:=fun q hq=>by
  obtain⟨i,hi,_,e⟩:=rL.1 (cr hq)
  exact⟨i,e,hi⟩
 have pK:=ahB (aZ (cW b 3 j) b.ab.length) (fun x=>gt p.al x.toNat)
 rw[ahA] at pK
 generalize aZ (cW b 3 j) b.ab.length=l at aeY uL pK⊢
 have h1:=km (step:=yc b p l) (fun q=>(q:Int)) l.length (fun q=>gt p.al (gt l q).toNat) (R:=fun q=> .inr ((gt b.ab (gt l q).toNat).A,true)) (e:= .inl ())
  (fun q hq iP=>by
    obtain⟨i,e,hi⟩:=uL q hq
    rw[e,Int.toNat_natCast] at iP
    simp only[yc,aU hq,if_true,aD hq,e,aD (show i<p.al.length by omega),Option.bind_some,iP,Bool.false_eq_true,if_false,aX (show q<1000000000000000000 by omega)])
  (fun q hq iP=>by
    obtain⟨i,e,hi⟩:=uL q hq
    rw[e,Int.toNat_natCast] at iP
    simp only[yc,aU hq,if_true,aD hq,e,Int.toNat_natCast,aD (show i<p.al.length by omega),aD hi,Option.bind_some,iP])
  (by simp only[yc,bA,Bool.false_eq_true,if_false])
 have fT:aC (yc b p l) 0=_:=h1
 rw[fT]
 have qM:gb b p 3 j=fun k=>cW b 3 j k&&gt p.al ((k:Int)).toNat:=by
  funext q
  unfold gb cW
  simp
 unfold cB
 rw[qM]
 cases hf:(List.range l.length).find? (fun q=>gt p.al (gt l q).toNat) with
 |none=>
  rw[hf] at pK
  have:(List.range b.ab.length).find? (fun k=>cW b 3 j k&&gt p.al ((k:Int)).toNat)=none:=by
   cases hx:(List.range b.ab.length).find? (fun k=>cW b 3 j k&&gt p.al ((k:Int)).toNat) with
   |none=>rfl
   |some k=>rw[hx] at pK;cases pK
  rw[this]
  rfl
 |some q=>
  rw[hf] at pK
  cases hx:(List.range b.ab.length).find? (fun k=>cW b 3 j k&&gt p.al ((k:Int)).toNat) with
  |none=>rw[hx] at pK;cases pK
  |some k=>
   rw[hx] at pK
   have e:(k:Int)=gt l q:=Option.some.inj pK
   simp only[Option.bind_some,Sum.elim_inr]
   rw[←e,Int.toNat_natCast]
theorem Qa{k:Int}(hb:bj b)(hl:dL b)(h0:0≤k)(h1:k<b.ai){a:Int}(ha:0≤a∧a<b.ai):oO (aT b p k).ai a=some (gt (bl b p) a.toNat==(((gt (bl b p) k.toNat).toNat:Nat):Int)):=by
 have iD:=hl.ew
 have lh:=(pw (b:=b) (p:=p) (gt (bl b p) k.toNat).toNat).1
 rw[has_eq (show Sm (aT b p k).ai by unfold Sm;show(cf b p _).ai.length≤_;omega)]
 congr 1
 rw[Bool.eq_iff_iff,decide_eq_true_iff,beq_iff_eq]
 show a∈(cf b p (gt (bl b p) k.toNat).toNat).ai↔_
 rw[w_]
 constructor
 · rintro⟨i,_,h,rfl⟩;rw[Int.toNat_natCast];exact h
 · intro h;exact⟨a.toNat,by omega,h,by omega⟩
def Ew(b:ak)(p:ah)(k:Int):Bool×List Int×List Int×List Int:=((bM b p k).2,(bM b p k).1.ai,(bM b p k).1.aa,(bM b p k).1.ae)
theorem aa5(hb:bL b)(hp:bf p)(k:Int):Gb b p k=some (Ew b p k):=by
 unfold Gb Ew bM
 rw[Ad hb hp]
 by_cases h:aH b p=0
 case neg=>
  have:(aH b p !=0)=true:=by simpa using h
  simp only[Option.bind_some,this,if_true,if_neg (fun hh:aH b p=0∧_=>h hh.1)]
 obtain⟨⟨hl,hg⟩,⟨s1,s2,s3⟩,_⟩:=bG.1 h
 have iN:=hl.src
 have xI:=hl.eN
 have h0:(aH b p !=0)=false:=by simp[h]
 simp only[Option.bind_some,h0,Bool.false_eq_true,if_false]
 by_cases h1:k<0
 · have iw:¬(aH b p=0∧0≤k∧k<b.ai):=by omega
   rw[dT h1,if_neg iw];rfl
 rw[dF h1]
 by_cases h2:k≥b.ai
 · have iw:¬(aH b p=0∧0≤k∧k<b.ai):=by omega
   rw[dT h2,if_neg iw];rfl
 have AP:aH b p=0∧0≤k∧k<b.ai:=⟨h,by omega,by omega⟩
 rw[dF h2,if_pos AP]
 simp only[Bool.false_eq_true,if_false]
 rw[abf hl hg.1 hb.1 s1 (by omega) (by omega)]
 simp only[Option.bind_some]
 have l1:aC (BN b p (aT b p k).ai) ((0:Int),[])=some (aT b p k).aa:=by
  refine dP (step:=BN b p (aT b p k).ai) (fun i=>((i:Int),aZ (eF b p (gt (bl b p) k.toNat).toNat) i)) b.aa.length (fun i hi=> ?_) (by simp only[BN,bA,Bool.false_eq_true,if_false];rfl)
  have iO:=ke (eF b p (gt (bl b p) k.toNat).toNat) i
  have qV:bD (aZ (eF b p (gt (bl b p) k.toNat).toNat) i) [(i:Int)]=some (aZ (eF b p (gt (bl b p) k.toNat).toNat) i++[(i:Int)]):=c_ (by simp;omega)
  have ec:qZ b p (i:Int)=conn b p (i:Int):=by unfold qZ;rw[if_pos h]
  simp only[BN,aU hi,if_true,aba hb hp,ec,Option.bind_some,kT,qV,aX (show i<1000000000000000000 by omega)]
  cases hc:(conn b p (i:Int)).2 with
  |false=>
   have:eF b p (gt (bl b p) k.toNat).toNat i=false:=by unfold eF;rw[hc];rfl
   simp[this]
  |true=>
   have kE:=Gy hg.1 hc
   have:eF b p (gt (bl b p) k.toNat).toNat i=(gt (bl b p) (conn b p (i:Int)).1.toNat==(((gt (bl b p) k.toNat).toNat:Nat):Int)):=by unfold eF;rw[hc];rfl
   simp only[if_true,Qa hg.1 hl (show 0≤k by omega) (show k<b.ai by omega) kE,Option.bind_some,this]
   cases(gt (bl b p) (conn b p (i:Int)).1.toNat==(((gt (bl b p) k.toNat).toNat:Nat):Int))<;>simp
 have l2:aC (BM b p (aT b p k).ai) ((0:Int),[])=some (aT b p k).ae:=by
  refine dP (step:=BM b p (aT b p k).ai) (fun i=>((i:Int),aZ (eZ b p (gt (bl b p) k.toNat).toNat) i)) b.ae.length (fun i hi=> ?_) (by simp only[BM,bA,Bool.false_eq_true,if_false];rfl)
  have iO:=ke (eZ b p (gt (bl b p) k.toNat).toNat) i
  have qV:bD (aZ (eZ b p (gt (bl b p) k.toNat).toNat) i) [(i:Int)]=some (aZ (eZ b p (gt (bl b p) k.toNat).toNat) i++[(i:Int)]):=c_ (by simp;omega)
  have ec:iS b p (i:Int)=cB b p 3 (i:Int):=by unfold iS;rw[if_pos h]
  simp only[BM,aU hi,if_true,aa_ hb hp (j:=(i:Int)) ⟨by omega,by omega⟩,ec,Option.bind_some,kT,qV,aX (show i<1000000000000000000 by omega)]
  cases hc:(cB b p 3 (i:Int)).2 with
  |false=>
   have:eZ b p (gt (bl b p) k.toNat).toNat i=false:=by unfold eZ;rw[hc];rfl
   simp[this]
  |true=>
   have kE:=EW hg.1 hc
   have:eZ b p (gt (bl b p) k.toNat).toNat i=(gt (bl b p) (cB b p 3 (i:Int)).1.toNat==(((gt (bl b p) k.toNat).toNat:Nat):Int)):=by unfold eZ;rw[hc];rfl
   simp only[if_true,Qa hg.1 hl (show 0≤k by omega) (show k<b.ai by omega) kE,Option.bind_some,this]
   cases(gt (bl b p) (cB b p 3 (i:Int)).1.toNat==(((gt (bl b p) k.toNat).toNat:Nat):Int))<;>simp
 rw[l1,l2]
 rfl
theorem aa6(hb:bL b)(hp:bf p)(h:aH b p=0):Gc b p=some (aE b p):=by
 obtain⟨⟨hl,hg⟩,⟨s1,s2,s3⟩,_⟩:=bG.1 h
 have iD:=hl.ew
 obtain⟨n,hn⟩:=Int.eq_ofNat_of_zero_le (show 0≤b.ai by omega)
 have sh:b.ai.toNat=n:=by omega
 unfold Gc
 rw[Ad hb hp,h]
 simp only[Option.bind_some,bne_self_eq_false,Bool.false_eq_true,if_false]
 have l1:aC (BO b p) ((0:Int),[])=some (((List.range n).filter fun f=> !(cf b p f).ai.isEmpty).map (cf b p)):=by
  refine dP (step:=BO b p) (fun k=>((k:Int),((List.range k).filter fun f=> !(cf b p f).ai.isEmpty).map (cf b p))) n (fun k hk=> ?_) ?_
  · have e1:decide ((k:Int)<b.ai)=true:=dT (by omega)
    have hof:Ew b p (k:Int)=(true,(aT b p (k:Int)).ai,(aT b p (k:Int)).aa,(aT b p (k:Int)).ae):=by
     unfold Ew bM
     rw[if_pos ⟨h,by omega,by omega⟩]
    obtain⟨FC,oE⟩:=adu (p:=p) hg.1 (show k<b.ai.toNat by omega)
    have e2:idx (aT b p (k:Int)).ai 0=some (gt (bl b p) k):=by
     have:=aD FC
     rw[oE] at this
     exact this
    have hlen:(((List.range k).filter fun f=> !(cf b p f).ai.isEmpty).map (cf b p)).length≤k:=by
     rw[List.length_map]
     refine Nat.le_trans (List.length_filter_le _ _) ?_
     simp
    have qV:∀x:aP,bD (((List.range k).filter fun f=> !(cf b p f).ai.isEmpty).map (cf b p)) [x]=some ((((List.range k).filter fun f=> !(cf b p f).ai.isEmpty).map (cf b p))++[x]):=fun x=>c_ (by simp only[List.length_singleton];omega)
    simp only[BO,e1,if_true,aa5 hb hp,hof,Option.bind_some,e2,qV,aX (show k<1000000000000000000 by omega),List.range_succ,List.filter_append,List.map_append]
    have Sn:=ads (p:=p) hg.1 (show k<b.ai.toNat by omega)
    by_cases hr:gt (bl b p) k=(k:Int)
    · have e3:aT b p (k:Int)=cf b p k:=by unfold aT;rw[Int.toNat_natCast,hr,Int.toNat_natCast]
      have e4:([k].filter fun f=> !(cf b p f).ai.isEmpty)=[k]:=by simp[List.filter_cons,Sn.2 hr]
      rw[dU hr,e4,e3]
      rfl
    · have e5:(cf b p k).ai.isEmpty=true:=by
       cases hx:(cf b p k).ai.isEmpty with
       |true=>rfl
       |false=>exact(hr (Sn.1 hx)).elim
      have e4:([k].filter fun f=> !(cf b p f).ai.isEmpty)=[]:=by simp[List.filter_cons,e5]
      rw[bW hr,e4]
      simp
  · have e1:decide ((n:Int)<b.ai)=false:=dF (by omega)
    simp only[BO,e1,Bool.false_eq_true,if_false]
 rw[l1,J_,sh]
 rfl
end
end Rx
end Go.Proofs.YtaneejpkncdodaaGreat
