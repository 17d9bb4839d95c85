import Derived.Test.YtncbfgppjfcijaaGreatPg
import Derived.Test.YtncbfgppjfcijaaGreatRz
set_option linter.unusedVariables false
set_option linter.unusedSimpArgs false
open Bool renaming and_eq_true→aqL,false_eq_true→aqG,not_false→ard,not_true→aqW
open Classical renaming byContradiction→aq6,not_not→arF
open Eq renaming trans→arO
open Int renaming eq_ofNat_of_zero_le→ara,le_refl→arm,ofNat_eq_natCast→asi,toNat_natCast→aq8
open List renaming filter_append→arK,filter_cons_of_neg→arA,filter_cons_of_pos→ari,find?_eq_none→arB,find?_some→arN,getElem?_range→asd,length_append→aqY,length_filter_le→ar1,length_map→ar0,map_append→arI,map_congr_left→ar9,mem_append→aqP,mem_cons→aqR,mem_filter→arf,mem_map→aqX,mem_of_find?_eq_some→arH,mem_range→aqV,mem_singleton→aq1,not_mem_nil→arc,range→aqN,replicate→aqS,take_length→arw
open Nat renaming le_refl→aqM,le_trans→aq',zero_add→arD
open Option renaming bind→ar_,bind_fun_some→aqQ,bind_some→aqF
open Option.some renaming inj→are,injEq→aq3
open Sum renaming elim_inl→aqI,elim_inr→aqJ
noncomputable section
namespace Go.Proofs.YtncbfgppjfcijaaGreat
open Go Go.RowKit Dp
namespace Rx
open Classical
theorem has_eq{l:List Int}{x:Int}(hl:Sm l):yA l x=some (decide (x∈l)):=by
 unfold yA
 have h:=kB (step:=yz l x) (fun k=>(k:Int)) l.length (fun k=>gt l k=x) (r:= .inr true) (e:= .inl ())
  (fun k hk hp=>by simp only[yz,aQ hk,if_true,az hk,aqF,aqI,aqJ,aZ,bY hp,aqG,if_false,aU (cM hl hk)])
  (fun k hk hp=>by simp only[yz,aQ hk,if_true,az hk,aqF,aqI,aqJ,aZ,eh hp])
  (by simp only[yz,bl,aqG,if_false])
 have h':ay (yz l x) 0=_:=h
 rw[h']
 by_cases he:x∈l
 · rw[if_pos (SB.1 he)];simp[he]
 · rw[if_neg (fun hh=>he (SB.2 hh))];simp[he]
theorem agt{l:List Int}{x:Int}(hl:Sm l):∃j:Int,DQ l x=some j∧(0≤j↔x∈l):=by
 have h:=kZ (step:=wE l x) (fun k=>(k:Int)) l.length (fun k=>x==gt l k) (R:=fun k=> .inr (k:Int)) (e:= .inl ())
  (fun k hk hp=>by simp only[wE,aQ hk,if_true,az hk,aqF,aqI,aqJ,aZ,hp,aqG,if_false,aU (cM hl hk)])
  (fun k hk hp=>by simp only[wE,aQ hk,if_true,az hk,aqF,aqI,aqJ,aZ,hp])
  (by simp only[wE,bl,aqG,if_false])
 have h':ay (wE l x) 0=_:=h
 unfold DQ
 rw[h']
 cases hf:(aqN l.length).find? (fun k=>x==gt l k) with
 |none=>
  refine⟨-1,by simp,by omega,fun hx=> ?_⟩
  obtain⟨k,hk,e⟩:=kY hx
  have:=arB.1 hf k (aqV.2 hk)
  simp[e] at this
 |some k=>
  have hk:=aqV.1 (arH hf)
  have hp:=arN hf
  refine⟨k,by simp,fun _=> ?_,fun _=>by omega⟩
  have e:x=gt l k:=by simpa using hp
  rw[e]
  exact cV hk
theorem contains_eq{l:List Int}{x:Int}(hl:Sm l):pn l x=some (decide (x∈l)):=by
 obtain⟨j,h1,h2⟩:=agt (x:=x) hl
 unfold pn
 rw[h1]
 simp only[aqF,aq3,decide_eq_decide]
 exact h2
theorem mL(a b c:Int):gp a b c=some (decide (b≤a∧a≤c)):=by
 unfold gp
 by_cases h:b≤a<;>simp[h]
theorem ac9(x:Source):Cz x=some (decide ((1≤x.dg∧x.dg≤50000)∧(0≤x.dr∧x.dr≤x.dg)∧0≤x.Start∧x.Start≤600)):=by
 unfold Cz
 simp only[mL,aqF,aqI,aqJ,aZ]
 by_cases h1:1≤x.dg∧x.dg≤50000<;>by_cases h2:0≤x.dr∧x.dr≤x.dg<;>simp[h1,h2]
theorem adE(x:aC):HI x=some (decide ((0≤x.State∧x.State≤3)∧(0≤x.ew∧x.ew≤2147483648)∧(0≤x.aB∧x.aB≤6000)∧0≤x.aG∧x.aG≤3599)):=by
 unfold HI
 simp only[mL,aqF,aqI,aqJ,aZ]
 by_cases h1:0≤x.State∧x.State≤3<;>by_cases h2:0≤x.ew∧x.ew≤2147483648<;>by_cases h3:0≤x.aB∧x.aB≤6000<;>simp[h1,h2,h3]
def Iv(l:List Int)(k:Nat):Prop:=∀i,i<l.length→(0≤gt l i∧gt l i≤(k:Int)-1)∧(0<i→gt l (i-1)<gt l i)
def iL(x:Consumer)(k:Nat):Prop:=Iv x.bF k∧(0≤x.cX∧x.cX≤50000)∧(0≤x.dr∧x.dr≤x.cX)∧(0≤x.iq∧x.iq≤15)∧(-1≤x.bm∧x.bm≤7)∧x.bF.length≤4
theorem alb{x:Consumer}{k:Nat}(hl:Sm x.bF)(hk:k≤1000000):HK x (k:Int)=some (decide (iL x k)):=by
 have e0:W ((k:Int)-1)=(k:Int)-1:=be (by omega) (by omega)
 have h:=kB (step:=yY x (k:Int)) (fun i=>(i:Int)) x.bF.length (fun i=>¬((0≤gt x.bF i∧gt x.bF i≤(k:Int)-1)∧(0<i→gt x.bF (i-1)<gt x.bF i))) (r:= .inr false) (e:= .inl ())
  (fun i hi hp=>by
    obtain⟨h1,h2⟩:=arF.1 hp
    simp only[yY,aQ hi,if_true,az hi,aqF,aqI,aqJ,aZ,mL,e0,dT h1,aqW,aqG,if_false]
    by_cases jp:0<i
    · have h3:=h2 jp
      rw[dT (c:=(i:Int)>0) (by omega)]
      simp only[if_true,o0 (cM hl hi) jp,az (show i-1<x.bF.length by omega),aqF,aqI,aqJ,aZ,dF (c:=gt x.bF (i-1)≥gt x.bF i) (by omega),aqG,if_false,aU (cM hl hi)]
    · rw[dF (c:=(i:Int)>0) (by omega)]
      simp only[aqG,if_false,aqF,aqI,aqJ,aZ,aU (cM hl hi)])
  (fun i hi hp=>by
    simp only[yY,aQ hi,if_true,az hi,aqF,aqI,aqJ,aZ,mL,e0]
    by_cases h1:0≤gt x.bF i∧gt x.bF i≤(k:Int)-1
    · have h2:0<i∧gt x.bF i≤gt x.bF (i-1):=by
       by_cases jp:0<i
       · refine⟨jp,Int.not_lt.1 fun h=>hp ⟨h1,fun _=>h⟩⟩
       · exact(hp ⟨h1,fun h=>(jp h).elim⟩).elim
      rw[dT h1,dT (c:=(i:Int)>0) (by omega)]
      simp only[aqW,aqG,if_false,if_true,o0 (cM hl hi) h2.1,az (show i-1<x.bF.length by omega),aqF,aqI,aqJ,aZ,dT (c:=gt x.bF (i-1)≥gt x.bF i) (by omega)]
    · rw[dF h1]
      simp only[ard,if_true,aqF,aqI,aqJ,aZ])
  (by simp only[yY,bl,aqG,if_false])
 have h':ay (yY x (k:Int)) 0=_:=h
 unfold HK
 rw[h']
 by_cases hn:Iv x.bF k
 · rw[if_neg (by rintro⟨i,hi,hp⟩;exact hp (hn i hi))]
   simp only[aqF,aqI,aqJ,aZ,mL]
   have e5:decide (len x.bF≤4)=decide (x.bF.length≤4):=by rw[decide_eq_decide];unfold len;omega
   rw[e5]
   unfold iL
   by_cases h1:0≤x.cX∧x.cX≤50000<;>by_cases h2:0≤x.dr∧x.dr≤x.cX<;>by_cases h3:0≤x.iq∧x.iq≤15<;>by_cases h4: -1≤x.bm∧x.bm≤7<;>simp[hn,h1,h2,h3,h4]
 · have:∃i,i<x.bF.length∧¬((0≤gt x.bF i∧gt x.bF i≤(k:Int)-1)∧(0<i→gt x.bF (i-1)<gt x.bF i)):=by
    apply aq6
    intro hh
    exact hn fun i hi=>aq6 fun h=>hh ⟨i,hi,h⟩
   rw[if_pos this]
   have hc:¬iL x k:=fun h=>hn h.1
   simp[hc]
def fw(x:aO)(j:Nat):Prop:=x.Kind=2∧x.B=(j:Int)
def k8(x:aO)(j:Nat):Prop:=x.Kind=3∧x.B=(j:Int)
def v8(b:aj)(k:Nat):Prop:=
 (0≤(gt b.ad k).A∧(gt b.ad k).A≤b.ak-1)∧
 (((gt b.ad k).Kind=1∧(gt b.ad k).A+1≤(gt b.ad k).B∧(gt b.ad k).B≤b.ak-1)∨
  ((gt b.ad k).Kind=2∧(0≤(gt b.ad k).B∧(gt b.ad k).B≤(b.aa.length:Int)-1)∧∀i,i<k→¬((gt b.ad i).Kind=2∧(gt b.ad i).B=(gt b.ad k).B))∨
  ((gt b.ad k).Kind=3∧(0≤(gt b.ad k).B∧(gt b.ad k).B≤(b.ai.length:Int)-1)∧∀i,i<k→¬((gt b.ad i).Kind=3∧(gt b.ad i).B=(gt b.ad k).B∧(gt b.ad i).A=(gt b.ad k).A)))
def bn(b:aj):Prop:=(∀k,k<b.ad.length→v8 b k)∧(∀j,j<b.aa.length→∃k,k<b.ad.length∧fw (gt b.ad k) j)∧(∀j,j<b.ai.length→∃k,k<b.ad.length∧k8 (gt b.ad k) j)
def rf(b:aj)(k j:Nat):Nat:=((b.ad.take k).filter fun x=>decide (fw x j)).length
def jN(b:aj)(k j:Nat):List Int:=((b.ad.take k).filter fun x=>decide (k8 x j)).map (·.A)
def dU(b:aj)(k:Nat):List Int:=(aqN b.aa.length).map fun j=>(rf b k j:Int)
def dp(b:aj)(k:Nat):List (List Int):=(aqN b.ai.length).map fun j=>jN b k j
theorem N6{b:aj}{k j:Nat}(hk:k<b.ad.length):rf b (k+1) j=rf b k j+if fw (gt b.ad k) j then 1 else 0:=by
 unfold rf
 rw[iM hk,arK,aqY]
 by_cases h:fw (gt b.ad k) j<;>simp[h]
theorem OZ{b:aj}{k j:Nat}(hk:k<b.ad.length):jN b (k+1) j=jN b k j++if k8 (gt b.ad k) j then [(gt b.ad k).A] else []:=by
 unfold jN
 rw[iM hk,arK,arI]
 by_cases h:k8 (gt b.ad k) j<;>simp[h]
theorem xr{α:Type}[ab α]{l:List α}{k:Nat}(hk:k≤l.length){x:α}:x∈l.take k↔∃i,i<k∧gt l i=x:=by
 constructor
 · intro h
   obtain⟨i,hi,e⟩:=List.getElem_of_mem h
   have ck:i<k:=by simp at hi;omega
   refine⟨i,ck, ?_⟩
   rw[fx (by omega),←e]
   simp
 · rintro⟨i,hi,rfl⟩
   rw[fx (by omega)]
   exact List.mem_take_iff_getElem.2 ⟨i,by omega,rfl⟩
theorem G0{b:aj}{k j:Nat}(hk:k≤b.ad.length):rf b k j=0↔∀i,i<k→¬fw (gt b.ad i) j:=by
 unfold rf
 rw[List.length_eq_zero_iff,List.filter_eq_nil_iff]
 constructor
 · intro h i hi hs
   exact h _ ((xr hk).2 ⟨i,hi,rfl⟩) (by simpa using hs)
 · intro h x hx hs
   obtain⟨i,hi,rfl⟩:=(xr hk).1 hx
   exact h i hi (by simpa using hs)
theorem Fe{b:aj}{k j:Nat}(hk:k≤b.ad.length){a:Int}:a∈jN b k j↔∃i,i<k∧k8 (gt b.ad i) j∧(gt b.ad i).A=a:=by
 unfold jN
 rw[aqX]
 constructor
 · rintro⟨x,hx,rfl⟩
   rw[arf] at hx
   obtain⟨i,hi,rfl⟩:=(xr hk).1 hx.1
   exact⟨i,hi,by simpa using hx.2,rfl⟩
 · rintro⟨i,hi,hc,rfl⟩
   exact⟨_,arf.2 ⟨(xr hk).2 ⟨i,hi,rfl⟩,by simpa using hc⟩,rfl⟩
theorem Zn{b:aj}{k j:Nat}(hk:k≤b.ad.length):(jN b k j).length≤k:=by
 unfold jN
 rw[ar0]
 refine aq' (ar1 _ _) ?_
 simp;omega
structure dS(b:aj):Prop where
 fe:1≤b.ak∧b.ak≤6
 bV:b.ad.length≤24
 src:b.aa.length≤8
 eL:b.ai.length≤16
theorem aoW{b:aj}(hl:dS b):ay (vR b) ((0:Int),dU b 0,dp b 0)=some (if ∃k,k<b.ad.length∧¬v8 b k then .inr false else .inl (dU b b.ad.length,dp b b.ad.length)):=by
 have hb:=hl.fe
 have jq:=hl.bV
 have iS:=hl.src
 have xZ:=hl.eL
 have eB:W (b.ak-1)=b.ak-1:=be (by omega) (by omega)
 have iH:=kB (step:=vR b) (fun k=>((k:Int),dU b k,dp b k)) b.ad.length (fun k=>¬v8 b k) (r:= .inr false) (e:= .inl (dU b b.ad.length,dp b b.ad.length)) ?nx ?ht (by simp only[vR,bl,aqG,if_false])
 exact iH.trans (by congr)
 case nx=>
  intro k hk hp
  obtain⟨hA,hB⟩:=arF.1 hp
  have hs:k<1000000000000000000:=by omega
  have eS:len (dU b k)=(b.aa.length:Int):=by simp[len,dU]
  have eC:len (dp b k)=(b.ai.length:Int):=by simp[len,dp]
  have NO:W ((b.aa.length:Int)-1)=(b.aa.length:Int)-1:=be (by omega) (by omega)
  have NP:W ((b.ai.length:Int)-1)=(b.ai.length:Int)-1:=be (by omega) (by omega)
  have vE:W ((gt b.ad k).A+1)=(gt b.ad k).A+1:=be (by omega) (by omega)
  simp only[vR,aQ hk,if_true,az hk,aqF,aqI,aqJ,aZ,mL,eB,vE,eS,eC,NO,NP,dT hA,aqW,aqG,if_false]
  rcases hB with⟨h1,h2⟩|⟨h1,h2,h3⟩|⟨h1,h2,h3⟩
  · have n1:∀j,¬fw (gt b.ad k) j:=fun j h=>by have:=h.1;omega
    have n2:∀j,¬k8 (gt b.ad k) j:=fun j h=>by have:=h.1;omega
    have f1:dU b (k+1)=dU b k:=ar9 fun j _=>by rw[N6 hk,if_neg (n1 j)];rfl
    have f2:dp b (k+1)=dp b k:=ar9 fun j _=>by rw[OZ hk,if_neg (n2 j)];simp
    simp only[eh h1,if_true,dT h2,aqF,aqI,aqJ,aZ,aU hs,f1,f2]
  · have hj:(gt b.ad k).B=((gt b.ad k).B.toNat:Int):=by omega
    generalize (gt b.ad k).B.toNat=j at hj
    rw[hj] at h2 h3
    have bW:j<b.aa.length:=by omega
    have hz:rf b k j=0:=(G0 (by omega)).2 fun i hi h=>h3 i hi h
    have hg:gt (dU b k) j=0:=by unfold dU;rw[fV _ bW,hz];rfl
    have nG:(dU b k).length=b.aa.length:=by simp[dU]
    have n2:∀j,¬k8 (gt b.ad k) j:=fun j h=>by have:=h.1;omega
    have f2:dp b (k+1)=dp b k:=ar9 fun j _=>by rw[OZ hk,if_neg (n2 j)];simp
    have f1:(dU b k).set j (W (0+1))=dU b (k+1):=by
     apply fp
     · simp[dU]
     · intro i hi
       have ck:i<b.aa.length:=by simpa[dU] using hi
       rw[dz (by omega)]
       unfold dU
       rw[fV _ ck,fV _ ck,N6 hk]
       by_cases iV:i=j
       · subst iV
         rw[if_pos rfl,if_pos ⟨h1,hj⟩,hz]
         rfl
       · rw[if_neg iV,if_neg (fun h=>iV (by have:=h.2;omega))]
         rfl
    have k1:((gt b.ad k).Kind==1)=false:=bY (by omega)
    simp only[k1,eh h1,if_true,if_false,aqG,aqF,aqI,aqJ,aZ,hj,dT h2,az (show j<(dU b k).length by omega),hg,beq_self_eq_true,fg (show j<(dU b k).length by omega),f1,f2,aU hs]
  · have hj:(gt b.ad k).B=((gt b.ad k).B.toNat:Int):=by omega
    generalize (gt b.ad k).B.toNat=j at hj
    rw[hj] at h2 h3
    have bW:j<b.ai.length:=by omega
    have uV:(gt b.ad k).A∉jN b k j:=fun h=>by
     obtain⟨i,hi,hc,ha⟩:=(Fe (by omega)).1 h
     exact h3 i hi ⟨hc.1,hc.2,ha⟩
    have hg:gt (dp b k) j=jN b k j:=by unfold dp;rw[fV _ bW]
    have nG:(dp b k).length=b.ai.length:=by simp[dp]
    have ap2:(dp b (k+1)).length=b.ai.length:=by simp[dp]
    have vn:=Zn (b:=b) (k:=k) (j:=j) (by omega)
    have n1:∀j,¬fw (gt b.ad k) j:=fun j h=>by have:=h.1;omega
    have f1:dU b (k+1)=dU b k:=ar9 fun j _=>by rw[N6 hk,if_neg (n1 j)];rfl
    have f2:(dp b k).set j (jN b k j++[(gt b.ad k).A])=dp b (k+1):=by
     apply fp
     · simp[dp]
     · intro i hi
       have ck:i<b.ai.length:=by simpa[dp] using hi
       rw[dz (by omega)]
       unfold dp
       rw[fV _ ck,fV _ ck,OZ hk]
       by_cases iV:i=j
       · subst iV
         rw[if_pos rfl,if_pos ⟨h1,hj⟩]
       · rw[if_neg iV,if_neg (fun h=>iV (by have:=h.2;omega))]
         simp
    have k1:((gt b.ad k).Kind==1)=false:=bY (by omega)
    have k2:((gt b.ad k).Kind==2)=false:=bY (by omega)
    have df:Sm (jN b k j):=by unfold Sm;omega
    simp only[k1,k2,eh h1,if_true,if_false,aqG,aqF,aqI,aqJ,aZ,hj,dT h2,az (show j<(dp b k).length by omega),hg,contains_eq df,dF uV,az (show j<(dp b (k+1)).length by omega),ard,cp (show(jN b k j).length+[(gt b.ad k).A].length≤1073741824 by simp;omega),fg (show j<(dp b k).length by omega),f1,f2,aU hs]
 case ht=>
  intro k hk hp
  have hs:k<1000000000000000000:=by omega
  have eS:len (dU b k)=(b.aa.length:Int):=by simp[len,dU]
  have eC:len (dp b k)=(b.ai.length:Int):=by simp[len,dp]
  have NO:W ((b.aa.length:Int)-1)=(b.aa.length:Int)-1:=be (by omega) (by omega)
  have NP:W ((b.ai.length:Int)-1)=(b.ai.length:Int)-1:=be (by omega) (by omega)
  by_cases hA:0≤(gt b.ad k).A∧(gt b.ad k).A≤b.ak-1
  · have vE:W ((gt b.ad k).A+1)=(gt b.ad k).A+1:=be (by omega) (by omega)
    simp only[vR,aQ hk,if_true,az hk,aqF,aqI,aqJ,aZ,mL,eB,vE,eS,eC,NO,NP,dT hA,aqW,aqG,if_false]
    by_cases k1:(gt b.ad k).Kind=1
    · have h2:¬((gt b.ad k).A+1≤(gt b.ad k).B∧(gt b.ad k).B≤b.ak-1):=fun h=>hp ⟨hA,.inl ⟨k1,h⟩⟩
      have k2:((gt b.ad k).Kind==2)=false:=bY (by omega)
      have k3:((gt b.ad k).Kind==3)=false:=bY (by omega)
      simp only[eh k1,k2,k3,if_true,if_false,aqG,dF h2,aqF,aqI,aqJ,aZ]
    · by_cases k2:(gt b.ad k).Kind=2
      · have k3:((gt b.ad k).Kind==3)=false:=bY (by omega)
        by_cases h2:0≤(gt b.ad k).B∧(gt b.ad k).B≤(b.aa.length:Int)-1
        · have hj:(gt b.ad k).B=((gt b.ad k).B.toNat:Int):=by omega
          have bW:(gt b.ad k).B.toNat<b.aa.length:=by omega
          have bg:gt (dU b k) (gt b.ad k).B.toNat≠0:=by
           unfold dU
           rw[fV _ bW]
           intro h0
           have hz:rf b k (gt b.ad k).B.toNat=0:=by omega
           refine hp ⟨hA,.inr (.inl ⟨k2,h2,fun i hi h=>(G0 (by omega)).1 hz i hi ⟨h.1,by rw[h.2];exact hj⟩⟩)⟩
          have nG:(dU b k).length=b.aa.length:=by simp[dU]
          simp only[bY k1,eh k2,k3,if_true,if_false,aqG,dT h2,aqF,aqI,aqJ,aZ,fQ h2.1 (show(gt b.ad k).B<((dU b k).length:Int) by omega),bY bg]
        · simp only[bY k1,eh k2,k3,if_true,if_false,aqG,dF h2,aqF,aqI,aqJ,aZ]
      · by_cases k3:(gt b.ad k).Kind=3
        · by_cases h2:0≤(gt b.ad k).B∧(gt b.ad k).B≤(b.ai.length:Int)-1
          · have hj:(gt b.ad k).B=((gt b.ad k).B.toNat:Int):=by omega
            have bW:(gt b.ad k).B.toNat<b.ai.length:=by omega
            have hg:gt (dp b k) (gt b.ad k).B.toNat=jN b k (gt b.ad k).B.toNat:=by unfold dp;rw[fV _ bW]
            have fk:(gt b.ad k).A∈jN b k (gt b.ad k).B.toNat:=by
             apply aq6
             intro hn
             refine hp ⟨hA,.inr (.inr ⟨k3,h2,fun i hi h=>hn ((Fe (by omega)).2 ⟨i,hi,⟨h.1,by rw[h.2.1];exact hj⟩,h.2.2⟩)⟩)⟩
            have nG:(dp b k).length=b.ai.length:=by simp[dp]
            have vn:=Zn (b:=b) (k:=k) (j:=(gt b.ad k).B.toNat) (by omega)
            have df:Sm (jN b k (gt b.ad k).B.toNat):=by unfold Sm;omega
            simp only[bY k1,bY k2,eh k3,if_true,if_false,aqG,dT h2,aqF,aqI,aqJ,aZ,fQ h2.1 (show(gt b.ad k).B<((dp b k).length:Int) by omega),hg,contains_eq df,dT fk,aqW]
          · simp only[bY k1,bY k2,eh k3,if_true,if_false,aqG,dF h2,aqF,aqI,aqJ,aZ]
        · simp only[bY k1,bY k2,bY k3,if_false,aqG,aqF,aqI,aqJ,aZ]
  · simp only[vR,aQ hk,if_true,az hk,aqF,aqI,aqJ,aZ,mL,eB,dF hA,ard]
end Rx
namespace Rx
open Classical
theorem PN{b:aj}:(0:Int)∈dU b b.ad.length↔∃j,j<b.aa.length∧∀k,k<b.ad.length→¬fw (gt b.ad k) j:=by
 unfold dU
 rw[aqX]
 constructor
 · rintro⟨j,hj,h⟩
   exact⟨j,aqV.1 hj,(G0 (aqM _)).1 (by omega)⟩
 · rintro⟨j,hj,h⟩
   exact⟨j,aqV.2 hj,by rw[(G0 (aqM _)).2 h];rfl⟩
theorem ala{l:List (List Int)}(hl:Sm l):D4 l=some (decide (∃k,k<l.length∧gt l k=[])):=by
 have h:=kZ (step:=wG l) (fun k=>(k:Int)) l.length (fun k=>(len (gt l k)==0)) (R:=fun k=> .inr (k:Int)) (e:= .inl ())
  (fun k hk hp=>by simp only[wG,HO,aQ hk,if_true,az hk,aqF,aqQ,aqI,aqJ,aZ,hp,aqG,if_false,aU (cM hl hk)])
  (fun k hk hp=>by simp only[wG,HO,aQ hk,if_true,az hk,aqF,aqQ,aqI,aqJ,aZ,hp])
  (by simp only[wG,bl,aqG,if_false])
 have h':ay (wG l) 0=_:=h
 unfold D4 Jy
 rw[h']
 have hz:∀k,(len (gt l k)==0)=true↔gt l k=[]:=fun k=>by simp[len]
 cases hf:(aqN l.length).find? (fun k=>(len (gt l k)==0)) with
 |none=>
  have:¬∃k,k<l.length∧gt l k=[]:=fun⟨k,hk,e⟩=>by
   have:=arB.1 hf k (aqV.2 hk)
   exact this ((hz k).2 e)
  simp[this]
 |some k=>
  have hk:=aqV.1 (arH hf)
  have hp:=(hz k).1 (arN (p:=fun k=>(len (gt l k)==0)) hf)
  have:∃k,k<l.length∧gt l k=[]:=⟨k,hk,hp⟩
  simp[this]
theorem aoX{b:aj}(hl:dS b):HP b=some (decide (bn b)):=by
 have jq:=hl.bV
 have iS:=hl.src
 have xZ:=hl.eL
 have e1:jC (0:Int) (len b.aa)=some (dU b 0):=by
  rw[SW,ur (by omega)]
  congr 1
  apply fp
  · simp[dU]
  · intro k hk
    have bH:k<b.aa.length:=by simpa using hk
    rw[sO bH]
    unfold dU
    rw[fV _ bH]
    simp[rf]
 have e2:jC ([]:List Int) (len b.ai)=some (dp b 0):=by
  rw[SW,ur (by omega)]
  congr 1
  apply fp
  · simp[dp]
  · intro k hk
    have bH:k<b.ai.length:=by simpa using hk
    rw[sO bH]
    unfold dp
    rw[fV _ bH]
    simp[jN]
 have qS:=aoW hl
 unfold HP
 simp only[e1,e2,aqF,aqQ,aqI,aqJ,aZ,qS]
 by_cases lr:∀k,k<b.ad.length→v8 b k
 · rw[if_neg (by rintro⟨k,hk,h⟩;exact h (lr k hk))]
   have s1:Sm (dU b b.ad.length):=by unfold Sm;simp[dU];omega
   have s2:Sm (dp b b.ad.length):=by unfold Sm;simp[dp];omega
   have cf:(dp b b.ad.length).length=b.ai.length:=by simp[dp]
   simp only[aqF,aqQ,aqI,aqJ,aZ,aqI,contains_eq s1,ala s2]
   by_cases h0:(0:Int)∈dU b b.ad.length
   · have:¬bn b:=fun h=>by
      obtain⟨j,hj,hn⟩:=PN.1 h0
      obtain⟨k,hk,hs⟩:=h.2.1 j hj
      exact hn k hk hs
     simp[h0,this]
   · have hS:∀j,j<b.aa.length→∃k,k<b.ad.length∧fw (gt b.ad k) j:=fun j hj=>by
      apply aq6
      intro hn
      exact h0 (PN.2 ⟨j,hj,fun k hk hs=>hn ⟨k,hk,hs⟩⟩)
     by_cases hE:∃k,k<(dp b b.ad.length).length∧gt (dp b b.ad.length) k=[]
     · have:¬bn b:=fun h=>by
        obtain⟨j,hj,he⟩:=hE
        rw[cf] at hj
        obtain⟨k,hk,hc⟩:=h.2.2 j hj
        unfold dp at he
        rw[fV _ hj] at he
        have:(gt b.ad k).A∈jN b b.ad.length j:=(Fe (aqM _)).2 ⟨k,hk,hc,rfl⟩
        rw[he] at this
        cases this
       simp[h0,hE,this]
     · have:bn b:=⟨lr,hS,fun j hj=>by
        apply aq6
        intro hn
        refine hE ⟨j,by rw[cf];exact hj, ?_⟩
        unfold dp
        rw[fV _ hj]
        apply List.eq_nil_iff_forall_not_mem.2
        intro a ha
        obtain⟨i,hi,hc,_⟩:=(Fe (aqM _)).1 ha
        exact hn ⟨i,hi,hc⟩⟩
       simp[h0,hE,this]
 · have:∃k,k<b.ad.length∧¬v8 b k:=by
    apply aq6
    intro hn
    exact lr fun k hk=>aq6 fun h=>hn ⟨k,hk,h⟩
   rw[if_pos this]
   have:¬bn b:=fun h=>lr h.1
   simp[this]
def i_(x:Source):Prop:=(1≤x.dg∧x.dg≤50000)∧(0≤x.dr∧x.dr≤x.dg)∧0≤x.Start∧x.Start≤600
def mw(b:aj):Prop:=bn b∧(0≤b.aG∧b.aG≤1800)∧(0≤b.aB∧b.aB≤6000)∧(∀k,k<b.aa.length→i_ (gt b.aa k))∧∀k,k<b.ai.length→iL (gt b.ai k) k
def jL(b:aj):Int:=if dS b then(if mw b then 0 else 14) else 2
def bP(b:aj):Prop:=Sm b.ad∧Sm b.aa∧Sm b.ai∧∀x∈b.ai,Sm x.bF
theorem ac8(x:Source):Cz x=some (decide (i_ x)):=by
 rw[ac9]
 congr 1
 rw[decide_eq_decide]
 exact Iff.rfl
theorem NX(p:Prop)[Decidable p]:decide p=dB p:=by
 by_cases h:p
 · rw[dT h,il h]
 · rw[dF h,fq h]
theorem NW(r:Bool){S:Prop}(h:S):r=dB (r=true∧S):=by
 cases r
 · rw[fq (fun h=>by cases h.1)]
 · rw[il ⟨rfl,h⟩]
theorem Gv{r:Bool}{S C G:Prop}(h:(r=true∧S)∧C↔G):(if(!dB (dB (r=true∧S)=true∧C))=true then some (14:Int) else some 0)=some (if G then 0 else 14):=by
 by_cases hg:G
 · obtain⟨h1,h2⟩:=h.2 hg
   rw[il h1,il (p:=true=true∧C) ⟨rfl,h2⟩,if_pos hg]
   rfl
 · by_cases h1:r=true∧S
   · rw[il h1,fq (p:=true=true∧C) (fun h2=>hg (h.1 ⟨h1,h2.2⟩)),if_neg hg]
     rfl
   · rw[fq h1,fq (p:=false=true∧C) (fun h2=>by cases h2.1),if_neg hg]
     rfl
theorem ND{r:Bool}{S G:Prop}(h:(r=true∧S)↔G):(if(!dB (r=true∧S))=true then some (11:Int) else some 0)=some (if G then 0 else 11):=by
 by_cases hg:G
 · rw[il (h.2 hg),if_pos hg]
   rfl
 · rw[fq (fun h1=>hg (h.1 h1)),if_neg hg]
   rfl
theorem DL{b:aj}(hl:dS b)(r:Bool):ay (y7 b) (r,(0:Int))=some (dB (r=true∧∀k,k<b.aa.length→i_ (gt b.aa k))):=by
 have iS:=hl.src
 have h:=dE (step:=y7 b) (fun k=>(dB (r=true∧∀i,i<k→i_ (gt b.aa i)),(k:Int))) b.aa.length (r:=dB (r=true∧∀i,i<b.aa.length→i_ (gt b.aa i)))
  (fun k hk=>by
    simp only[y7,aQ hk,if_true,az hk,aqF,aqQ,aqI,aqJ,aZ,ac8,aU (show k<1000000000000000000 by omega)]
    by_cases h1:r=true∧∀i,i<k→i_ (gt b.aa i)
    · have e:dB (r=true∧∀i,i<k+1→i_ (gt b.aa i))=decide (i_ (gt b.aa k)):=by
       rw[NX]
       apply NY
       refine⟨fun h=>h.2 k (by omega),fun h=>⟨h1.1,fun i hi=> ?_⟩⟩
       by_cases c_:i=k
       · subst c_;exact h
       · exact h1.2 i (by omega)
      rw[il h1,e]
      rfl
    · have h2:¬(r=true∧∀i,i<k+1→i_ (gt b.aa i)):=fun h=>h1 ⟨h.1,fun i hi=>h.2 i (by omega)⟩
      rw[fq h1,fq h2]
      rfl)
  (by simp only[y7,bl,aqG,if_false])
 have e0:r=dB (r=true∧∀i,i<0→i_ (gt b.aa i)):=NW r (fun i hi=>by omega)
 exact(congrArg (fun q=>ay (y7 b) (q,(0:Int))) e0).trans h
theorem GX{b:aj}(hl:dS b)(hs:bP b)(r:Bool):ay (y6 b) (r,(0:Int))=some (dB (r=true∧∀k,k<b.ai.length→iL (gt b.ai k) k)):=by
 have xZ:=hl.eL
 have h:=dE (step:=y6 b) (fun k=>(dB (r=true∧∀i,i<k→iL (gt b.ai i) i),(k:Int))) b.ai.length (r:=dB (r=true∧∀i,i<b.ai.length→iL (gt b.ai i) i))
  (fun k hk=>by
    simp only[y6,aQ hk,if_true,az hk,aqF,aqQ,aqI,aqJ,aZ,alb (hs.2.2.2 _ (cV hk)) (show k≤1000000 by omega),aU (show k<1000000000000000000 by omega)]
    by_cases h1:r=true∧∀i,i<k→iL (gt b.ai i) i
    · have e:dB (r=true∧∀i,i<k+1→iL (gt b.ai i) i)=decide (iL (gt b.ai k) k):=by
       rw[NX]
       apply NY
       refine⟨fun h=>h.2 k (by omega),fun h=>⟨h1.1,fun i hi=> ?_⟩⟩
       by_cases c_:i=k
       · subst c_;exact h
       · exact h1.2 i (by omega)
      rw[il h1,e]
      rfl
    · have h2:¬(r=true∧∀i,i<k+1→iL (gt b.ai i) i):=fun h=>h1 ⟨h.1,fun i hi=>h.2 i (by omega)⟩
      rw[fq h1,fq h2]
      rfl)
  (by simp only[y6,bl,aqG,if_false])
 have e0:r=dB (r=true∧∀i,i<0→iL (gt b.ai i) i):=NW r (fun i hi=>by omega)
 exact(congrArg (fun q=>ay (y6 b) (q,(0:Int))) e0).trans h
theorem V2{b:aj}(hs:bP b):CO b=some (jL b):=by
 unfold CO jL
 simp only[mL,aqF,aqQ,aqI,aqJ,aZ]
 by_cases h1:1≤b.ak∧b.ak≤6
 case neg=>
  have:¬dS b:=fun h=>h1 h.fe
  simp[h1,this]
 by_cases h2:b.ad.length≤24
 case neg=>
  have:¬dS b:=fun h=>h2 h.bV
  have e:decide (len b.ad>24)=true:=dT (by unfold len;omega)
  simp[h1,this,e]
 by_cases h3:b.aa.length≤8
 case neg=>
  have:¬dS b:=fun h=>h3 h.src
  have e1:decide (len b.ad>24)=false:=dF (by unfold len;omega)
  have e:decide (len b.aa>8)=true:=dT (by unfold len;omega)
  simp[h1,this,e,e1]
 by_cases h4:b.ai.length≤16
 case neg=>
  have:¬dS b:=fun h=>h4 h.eL
  have e1:decide (len b.ad>24)=false:=dF (by unfold len;omega)
  have e2:decide (len b.aa>8)=false:=dF (by unfold len;omega)
  have e:decide (len b.ai>16)=true:=dT (by unfold len;omega)
  simp[h1,this,e,e1,e2]
 have hl:dS b:=⟨h1,h2,h3,h4⟩
 have e1:decide (len b.ad>24)=false:=dF (by unfold len;omega)
 have e2:decide (len b.aa>8)=false:=dF (by unfold len;omega)
 have e3:decide (len b.ai>16)=false:=dF (by unfold len;omega)
 simp only[dT h1,e1,e2,e3,aqW,aqG,if_false,aqF,aqQ,aqI,aqJ,aZ,aoX hl,if_pos hl]
 by_cases g1:bn b
 case neg=>
  simp only[dF g1,aqG,if_false,aqF,aqQ,aqI,aqJ,aZ]
  rw[DL hl,aqF,GX hl hs,aqF]
  exact Gv (r:=false) ⟨(fun h=>by cases h.1.1),fun h=>(g1 h.1).elim⟩
 by_cases g2:0≤b.aG∧b.aG≤1800
 case neg=>
  simp only[dT g1,dF g2,aqG,if_false,if_true,aqF,aqQ,aqI,aqJ,aZ]
  rw[DL hl,aqF,GX hl hs,aqF]
  exact Gv (r:=false) ⟨(fun h=>by cases h.1.1),fun h=>(g2 h.2.1).elim⟩
 by_cases g3:0≤b.aB∧b.aB≤6000
 case neg=>
  simp only[dT g1,dT g2,dF g3,aqG,if_false,if_true,aqF,aqQ,aqI,aqJ,aZ]
  rw[DL hl,aqF,GX hl hs,aqF]
  exact Gv (r:=false) ⟨(fun h=>by cases h.1.1),fun h=>(g3 h.2.2.1).elim⟩
 rw[dT g1,dT g2,dT g3]
 simp only[if_true,aqF,aqQ,aqI,aqJ,aZ]
 rw[DL hl,aqF,GX hl hs,aqF]
 exact Gv (r:=true) ⟨fun h=>⟨g1,g2,g3,h.1.2,h.2⟩,fun h=>⟨⟨rfl,h.2.2.2.1⟩,h.2.2.2.2⟩⟩
theorem N5(a b:Int):yF a b=some (if a<b then-1 else if b<a then 1 else 0):=by
 unfold yF G1
 by_cases h1:a<b<;>by_cases h2:b<a<;>simp[h1,h2]
theorem Se(a b:Int):G2 [a,b]=some (if a≠0 then a else b):=by
 have hl:len [a,b]=2:=rfl
 have i0:idx [a,b] 0=some a:=rfl
 have i1:idx [a,b] 1=some b:=rfl
 have w1:W 1=1:=be (by omega) (by omega)
 have w2:W 2=2:=be (by omega) (by omega)
 unfold G2
 by_cases ha:a=0
 · subst ha
   have s0:oX [0,b] 0=some (.inl 1):=by simp[oX,hl,i0,w1]
   by_cases hb:b=0
   · subst hb
     have s1:oX [0,0] 1=some (.inl 2):=by simp[oX,hl,i1,w2]
     have s2:oX [0,0] 2=some (.inr (.inl ())):=by simp[oX,hl]
     rw[lO (.more s0 (.more s1 (.done s2))) (by omega)]
     rfl
   · have s1:oX [0,b] 1=some (.inr (.inr b)):=by simp[oX,hl,i1,hb]
     rw[lO (.more s0 (.done s1)) (by omega)]
     simp
 · have s0:oX [a,b] 0=some (.inr (.inr a)):=by simp[oX,hl,i0,ha]
   rw[lO (.done s0) (by omega)]
   simp[ha]
def bsize(b:aj)(kind:Int):Int:=if kind=1 then b.aa.length else if kind=2 then b.ad.length else if kind=3 then b.ak else if kind=4 then b.ai.length else 0
theorem size_eq(b:aj)(k:Int):HG b k=some (bsize b k):=by
 unfold HG bsize
 by_cases h1:k=1<;>by_cases h2:k=2<;>by_cases h3:k=3<;>by_cases h4:k=4<;>simp[h1,h2,h3,h4,len]
def before(x y:Part):Prop:=x.Kind<y.Kind∨x.Kind=y.Kind∧x.Number<y.Number
def kO(b:aj)(l:List Part)(k:Nat):Prop:=(0≤(gt l k).Number∧(gt l k).Number≤bsize b (gt l k).Kind-1)∧(0<k→before (gt l (k-1)) (gt l k))
theorem VW(x y:Part):decide ((if(if x.Kind<y.Kind then(-1:Int) else if y.Kind<x.Kind then 1 else 0)≠0 then(if x.Kind<y.Kind then(-1:Int) else if y.Kind<x.Kind then 1 else 0) else(if x.Number<y.Number then(-1:Int) else if y.Number<x.Number then 1 else 0))≥0)=decide (¬before x y):=by
 rw[decide_eq_decide]
 unfold before
 by_cases h1:x.Kind<y.Kind
 · simp[h1]
 · by_cases h2:y.Kind<x.Kind
   · simp[h1,h2];omega
   · by_cases h3:x.Number<y.Number
     · simp[h1,h2,h3];omega
     · by_cases h4:y.Number<x.Number
       · simp[h1,h2,h3,h4]
       · simp[h1,h2,h3,h4]
theorem aoR{b:aj}{l:List Part}(hb:dS b)(hl:Sm l):HN b l=some (decide ((∀k,k<l.length→kO b l k)∧l.length≤32)):=by
 have h1:=hb.fe
 have h2:=hb.bV
 have h3:=hb.src
 have h4:=hb.eL
 have eW:∀k,W (bsize b k-1)=bsize b k-1:=fun k=>by
  apply be<;>unfold bsize<;>(repeat' split)<;>omega
 have h:=kB (step:=yZ b l) (fun i=>(i:Int)) l.length (fun i=>¬kO b l i) (r:= .inr false) (e:= .inl ())
  (fun i hi hp=>by
    obtain⟨p1,p2⟩:=arF.1 hp
    simp only[yZ,aQ hi,if_true,az hi,aqF,aqQ,aqI,aqJ,aZ,size_eq,mL,eW,dT p1,aqW,aqG,if_false]
    by_cases jp:0<i
    · have p3:=p2 jp
      rw[dT (c:=(i:Int)>0) (by omega)]
      simp only[if_true,o0 (cM hl hi) jp,az (show i-1<l.length by omega),aqF,aqQ,aqI,aqJ,aZ,N5,Se,VW,dF (c:=¬before (gt l (i-1)) (gt l i)) (fun h=>h p3),aqG,if_false,aU (cM hl hi)]
    · rw[dF (c:=(i:Int)>0) (by omega)]
      simp only[aqG,if_false,aqF,aqQ,aqI,aqJ,aZ,aU (cM hl hi)])
  (fun i hi hp=>by
    simp only[yZ,aQ hi,if_true,az hi,aqF,aqQ,aqI,aqJ,aZ,size_eq,mL,eW]
    by_cases p1:0≤(gt l i).Number∧(gt l i).Number≤bsize b (gt l i).Kind-1
    · have p2:0<i∧¬before (gt l (i-1)) (gt l i):=by
       by_cases jp:0<i
       · exact⟨jp,fun h=>hp ⟨p1,fun _=>h⟩⟩
       · exact(hp ⟨p1,fun h=>(jp h).elim⟩).elim
      rw[dT p1,dT (c:=(i:Int)>0) (by omega)]
      simp only[aqW,aqG,if_false,if_true,o0 (cM hl hi) p2.1,az (show i-1<l.length by omega),aqF,aqQ,aqI,aqJ,aZ,N5,Se,VW,dT p2.2]
    · rw[dF p1]
      simp only[ard,if_true,aqF,aqQ,aqI,aqJ,aZ])
  (by simp only[yZ,bl,aqG,if_false])
 have h':ay (yZ b l) 0=_:=h
 unfold HN
 rw[h']
 by_cases hn:∀k,k<l.length→kO b l k
 · rw[if_neg (by rintro⟨i,hi,hp⟩;exact hp (hn i hi))]
   show some (decide (len l≤32))=_
   congr 1
   rw[decide_eq_decide]
   unfold len
   exact⟨fun h=>⟨hn,by omega⟩,fun h=>by have:=h.2;omega⟩
 · have:∃i,i<l.length∧¬kO b l i:=by
    apply aq6
    intro hh
    exact hn fun i hi=>aq6 fun h=>hh ⟨i,hi,h⟩
   rw[if_pos this,dF (c:=(∀k,k<l.length→kO b l k)∧l.length≤32) (fun h=>hn h.1)]
   rfl
def dq(x:aC):Prop:=(0≤x.State∧x.State≤3)∧(0≤x.ew∧x.ew≤2147483648)∧(0≤x.aB∧x.aB≤6000)∧0≤x.aG∧x.aG≤3599
theorem VQ{l:List aC}(hl:Sm l):D6 l=some (decide (∃k,k<l.length∧¬dq (gt l k))):=by
 have e1:∀x,HQ x=some (decide (¬dq x)):=fun x=>by
  unfold HQ
  rw[adE]
  have:dq x↔((0≤x.State∧x.State≤3)∧(0≤x.ew∧x.ew≤2147483648)∧(0≤x.aB∧x.aB≤6000)∧0≤x.aG∧x.aG≤3599):=Iff.rfl
  by_cases h:dq x
  · rw[dT (this.1 h),dF (c:=¬dq x) (fun hh=>hh h)];rfl
  · rw[dF (fun hh=>h (this.2 hh)),dT h];rfl
 have h:=kZ (step:=wH l) (fun k=>(k:Int)) l.length (fun k=>decide (¬dq (gt l k))) (R:=fun k=> .inr (k:Int)) (e:= .inl ())
  (fun k hk hp=>by simp only[wH,e1,aQ hk,if_true,az hk,aqF,aqQ,aqI,aqJ,aZ,hp,aqG,if_false,aU (cM hl hk)])
  (fun k hk hp=>by simp only[wH,e1,aQ hk,if_true,az hk,aqF,aqQ,aqI,aqJ,aZ,hp])
  (by simp only[wH,bl,aqG,if_false])
 have h':ay (wH l) 0=_:=h
 unfold D6 JA
 rw[h']
 cases hf:(aqN l.length).find? (fun k=>decide (¬dq (gt l k))) with
 |none=>
  have:¬∃k,k<l.length∧¬dq (gt l k):=fun⟨k,hk,e⟩=>by
   have:=arB.1 hf k (aqV.2 hk)
   exact this (dT e)
  rw[dF this]
  rfl
 |some k=>
  have hk:=aqV.1 (arH hf)
  have hp:=of_decide_eq_true (arN (p:=fun k=>decide (¬dq (gt l k))) hf)
  have:∃k,k<l.length∧¬dq (gt l k):=⟨k,hk,hp⟩
  rw[dT this]
  simp
def cI(b:aj)(p:ae)(j:Int):Nat→Nat
 |0=>0
 |k+1=>cI b p j k+if(gt b.ad k).Kind=3∧(gt b.ad k).B=j∧gt p.aq k=true then 1 else 0
theorem alm(b:aj)(p:ae)(j:Int)(k:Nat):cI b p j k≤k:=by
 induction k with
 |zero=>exact aqM _
 |succ k ih=>unfold cI;split<;>omega
theorem ali{b:aj}{p:ae}(j:Int)(hl:Sm b.ad)(hc:p.aq.length=b.ad.length):HM b p j=some (cI b p j b.ad.length:Int):=by
 have h:=dE (step:=CG b p j) (fun k=>((cI b p j k:Int),(k:Int))) b.ad.length (r:=(cI b p j b.ad.length:Int))
  (fun k hk=>by
    have:=alm b p j k
    have hs:=cM hl hk
    simp only[CG,aQ hk,if_true,az hk,az (l:=p.aq) (show k<p.aq.length by omega),aqF,aqQ,aqI,aqJ,aZ,aU hs,aU (show cI b p j k<1000000000000000000 by omega)]
    by_cases h1:(gt b.ad k).Kind=3
    · by_cases h2:(gt b.ad k).B=j
      · cases h3:gt p.aq k with
        |true=>simp[cI,h1,h2,h3]
        |false=>simp[cI,h1,h2,h3]
      · simp[cI,h1,h2]
    · simp[cI,h1])
  (by simp only[CG,bl,aqG,if_false])
 have h':ay (CG b p j) (0,0)=_:=h
 unfold HM
 rw[h']
 rfl
def Shape(b:aj)(p:ae):Prop:=p.aq.length=b.ad.length∧p.aa.length=b.aa.length∧p.aE.length=b.ai.length
def o8(b:aj)(p:ae)(k:Nat):Prop:=(0≤gt p.aE k∧gt p.aE k≤(gt b.ai k).cX)∧cI b p (k:Int) b.ad.length≤1
def qh(b:aj)(p:ae):Prop:=((∀k,k<p.aA.length→kO b p.aA k)∧p.aA.length≤32)∧(∀k,k<p.aa.length→dq (gt p.aa k))∧∀k,k<p.aE.length→o8 b p k
def aJ(b:aj)(p:ae):Int:=if jL b=0 then(if Shape b p then(if qh b p then 0 else 11) else 8) else jL b
def bA(p:ae):Prop:=Sm p.aq∧Sm p.aa∧Sm p.aE∧Sm p.aA
theorem vJ{b:aj}:jL b=0↔dS b∧mw b:=by
 unfold jL
 by_cases h1:dS b<;>by_cases h2:mw b<;>simp[h1,h2]
theorem Lq{b:aj}{p:ae}(hb:bP b)(hp:bA p)(kE:Shape b p)(r:Bool):ay (y5 b p) (r,(0:Int))=some (dB (r=true∧∀k,k<p.aE.length→o8 b p k)):=by
 obtain⟨s1,s2,s3⟩:=kE
 have xL:Sm p.aE:=hp.2.2.1
 have h:=dE (step:=y5 b p) (fun k=>(dB (r=true∧∀i,i<k→o8 b p i),(k:Int))) p.aE.length (r:=dB (r=true∧∀i,i<p.aE.length→o8 b p i))
  (fun k hk=>by
    have lX:k<b.ai.length:=by omega
    simp only[y5,aQ hk,if_true,az hk,az lX,aqF,aqQ,aqI,aqJ,aZ,mL,ali (k:Int) hb.1 s1,aU (cM hp.2.2.1 hk)]
    have e5:decide ((cI b p (k:Int) b.ad.length:Int)≤1)=decide (cI b p (k:Int) b.ad.length≤1):=by rw[decide_eq_decide];omega
    by_cases h1:r=true∧∀i,i<k→o8 b p i
    · have e:dB (r=true∧∀i,i<k+1→o8 b p i)=decide (o8 b p k):=by
       rw[NX]
       apply NY
       refine⟨fun h=>h.2 k (by omega),fun h=>⟨h1.1,fun i hi=> ?_⟩⟩
       by_cases c_:i=k
       · subst c_;exact h
       · exact h1.2 i (by omega)
      rw[il h1,e,e5]
      unfold o8
      by_cases h2:0≤gt p.aE k∧gt p.aE k≤(gt b.ai k).cX<;>by_cases h3:cI b p (k:Int) b.ad.length≤1<;>simp[h2,h3]
    · have h2:¬(r=true∧∀i,i<k+1→o8 b p i):=fun h=>h1 ⟨h.1,fun i hi=>h.2 i (by omega)⟩
      rw[fq h1,fq h2]
      rfl)
  (by simp only[y5,bl,aqG,if_false])
 have e0:r=dB (r=true∧∀i,i<0→o8 b p i):=NW r (fun i hi=>by omega)
 exact(congrArg (fun q=>ay (y5 b p) (q,(0:Int))) e0).trans h
theorem mH{b:aj}{p:ae}(hb:bP b)(hp:bA p):lB b p=some (aJ b p):=by
 unfold lB aJ
 rw[V2 hb]
 simp only[aqF,aqQ,aqI,aqJ,aZ]
 by_cases h0:jL b=0
 case neg=>simp[h0]
 have hL:=(vJ.1 h0).1
 have e0:(jL b !=0)=false:=by simp[h0]
 simp only[e0,aqG,if_false,if_pos h0]
 by_cases h1:p.aq.length=b.ad.length
 case neg=>
  have:¬Shape b p:=fun h=>h1 h.1
  have e:(len p.aq !=len b.ad)=true:=by simp[len];omega
  simp[e,this]
 by_cases h2:p.aa.length=b.aa.length
 case neg=>
  have:¬Shape b p:=fun h=>h2 h.2.1
  have e1:(len p.aq !=len b.ad)=false:=by simp[len,h1]
  have e:(len p.aa !=len b.aa)=true:=by simp[len];omega
  simp[e,e1,this]
 by_cases h3:p.aE.length=b.ai.length
 case neg=>
  have:¬Shape b p:=fun h=>h3 h.2.2
  have e1:(len p.aq !=len b.ad)=false:=by simp[len,h1]
  have e2:(len p.aa !=len b.aa)=false:=by simp[len,h2]
  have e:(len p.aE !=len b.ai)=true:=by simp[len];omega
  simp[e,e1,e2,this]
 have kE:Shape b p:=⟨h1,h2,h3⟩
 have e1:(len p.aq !=len b.ad)=false:=by simp[len,h1]
 have e2:(len p.aa !=len b.aa)=false:=by simp[len,h2]
 have e3:(len p.aE !=len b.ai)=false:=by simp[len,h3]
 simp only[e1,e2,e3,aqG,if_false,aqF,aqQ,aqI,aqJ,aZ,aoR hL hp.2.2.2,if_pos kE]
 have hx:(∃k,k<p.aa.length∧¬dq (gt p.aa k))↔¬∀k,k<p.aa.length→dq (gt p.aa k):=by
  constructor
  · rintro⟨k,hk,h⟩ hh;exact h (hh k hk)
  · intro h
    apply aq6
    intro hn
    exact h fun k hk=>aq6 fun hr=>hn ⟨k,hk,hr⟩
 by_cases g1:(∀k,k<p.aA.length→kO b p.aA k)∧p.aA.length≤32
 case neg=>
  simp only[dF g1,aqG,if_false,aqF,aqQ,aqI,aqJ,aZ]
  rw[Lq hb hp kE,aqF]
  exact ND (r:=false) ⟨(fun h=>by cases h.1),fun h=>(g1 h.1).elim⟩
 by_cases g2:∀k,k<p.aa.length→dq (gt p.aa k)
 case neg=>
  simp only[dT g1,if_true,VQ hp.2.1,dT (c:=∃k,k<p.aa.length∧¬dq (gt p.aa k)) (hx.2 g2),aqW,aqF,aqQ,aqI,aqJ,aZ]
  rw[Lq hb hp kE,aqF]
  exact ND (r:=false) ⟨(fun h=>by cases h.1),fun h=>(g2 h.2.1).elim⟩
 simp only[dT g1,if_true,VQ hp.2.1,dF (c:=∃k,k<p.aa.length∧¬dq (gt p.aa k)) (fun h=>hx.1 h g2),ard,aqF,aqQ,aqI,aqJ,aZ]
 rw[Lq hb hp kE,aqF]
 exact ND (r:=true) ⟨fun h=>⟨g1,g2,h.2⟩,fun h=>⟨rfl,h.2.2⟩⟩
end Rx
namespace Rx
theorem Wp.ite{α:Type}{c:Bool}{a b:Option α}{Q:α→Prop}(ha:c=true→Wp a Q)(hb:c=false→Wp b Q):Wp (if c=true then a else b) Q:=by
 cases c with
 |true=>exact ha rfl
 |false=>exact hb rfl
def Sr(l:List Int)(a:Int):Prop:=0≤a∧l.length≤1000000∧a≤l.length
theorem mod_eq{x n:Int}(h1:1≤n)(h2:n≤1000000000000):GN x n=some ((x.tmod n+n)% n):=by
 have Uc: -n<x.tmod n:=by
  have:=Int.lt_tmod_of_pos x (b:=n) (by omega)
  omega
 have Mu:x.tmod n<n:=Int.tmod_lt_of_pos x (by omega)
 unfold GN
 have e1:jh x n=some (x.tmod n):=by unfold jh;rw[if_neg (by omega)]
 rw[dF (c:=n<1) (by omega)]
 simp only[aqG,if_false,e1,aqF,aqQ]
 rw[be (by omega) (by omega),Kl (by omega) (by omega)]
theorem ia{l:List Int}{a n:Int}(hs:Sr l a)(h1:1≤n)(h2:n≤1000000000000):Wp (eX ⟨l,a⟩ n) fun r=>(0≤r.1∧r.1<n)∧Sr r.2.1 r.2.2:=by
 obtain⟨s1,s2,s3⟩:=hs
 unfold eX
 simp only
 refine Wp.ite (fun h=>al.2 ⟨⟨arm _,by simp only;omega⟩,s1,s2,s3⟩) fun h=> ?_
 have h':a<l.length:=by have:=of_decide_eq_false h;unfold len at this;omega
 have e1:W (W (a+1)-1)=a:=by rw[be (x:=a+1) (by omega) (by omega),be (by omega) (by omega)];omega
 rw[e1,fQ s1 h']
 simp only[aqF,mod_eq h1 h2,be (x:=a+1) (by omega) (by omega)]
 exact al.2 ⟨⟨Int.emod_nonneg _ (by omega),Int.emod_lt_of_pos _ (by omega)⟩,by simp only;omega,s2,by simp only;omega⟩
theorem oc{l:List Int}{a lo hi:Int}(hs:Sr l a)(h:lo≤hi)(h1: -1000000000000≤lo)(h2:hi≤100000000000)(h3:hi-lo+1≤1000000000000):Wp (mu ⟨l,a⟩ lo hi) fun r=>(lo≤r.1∧r.1≤hi)∧Sr r.2.1 r.2.2:=by
 unfold mu
 have e1:W (hi-lo)=hi-lo:=be (by omega) (by omega)
 have e2:W (hi-lo+1)=hi-lo+1:=be (by omega) (by omega)
 simp only[e1,e2]
 refine(ia hs (n:=hi-lo+1) (by omega) (by omega)).bind fun y hy=> ?_
 obtain⟨y,l',a'⟩:=y
 simp only at hy⊢
 rw[be (by omega) (by omega)]
 exact al.2 ⟨⟨by simp only;omega,by simp only;omega⟩,hy.2⟩
theorem h_{l:List Int}{a:Int}{w:List Int}(hs:Sr l a)(h0:w≠[])(hl:w.length≤1000000):Wp (gr ⟨l,a⟩ w) fun r=>r.1∈w∧Sr r.2.1 r.2.2.1:=by
 unfold gr
 have hp:0<w.length:=List.length_pos_iff.2 h0
 refine(ia hs (n:=len w) (by unfold len;omega) (by unfold len;omega)).bind fun y hy=> ?_
 obtain⟨y,l',a'⟩:=y
 simp only at hy⊢
 unfold len at hy
 rw[fQ hy.1.1 hy.1.2]
 exact al.2 ⟨cV (by omega),hy.2⟩
theorem aaU(t:List Int):Wp (GM t) fun r=>Sr r.1 r.2:=by
 unfold GM
 have e:dV t 0 (dx (len t) 600)=some (t.take (dx (len t) 600).toNat):=by
  unfold dV dx len
  rw[if_pos (by split<;>omega)]
  simp
 rw[e]
 refine al.2 ⟨arm _, ?_,by simp only;omega⟩
 simp only[List.length_take]
 unfold dx
 split<;>omega
end Rx
end Go.Proofs.YtncbfgppjfcijaaGreat
namespace Go.Proofs.YtncbfgppjfcijaaGreat
open Go Go.RowKit
open Classical
namespace Dp
inductive fM(E:Nat→Nat→Prop):Nat→Nat→Prop
 |refl (i:Nat):fM E i i
 |step {i j k:Nat}:E i j→fM E j k→fM E i k
inductive eU(E:Nat→Nat→Prop):Nat→Nat→Nat→Prop
 |refl (r i:Nat):eU E r i i
 |step {r i j k:Nat}:E i j→eU E r j k→eU E (r+1) i k
section
variable {E E':Nat→Nat→Prop} {n:Nat}
theorem fM.trans{i j k:Nat}(h:fM E i j)(h':fM E j k):fM E i k:=by
 induction h with
 |refl=>exact h'
 |step e _ ih=>exact .step e (ih h')
theorem fM.one{i j:Nat}(h:E i j):fM E i j:= .step h (.refl _)
theorem fM.symm(hs:∀i j,E i j→E j i){i j:Nat}(h:fM E i j):fM E j i:=by
 induction h with
 |refl=>exact .refl _
 |step e _ ih=>exact ih.trans (.one (hs _ _ e))
theorem fM.mono(he:∀i j,E i j→E' i j){i j:Nat}(h:fM E i j):fM E' i j:=by
 induction h with
 |refl=>exact .refl _
 |step e _ ih=>exact .step (he _ _ e) ih
theorem eU.conn{r i j:Nat}(h:eU E r i j):fM E i j:=by
 induction h with
 |refl=>exact .refl _
 |step e _ ih=>exact .step e ih
theorem eU.more{r r' i j:Nat}(h:eU E r i j)(hr:r≤r'):eU E r' i j:=by
 induction h generalizing r' with
 |refl=>exact .refl _ _
 |step e _ ih=>
  cases r' with
  |zero=>omega
  |succ r'=>exact .step e (ih (by omega))
theorem eU.snoc{r i j k:Nat}(h:eU E r i j)(e:E j k):eU E (r+1) i k:=by
 induction h with
 |refl r i=>exact .step e (.refl _ _)
 |step e' _ ih=>exact .step e' (ih e)
theorem eU.zero{i j:Nat}(h:eU E 0 i j):i=j:=by cases h;rfl
theorem eU.last{r i k:Nat}(h:eU E (r+1) i k):eU E r i k∨∃j,eU E r i j∧E j k:=by
 generalize hm:r+1=m at h
 induction h generalizing r with
 |refl=>exact .inl (.refl _ _)
 | @step r' i j k e w ih=>
   cases r' with
   |zero=>
    have:r=0:=by omega
    subst this
    have:=w.zero
    subst this
    exact .inr ⟨i,.refl _ _,e⟩
   |succ r''=>
    have:r=r''+1:=by omega
    subst this
    rcases ih rfl with h|⟨j',h1,h2⟩
    · exact .inl (.step e h)
    · exact .inr ⟨j',.step e h1,h2⟩
def nv(E:Nat→Nat→Prop)(n r i:Nat):Nat:=((aqN n).filter fun j=>decide (eU E r i j)).length
theorem NE{p q:Nat→Bool}(h:∀x,p x=true→q x=true):∀l:List Nat,(l.filter p).length≤(l.filter q).length
 |[]=>aqM _
 |x::l=>by
  have ih:=NE h l
  by_cases hp:p x=true
  · rw[ari hp,ari (h x hp)];simpa using ih
  · rw[arA hp]
    by_cases hq:q x=true
    · rw[ari hq];simp;omega
    · rw[arA hq];exact ih
theorem NF{p q:Nat→Bool}(h:∀x,p x=true→q x=true):∀l:List Nat,(l.filter p).length=(l.filter q).length→∀x∈l,q x=true→p x=true
 |[],_,x,hx,_=>by cases hx
 |y::l,he,x,hx,hq=>by
  have hle:=NE h l
  by_cases hp:p y=true
  · rw[ari hp,ari (h y hp)] at he
    rcases aqR.1 hx with rfl|hx
    · exact hp
    · exact NF h l (by simpa using he) x hx hq
  · rw[arA hp] at he
    by_cases oG:q y=true
    · rw[ari oG] at he
      simp at he
      omega
    · rw[arA oG] at he
      rcases aqR.1 hx with rfl|hx
      · exact(oG hq).elim
      · exact NF h l he x hx hq
theorem ad4(r i:Nat):nv E n r i≤n:=by
 unfold nv
 refine aq' (ar1 _ _) ?_
 simp
theorem ac1(hE:∀i j,E i j→j<n){r i:Nat}(hi:i<n)(h:nv E n r i=nv E n (r+1) i):∀m j,eU E (r+m) i j→eU E r i j:=by
 have h1:∀j,j<n→eU E (r+1) i j→eU E r i j:=by
  intro j hj hw
  have:=NF (p:=fun j=>decide (eU E r i j)) (q:=fun j=>decide (eU E (r+1) i j)) (fun x hx=>decide_eq_true ((of_decide_eq_true hx).more (by omega))) (aqN n) h j (aqV.2 hj) (decide_eq_true hw)
  exact of_decide_eq_true this
 intro m
 induction m with
 |zero=>intro j h;exact h
 |succ m ih=>
  intro j hw
  rcases eU.last (r:=r+m) hw with h2|⟨k,h2,h3⟩
  · exact ih j h2
  · exact h1 j (hE _ _ h3) ((ih k h2).snoc h3)
theorem fM.walk(hE:∀i j,E i j→j<n){i j:Nat}(hi:i<n)(h:fM E i j):eU E (n-1) i j:=by
 have ahc:∃m,eU E m i j:=by
  induction h with
  |refl=>exact⟨0,.refl _ _⟩
  |step e _ ih=>
   obtain⟨m,hm⟩:=ih (hE _ _ e)
   exact⟨m+1,.step e hm⟩
 obtain⟨m,hm⟩:=ahc
 have:∃r,r≤n-1∧nv E n r i=nv E n (r+1) i:=by
  apply aq6
  intro hn
  have aie:∀r,r≤n→r+1≤nv E n r i:=by
   intro r
   induction r with
   |zero=>
    intro _
    unfold nv
    have:i∈(aqN n).filter fun j=>decide (eU E 0 i j):=arf.2 ⟨aqV.2 hi,decide_eq_true (.refl _ _)⟩
    exact List.length_pos_of_mem this
   |succ r ih=>
    intro hr
    have h1:=ih (by omega)
    have h2:nv E n r i≤nv E n (r+1) i:=NE (fun x hx=>decide_eq_true ((of_decide_eq_true hx).more (by omega))) _
    have h3:nv E n r i≠nv E n (r+1) i:=fun e=>hn ⟨r,by omega,e⟩
    omega
  have h4:=aie n (aqM _)
  have h5:=ad4 (E:=E) (n:=n) n i
  omega
 obtain⟨r,hr,he⟩:=this
 have h6:eU E r i j:=ac1 hE hi he m j (hm.more (by omega))
 exact h6.more hr
end
end Dp
end Go.Proofs.YtncbfgppjfcijaaGreat
namespace Go.Proofs.YtncbfgppjfcijaaGreat
open Go Go.RowKit Dp
namespace Rx
open Classical
abbrev bd(nb:Int)(br:List aO)(S:List Source)(C:List Consumer):aj:=⟨nb,br,S,C,0,0⟩
theorem bn.snoc{nb:Int}{br:List aO}{S S':List Source}{C C':List Consumer}{x:aO}(h:bn (bd nb br S C))(hS:S.length≤S'.length)(hC:C.length≤C'.length)
  (hA:0≤x.A∧x.A≤nb-1)
  (hx:(x.Kind=1∧x.A+1≤x.B∧x.B≤nb-1)∨(x.Kind=2∧(0≤x.B∧x.B≤(S'.length:Int)-1)∧∀i,i<br.length→¬((gt br i).Kind=2∧(gt br i).B=x.B))∨(x.Kind=3∧(0≤x.B∧x.B≤(C'.length:Int)-1)∧∀i,i<br.length→¬((gt br i).Kind=3∧(gt br i).B=x.B∧(gt br i).A=x.A)))
  (cS:∀j,S.length≤j→j<S'.length→fw x j) (cC:∀j,C.length≤j→j<C'.length→k8 x j):bn (bd nb (br++[x]) S' C'):=by
 obtain⟨h1,h2,h3⟩:=h
 refine⟨fun k hk=> ?_,fun j hj=> ?_,fun j hj=> ?_⟩
 · have bH:k<br.length+1:=by simpa using hk
   by_cases mU:k<br.length
   · have h4:=h1 k mU
     unfold v8 at h4⊢
     simp only at h4⊢
     have e:∀i,i≤k→gt (br++[x]) i=gt br i:=fun i hi=>by rw[mY (by omega),if_pos (by omega)]
     rw[e k (aqM _)]
     refine⟨h4.1, ?_⟩
     rcases h4.2 with h5|⟨h5,h6,h7⟩|⟨h5,h6,h7⟩
     · exact .inl h5
     · exact .inr (.inl ⟨h5,by omega,fun i hi=>by rw[e i (by omega)];exact h7 i hi⟩)
     · exact .inr (.inr ⟨h5,by omega,fun i hi=>by rw[e i (by omega)];exact h7 i hi⟩)
   · have:k=br.length:=by omega
     subst this
     unfold v8
     simp only
     have e:∀i,i<br.length→gt (br++[x]) i=gt br i:=fun i hi=>by rw[mY (by omega),if_pos hi]
     rw[Gl]
     refine⟨hA, ?_⟩
     rcases hx with h5|⟨h5,h6,h7⟩|⟨h5,h6,h7⟩
     · exact .inl h5
     · exact .inr (.inl ⟨h5,h6,fun i hi=>by rw[e i hi];exact h7 i hi⟩)
     · exact .inr (.inr ⟨h5,h6,fun i hi=>by rw[e i hi];exact h7 i hi⟩)
 · by_cases bW:j<S.length
   · obtain⟨k,hk,hs⟩:=h2 j bW
     have bH:k<br.length:=hk
     exact⟨k,by simp;omega,by show fw (gt (br++[x]) k) j;rw[Gk bH];exact hs⟩
   · exact⟨br.length,by simp,by show fw (gt (br++[x]) br.length) j;rw[Gl];exact cS j (by omega) hj⟩
 · by_cases bW:j<C.length
   · obtain⟨k,hk,hs⟩:=h3 j bW
     have bH:k<br.length:=hk
     exact⟨k,by simp;omega,by show k8 (gt (br++[x]) k) j;rw[Gk bH];exact hs⟩
   · exact⟨br.length,by simp,by show k8 (gt (br++[x]) br.length) j;rw[Gl];exact cC j (by omega) hj⟩
theorem bn.ac5{nb:Int}{br:List aO}{S:List Source}{C:List Consumer}(h:bn (bd nb br S C)){i:Nat}(hi:i<br.length)(hk:(gt br i).Kind=2):(gt br i).B≤(S.length:Int)-1:=by
 have:=(h.1 i hi).2
 simp only at this
 rcases this with h5|⟨h5,h6,h7⟩|⟨h5,h6,h7⟩<;>omega
theorem bn.VU{nb:Int}{br:List aO}{S:List Source}{C:List Consumer}(h:bn (bd nb br S C)){i:Nat}(hi:i<br.length)(hk:(gt br i).Kind=3):(gt br i).B≤(C.length:Int)-1:=by
 have:=(h.1 i hi).2
 simp only at this
 rcases this with h5|⟨h5,h6,h7⟩|⟨h5,h6,h7⟩<;>omega
theorem bn.tie{nb:Int}{br:List aO}{S:List Source}{C:List Consumer}(h:bn (bd nb br S C)){a c:Int}(h0:0≤a)(h1:a+1≤c)(h2:c≤nb-1):bn (bd nb (br++[⟨1,a,c⟩]) S C):=
 h.snoc (aqM _) (aqM _) ⟨h0,by simp only;omega⟩ (.inl ⟨rfl,h1,h2⟩) (fun j _ _=>by omega) (fun j _ _=>by omega)
theorem bn.src{nb:Int}{br:List aO}{S:List Source}{C:List Consumer}(h:bn (bd nb br S C)){a:Int}(h0:0≤a)(h1:a≤nb-1)(s:Source):bn (bd nb (br++[⟨2,a,len S⟩]) (S++[s]) C):=by
 refine h.snoc (by simp) (aqM _) ⟨h0,h1⟩ (.inr (.inl ⟨rfl,by simp[len],fun i hi hh=> ?_⟩)) (fun j h3 h4=>⟨rfl,by simp at h4;unfold len;simp only;omega⟩) (fun j _ _=>by omega)
 have:=h.ac5 hi hh.1
 have e:=hh.2
 simp only[len] at e
 omega
theorem bn.eL{nb:Int}{br:List aO}{S:List Source}{C:List Consumer}(h:bn (bd nb br S C)){a:Int}(h0:0≤a)(h1:a≤nb-1)(c:Consumer):bn (bd nb (br++[⟨3,a,len C⟩]) S (C++[c])):=by
 refine h.snoc (aqM _) (by simp) ⟨h0,h1⟩ (.inr (.inr ⟨rfl,by simp[len],fun i hi hh=> ?_⟩)) (fun j _ _=>by omega) (fun j h3 h4=>⟨rfl,by simp at h4;unfold len;simp only;omega⟩)
 have:=h.VU hi hh.1
 have e:=hh.2.1
 simp only[len] at e
 omega
theorem bn.ale{nb:Int}{br:List aO}{S:List Source}{C:List Consumer}(h:bn (bd nb br S C)){a a':Int}(h0:0≤a)(h1:a≤nb-1)(h0':0≤a')(iY:a'≤nb-1)(bg:a≠a')(c:Consumer):bn (bd nb (br++[⟨3,a,len C⟩]++[⟨3,a',len C⟩]) S (C++[c])):=by
 have h2:=h.eL h0 h1 c
 refine h2.snoc (aqM _) (aqM _) ⟨h0',iY⟩ (.inr (.inr ⟨rfl,by simp[len],fun i hi hh=> ?_⟩)) (fun j _ _=>by omega) (fun j _ _=>by omega)
 have ck:i<br.length+1:=by simpa using hi
 rw[mY ck] at hh
 by_cases hl:i<br.length
 · rw[if_pos hl] at hh
   have:=h.VU hl hh.1
   have e:=hh.2.1
   simp only[len] at e
   omega
 · rw[if_neg hl] at hh
   exact bg hh.2.2
structure nX(b:aj):Prop where
 fe:1≤b.ak∧b.ak≤4
 bV:b.ad.length≤18
 src:b.aa.length≤4
 eL:b.ai.length≤5
 BT:mw b
 apJ:∀x∈b.aa,10≤x.dg∧x.dg≤100
 load:∀x∈b.ai,0≤x.cX∧x.cX≤40
theorem nX.dt{b:aj}(h:nX b):dS b:=⟨⟨h.fe.1,by have:=h.fe.2;omega⟩,by have:=h.bV;omega,by have:=h.src;omega,by have:=h.eL;omega⟩
theorem nX.sm{b:aj}(h:nX b):bP b:=by
 refine⟨by have:=h.bV;unfold Sm;omega,by have:=h.src;unfold Sm;omega,by have:=h.eL;unfold Sm;omega,fun x hx=> ?_⟩
 obtain⟨k,hk,rfl⟩:=kY hx
 have:=(h.BT.2.2.2.2 k hk).2.2.2.2.2
 unfold Sm;omega
theorem nX.jL{b:aj}(h:nX b):jL b=0:=vJ.2 ⟨h.dt,h.BT⟩
theorem aa7{l:List Int}{a:Int}(hs:Sr l a):Wp (Im ⟨l,a⟩) fun r=>Sr r.2.2.2.1 r.2.2.2.2.1∧nX ⟨r.1,r.2.2.2.2.2.1,r.2.2.2.2.2.2.1,r.2.2.2.2.2.2.2,r.2.1,r.2.2.1⟩:=by
 unfold Im
 refine(oc hs (lo:=1) (hi:=4) (by omega) (by omega) (by omega) (by omega)).bind fun y hy=> ?_
 obtain⟨nb,l,a⟩:=y
 obtain⟨sD,hs⟩:=hy
 simp only at sD hs⊢
 refine(h_ hs (by simp) (by simp)).bind fun y hy=> ?_
 obtain⟨ph,l,a,z⟩:=y
 obtain⟨hph,hs⟩:=hy
 simp only[aqR,arc,or_false] at hph hs⊢
 refine(h_ hs (by simp) (by simp)).bind fun y hy=> ?_
 obtain⟨fr,l,a,z⟩:=y
 obtain⟨cG,hs⟩:=hy
 simp only[aqR,arc,or_false] at cG hs⊢
 refine Wp.bind (Q:=fun x=>∃l a br,x=(l,a,nb,ph,fr,br)∧Sr l a∧bn (bd nb br [] [])∧br.length≤3) ?_ fun x hx=> ?_
 · refine dO (nb-1).toNat (fun k s=>∃l a br,s=((k:Int)+1,l,a,nb,ph,fr,br)∧Sr l a∧bn (bd nb br [] [])∧br.length≤k) ⟨_,_,_,rfl,hs,⟨fun k hk=>absurd hk (by simp),fun j hj=>absurd hj (by simp),fun j hj=>absurd hj (by simp)⟩,aqM _⟩ ?_ ?_
   · rintro k s hk ⟨l,a,br,rfl,hs,h1,h2⟩
     unfold PA
     simp only[dT (c:=(k:Int)+1<nb) (by omega),if_true]
     refine(ia hs (n:=6) (by omega) (by omega)).bind fun y hy=> ?_
     obtain⟨y,l,a⟩:=y
     obtain⟨hy,hs⟩:=hy
     simp only at hy hs⊢
     refine Wp.bind (Q:=fun x=>∃l a br,x=(l,a,nb,ph,fr,br)∧Sr l a∧bn (bd nb br [] [])∧br.length≤k+1) ?_ fun x hx=> ?_
     · refine Wp.ite (fun _=> ?_) (fun _=>al.2 ⟨_,_,_,rfl,hs,h1,by omega⟩)
       refine(ia hs (n:=(k:Int)+1) (by omega) (by omega)).bind fun z hz=> ?_
       obtain⟨z,l,a⟩:=z
       obtain⟨hz,hs⟩:=hz
       simp only at hz hs⊢
       rw[cp (by simp;omega)]
       exact al.2 ⟨_,_,_,rfl,hs,h1.tie hz.1 (by omega) (by omega),by simp;omega⟩
     · obtain⟨l,a,Zs,rfl,hs,h3,h4⟩:=hx
       refine al.2 ⟨l,a,Zs, ?_,hs,h3,h4⟩
       simp only
       rw[be (by omega) (by omega)]
       rfl
   · rintro s ⟨l,a,br,rfl,hs,h1,h2⟩
     unfold PA
     simp only[dF (c:=(((nb-1).toNat:Nat):Int)+1<nb) (by omega),aqG,if_false]
     exact al.2 ⟨_,_,_,rfl,hs,h1,by omega⟩
 obtain⟨l,a,br1,rfl,hs,hx,cA⟩:=hx
 simp only
 refine Wp.bind (Q:=fun x=>∃c l a,x=(c,l,a)∧Sr l a∧(c=true→2<nb)) ?_ fun x k_=> ?_
 · refine Wp.ite (fun h=> ?_) (fun _=>al.2 ⟨_,_,_,rfl,hs,fun h=>by cases h⟩)
   refine(ia hs (n:=2) (by omega) (by omega)).bind fun y hy=> ?_
   obtain⟨y,l,a⟩:=y
   exact al.2 ⟨_,_,_,rfl,hy.2,fun _=>of_decide_eq_true h⟩
 obtain⟨more,l,a,rfl,hs,k_⟩:=k_
 simp only
 refine Wp.bind (Q:=fun x=>∃br,x=(nb,ph,fr,br)∧bn (bd nb br [] [])∧br.length≤4) ?_ fun x uK=> ?_
 · refine Wp.ite (fun h=> ?_) (fun _=>al.2 ⟨_,rfl,hx,by omega⟩)
   have h2:=k_ h
   rw[cp (by simp;omega),be (x:=nb-1) (by omega) (by omega)]
   exact al.2 ⟨_,rfl,hx.tie (arm _) (by omega) (arm _),by simp;omega⟩
 obtain⟨br2,rfl,uK,Bg⟩:=uK
 simp only
 refine(ia hs (n:=5) (by omega) (by omega)).bind fun y hy=> ?_
 obtain⟨m,l,a⟩:=y
 obtain⟨hy,hs⟩:=hy
 simp only at hy hs⊢
 refine Wp.bind (Q:=fun x=>∃l a br S,x=(l,a,nb,ph,fr,br,S)∧Sr l a∧bn (bd nb br S [])∧br.length≤8∧S.length≤4∧∀s∈S,i_ s∧10≤s.dg∧s.dg≤100) ?_ fun x hx=> ?_
 · refine dO m.toNat (fun k s=>∃l a br S,s=(m-k,l,a,nb,ph,fr,br,S)∧Sr l a∧bn (bd nb br S [])∧br.length≤4+k∧S.length=k∧∀q∈S,i_ q∧10≤q.dg∧q.dg≤100) ⟨l,a,br2,[],by simp,hs,uK,by simpa using Bg,rfl,by simp⟩ ?_ ?_
   · rintro k s hk ⟨l,a,br,S,rfl,hs,h1,h2,h3,h4⟩
     unfold Pz
     simp only[dT (c:=m-(k:Int)>0) (by omega),if_true]
     refine(ia hs (n:=nb) (by omega) (by omega)).bind fun y nD=> ?_
     obtain⟨c,l,a⟩:=y
     obtain⟨nD,hs⟩:=nD
     simp only at nD hs⊢
     rw[cp (xs:=br) (by simp;omega)]
     simp only[aqF]
     refine(h_ hs (by simp) (by simp)).bind fun y hr=> ?_
     obtain⟨r,l,a,z⟩:=y
     obtain⟨hr,hs⟩:=hr
     simp only[aqR,arc,or_false] at hr hs⊢
     refine(h_ hs (by simp) (by simp)).bind fun y hl=> ?_
     obtain⟨le,l,a,z⟩:=y
     obtain⟨hl,hs⟩:=hl
     simp only[aqR,arc,or_false] at hl hs⊢
     refine(h_ hs (by simp) (by simp)).bind fun y ht=> ?_
     obtain⟨st,l,a,z⟩:=y
     obtain⟨ht,hs⟩:=ht
     simp only[aqR,arc,or_false] at ht hs⊢
     rw[cp (xs:=S) (by simp;omega)]
     simp only[aqF]
     refine al.2 ⟨l,a,_,_, ?_,hs,h1.src nD.1 (by omega) ⟨r,le,st⟩,by simp;omega,by simp;omega,fun q hq=> ?_⟩
     · rw[be (by omega) (by omega),show m-(k:Int)-1=m-((k+1:Nat):Int) from by omega]
     · rcases aqP.1 hq with hq|hq
       · exact h4 q hq
       · simp only[aq1] at hq
         subst hq
         unfold i_
         simp only
         omega
   · rintro s ⟨l,a,br,S,rfl,hs,h1,h2,h3,h4⟩
     unfold Pz
     simp only[dF (c:=m-((m.toNat:Nat):Int)>0) (by omega),aqG,if_false]
     exact al.2 ⟨_,_,_,_,rfl,hs,h1,by omega,by omega,h4⟩
 obtain⟨l,a,br3,S,rfl,hs,g1,g2,g3,g4⟩:=hx
 simp only
 refine(ia hs (n:=6) (by omega) (by omega)).bind fun y nD=> ?_
 obtain⟨m2,l,a⟩:=y
 obtain⟨nD,hs⟩:=nD
 simp only at nD hs⊢
 refine Wp.bind (Q:=fun x=>∃l a br C,x=(l,a,nb,ph,fr,br,C)∧Sr l a∧bn (bd nb br S C)∧br.length≤18∧C.length≤5∧(∀k,k<C.length→iL (gt C k) k)∧∀c∈C,0≤c.cX∧c.cX≤40) ?_ fun x hx=> ?_
 · refine dO m2.toNat (fun k s=>∃l a br C,s=(m2-k,l,a,nb,ph,fr,br,C)∧Sr l a∧bn (bd nb br S C)∧br.length≤8+2*k∧C.length=k∧(∀j,j<C.length→iL (gt C j) j)∧∀c∈C,0≤c.cX∧c.cX≤40) ⟨l,a,br3,[],by simp,hs,g1,by simpa using g2,rfl,fun j hj=>absurd hj (by simp),by simp⟩ ?_ ?_
   · rintro k s hk ⟨l,a,br,C,rfl,hs,h1,h2,h3,h4,h5⟩
     unfold Py
     simp only[dT (c:=m2-(k:Int)>0) (by omega),if_true]
     refine(ia hs (n:=nb) (by omega) (by omega)).bind fun y Bd=> ?_
     obtain⟨c,l,a⟩:=y
     obtain⟨Bd,hs⟩:=Bd
     simp only at Bd hs⊢
     rw[cp (xs:=br) (by simp;omega)]
     simp only[aqF]
     refine Wp.bind (Q:=fun x=>∃c l a,x=(c,l,a)∧Sr l a∧(c=true→1<nb)) ?_ fun x Bf=> ?_
     · refine Wp.ite (fun h=> ?_) (fun _=>al.2 ⟨_,_,_,rfl,hs,fun h=>by cases h⟩)
       refine(ia hs (n:=4) (by omega) (by omega)).bind fun y hy=> ?_
       obtain⟨y,l,a⟩:=y
       exact al.2 ⟨_,_,_,rfl,hy.2,fun _=>of_decide_eq_true h⟩
     obtain⟨two,l,a,rfl,hs,Bf⟩:=Bf
     simp only
     refine Wp.bind (Q:=fun x=>∃br,x=(nb,ph,fr,br)∧(∀c,bn (bd nb br S (C++[c])))∧br.length≤8+2*(k+1)) ?_ fun x hx7=> ?_
     · refine Wp.ite (fun h=> ?_) (fun _=>al.2 ⟨_,rfl,fun q=>h1.eL Bd.1 (by omega) q,by simp;omega⟩)
       have sD:=Bf h
       have e1:jh (W (c+1)) nb=some ((c+1)% nb):=by
        rw[be (by omega) (by omega),Kl (by omega) (by omega)]
       rw[e1]
       simp only[aqF]
       rw[cp (by simp;omega)]
       have Bv:0≤(c+1)% nb:=Int.emod_nonneg _ (by omega)
       have Uc:(c+1)% nb<nb:=Int.emod_lt_of_pos _ (by omega)
       have bg:c≠(c+1)% nb:=by
        by_cases ha:c+1<nb
        · rw[Int.emod_eq_of_lt (by omega) ha];omega
        · have:c+1=nb:=by omega
          rw[this,Int.emod_self]
          omega
       exact al.2 ⟨_,rfl,fun q=>h1.ale Bd.1 (by omega) Bv (by omega) bg q,by simp;omega⟩
     obtain⟨Zs,rfl,jq,vn⟩:=hx7
     simp only
     refine(h_ hs (by simp) (by simp)).bind fun y hl=> ?_
     obtain⟨lo,l,a,z⟩:=y
     obtain⟨hl,hs⟩:=hl
     simp only[aqR,arc,or_false] at hl hs⊢
     rw[EN (by omega) (by omega) (by omega)]
     simp only[aqF]
     refine(h_ hs (by simp) (by simp)).bind fun y hle=> ?_
     obtain⟨le,l,a,z⟩:=y
     obtain⟨hle,hs⟩:=hle
     simp only[aqR,arc,or_false] at hle hs⊢
     refine(ia hs (n:=3) (by omega) (by omega)).bind fun y Mk=> ?_
     obtain⟨pr,l,a⟩:=y
     obtain⟨Mk,hs⟩:=Mk
     simp only at Mk hs⊢
     refine(oc hs (lo:= -1) (hi:=2) (by omega) (by omega) (by omega) (by omega)).bind fun y L_=> ?_
     obtain⟨th,l,a⟩:=y
     obtain⟨L_,hs⟩:=L_
     simp only at L_ hs⊢
     refine Wp.bind (Q:=fun x=>∃c l a,x=(c,l,a)∧Sr l a∧(c=true→0<k)) ?_ fun x LY=> ?_
     · refine Wp.ite (fun h=> ?_) (fun _=>al.2 ⟨_,_,_,rfl,hs,fun h=>by cases h⟩)
       refine(ia hs (n:=4) (by omega) (by omega)).bind fun y hy=> ?_
       obtain⟨y,l,a⟩:=y
       exact al.2 ⟨_,_,_,rfl,hy.2,fun _=>by have:=of_decide_eq_true h;unfold len at this;omega⟩
     obtain⟨nd,l,a,rfl,hs,LY⟩:=LY
     simp only
     refine Wp.bind (Q:=fun x=>∃l a w,x=(l,a,lo,le,pr,th,w)∧Sr l a∧Iv w k∧w.length≤4) ?_ fun x LX=> ?_
     · refine Wp.ite (fun h=> ?_) (fun _=>al.2 ⟨_,_,_,rfl,hs,fun i hi=>absurd hi (by simp),by simp⟩)
       have lp:=LY h
       refine(ia hs (n:=len C) (by unfold len;omega) (by unfold len;omega)).bind fun y LS=> ?_
       obtain⟨y,l,a⟩:=y
       obtain⟨LS,hs⟩:=LS
       simp only[len] at LS hs⊢
       refine al.2 ⟨_,_,_,rfl,hs,fun i hi=> ?_,by simp⟩
       have jp:i=0:=by simp at hi;omega
       subst jp
       have e:gt [y] 0=y:=rfl
       rw[e]
       exact⟨by omega,fun h=>by omega⟩
     obtain⟨l,a,afe,rfl,hs,LX,ag0⟩:=LX
     simp only
     rw[cp (xs:=C) (by simp;omega)]
     simp only[aqF]
     refine al.2 ⟨l,a,_,_, ?_,hs,jq ⟨lo,le,pr,th,afe⟩,by omega,by simp;omega,fun j hj=> ?_,fun c hc=> ?_⟩
     · rw[be (by omega) (by omega),show m2-(k:Int)-1=m2-((k+1:Nat):Int) from by omega]
     · have et:j<C.length+1:=by simpa using hj
       rw[mY et]
       by_cases bW:j<C.length
       · rw[if_pos bW];exact h4 j bW
       · rw[if_neg bW]
         have:j=k:=by omega
         subst this
         refine⟨LX, ?_, ?_, ?_, ?_,ag0⟩<;>simp only<;>omega
     · rcases aqP.1 hc with hc|hc
       · exact h5 c hc
       · simp only[aq1] at hc
         subst hc
         simp only
         omega
   · rintro s ⟨l,a,br,C,rfl,hs,h1,h2,h3,h4,h5⟩
     unfold Py
     simp only[dF (c:=m2-((m2.toNat:Nat):Int)>0) (by omega),aqG,if_false]
     exact al.2 ⟨_,_,_,_,rfl,hs,h1,by omega,by omega,h4,h5⟩
 obtain⟨l,a,br4,C,rfl,hs,k1,k2,k3,k4,k5⟩:=hx
 simp only
 exact al.2 ⟨hs,sD,k2,g3,k3,⟨⟨fun k hk=>k1.1 k hk,k1.2.1,k1.2.2⟩,by simp only;omega,by simp only;omega,fun k hk=>(g4 _ (cV hk)).1,k4⟩,fun s hs=>(g4 s hs).2,k5⟩
end Rx
namespace Rx
open Classical
theorem yH{b:aj}{p q:ae}{j:Int}{n:Nat}(h:∀i,i<n→(gt b.ad i).Kind=3→(gt b.ad i).B=j→gt p.aq i=gt q.aq i):cI b p j n=cI b q j n:=by
 induction n with
 |zero=>rfl
 |succ n ih=>
  unfold cI
  rw[ih fun i hi=>h i (by omega)]
  congr 1
  by_cases h1:(gt b.ad n).Kind=3
  · by_cases h2:(gt b.ad n).B=j
    · rw[h n (by omega) h1 h2]
    · simp[h2]
  · simp[h1]
abbrev pc(cl:List Bool):ae:=⟨cl,[],[],[]⟩
theorem lI(a b c:Int):gI a b c=some (decide (b≤a∧a≤c)):=by
 unfold gI
 by_cases h:b≤a<;>simp[h]
theorem exists_eq{b:aj}(hb:dS b)(x:Part):B6 b x=some (decide (0≤x.Number∧x.Number≤bsize b x.Kind-1)):=by
 have h1:=hb.fe
 have h2:=hb.bV
 have h3:=hb.src
 have h4:=hb.eL
 have e1:W (len b.aa-1)=(b.aa.length:Int)-1:=by unfold len;exact be (by omega) (by omega)
 have e2:W (len b.ad-1)=(b.ad.length:Int)-1:=by unfold len;exact be (by omega) (by omega)
 have e3:W (b.ak-1)=b.ak-1:=be (by omega) (by omega)
 have e4:W (len b.ai-1)=(b.ai.length:Int)-1:=by unfold len;exact be (by omega) (by omega)
 unfold B6 bsize
 simp only[lI,e1,e2,e3,e4]
 by_cases k1:x.Kind=1
 · simp[k1]
 by_cases k2:x.Kind=2
 · simp[k2]
 by_cases k3:x.Kind=3
 · simp[k3]
 by_cases k4:x.Kind=4
 · simp[k4]
 have:¬(0≤x.Number∧x.Number≤(0:Int)-1):=by omega
 simp[k1,k2,k3,k4]
 omega
theorem ae3{b:aj}(hb:Sm b.ad)(i:Nat)(w:List Bool){cl:List Bool}(hl:cl.length=b.ad.length):
  Wp (ay (Ih b ((i:Int),w)) (true,0,cl)) fun r=>r.length=b.ad.length∧cI b (pc r) (i:Int) b.ad.length≤1∧∀k,¬k8 (gt b.ad k) i→gt r k=gt cl k:=by
 refine dO b.ad.length (fun k s=>∃f c,s=(f,(k:Int),c)∧c.length=b.ad.length∧cI b (pc c) (i:Int) k=(if f=true then 0 else 1)∧∀j,(k≤j∨¬k8 (gt b.ad j) i)→gt c j=gt cl j) ⟨_,_,rfl,hl,rfl,fun _ _=>rfl⟩ ?_ ?_
 · rintro k s hk ⟨f,c,rfl,h1,h2,h3⟩
   have hs:=cM hb hk
   unfold Ih
   simp only[aQ hk,if_true,az hk,az (show k<c.length by omega),aqF,aU hs,fg (show k<c.length by omega)]
   by_cases hc:k8 (gt b.ad k) i
   · rw[eh hc.1,eh hc.2]
     simp only[if_true,aqF]
     cases hv:gt c k with
     |true=>
      simp only[if_true,aqF]
      refine al.2 ⟨_,_,rfl,by simpa using h1, ?_,fun j hj=> ?_⟩
      · simp only[aqG,if_false]
        unfold cI
        have e1:cI b (pc (c.set k f)) (i:Int) k=cI b (pc c) (i:Int) k:=yH fun j hj _ _=>by
         show gt (c.set k f) j=gt c j
         rw[dz (by omega),if_neg (by omega)]
        have e2:gt (c.set k f) k=f:=by rw[dz (by omega),if_pos rfl]
        rw[e1,h2]
        cases f with
        |true=>simp[hc.1,hc.2,e2]
        |false=>simp[e2]
      · rw[dz (by omega)]
        by_cases lq:j=k
        · subst lq
          rcases hj with hj|hj
          · omega
          · exact(hj hc).elim
        · rw[if_neg lq]
          exact h3 j (hj.imp (fun h=>by omega) id)
     |false=>
      simp only[aqG,if_false,aqF]
      refine al.2 ⟨_,_,rfl,h1, ?_,fun j hj=>h3 j (hj.imp (fun h=>by omega) id)⟩
      show cI b (pc c) (i:Int) k+_=_
      rw[h2]
      simp[hv]
   · have:(if((gt b.ad k).Kind==3)=true then(if((gt b.ad k).B==(i:Int))=true then some (gt c k) else some false) else some false:Option Bool)=some false:=by
      by_cases h4:(gt b.ad k).Kind=3
      · have h5:(gt b.ad k).B≠(i:Int):=fun h=>hc ⟨h4,h⟩
        rw[eh h4,bY h5];rfl
      · rw[bY h4];rfl
     rw[this]
     simp only[aqF,aqG,if_false]
     refine al.2 ⟨_,_,rfl,h1, ?_,fun j hj=>h3 j (hj.imp (fun h=>by omega) id)⟩
     have hz:¬((gt b.ad k).Kind=3∧(gt b.ad k).B=(i:Int)∧gt c k=true):=fun h=>hc ⟨h.1,h.2.1⟩
     show cI b (pc c) (i:Int) k+(if(gt b.ad k).Kind=3∧(gt b.ad k).B=(i:Int)∧gt c k=true then 1 else 0)=_
     rw[h2,if_neg hz,Nat.add_zero]
 · rintro s ⟨f,c,rfl,h1,h2,h3⟩
   unfold Ih
   simp only[bl,aqG,if_false]
   refine al.2 ⟨h1, ?_,fun k hk=>h3 k (.inr hk)⟩
   rw[h2]
   split<;>omega
structure C5(b:aj)(p:ae):Prop where
 shape:Shape b p
 BT:qh b p
 aoS:p.aA.length≤4
 aqi:∀x∈p.aa,4950≤x.aB∧x.aB≤5005
theorem C5.sm{b:aj}{p:ae}(hb:nX b)(h:C5 b p):bA p:=by
 obtain⟨h1,h2,h3⟩:=h.shape
 have:=hb.bV
 have:=hb.src
 have:=hb.eL
 have:=h.aoS
 exact⟨by unfold Sm;omega,by unfold Sm;omega,by unfold Sm;omega,by unfold Sm;omega⟩
theorem C5.aJ{b:aj}{p:ae}(hb:nX b)(h:C5 b p):aJ b p=0:=by
 unfold Go.Proofs.YtncbfgppjfcijaaGreat.Rx.aJ
 rw[if_pos hb.jL,if_pos h.shape,if_pos h.BT]
def apv(b:aj)(l:List Int)(a:Int)(cl:List Bool)(run:List aC)(dt:List Int)(bV:List Part):Prop:=Sr l a∧C5 b ⟨cl,run,dt,bV⟩
theorem aaQ{l:List Int}{a:Int}(hs:Sr l a){b:aj}(hb:nX b):Wp (Ii ⟨l,a⟩ b) fun r=>∃l a cl run dt bV,r=(l,a,b.ad,b.aa,b.ai,cl,run,dt,bV)∧apv b l a cl run dt bV:=by
 have jq:=hb.bV
 have iS:=hb.src
 have xZ:=hb.eL
 have df:=hb.sm
 unfold Ii
 refine Wp.bind (Q:=fun x=>∃l a cl,x=(l,a,cl)∧Sr l a∧cl.length=b.ad.length) ?_ fun x hx=> ?_
 · refine dO b.ad.length (fun k s=>∃l a cl,s=((k:Int),l,a,cl)∧Sr l a∧cl.length=k) ⟨_,_,_,rfl,hs,rfl⟩ ?_ ?_
   · rintro k s hk ⟨l,a,cl,rfl,hs,h1⟩
     unfold Pw
     simp only[aQ hk,if_true]
     refine(ia hs (n:=2) (by omega) (by omega)).bind fun y hy=> ?_
     obtain⟨y,l,a⟩:=y
     simp only
     rw[cp (by simp;omega)]
     exact al.2 ⟨_,_,_,by rw[aU (by omega)],hy.2,by simp;omega⟩
   · rintro s ⟨l,a,cl,rfl,hs,h1⟩
     unfold Pw
     simp only[bl,aqG,if_false]
     exact al.2 ⟨_,_,_,rfl,hs,h1⟩
 obtain⟨l,a,cl0,rfl,hs,hx⟩:=hx
 simp only
 refine Wp.bind (Q:=fun c:List Bool=>c.length=b.ad.length∧∀j,j<b.ai.length→cI b (pc c) (j:Int) b.ad.length≤1) ?_ fun cl cf=> ?_
 · refine dO b.ai.length (fun k s=>∃c,s=((k:Int),c)∧c.length=b.ad.length∧∀j,j<k→cI b (pc c) (j:Int) b.ad.length≤1) ⟨_,rfl,hx,fun j hj=>by omega⟩ ?_ ?_
   · rintro k s hk ⟨c,rfl,h1,h2⟩
     unfold Pv
     simp only[aQ hk,if_true]
     refine(ae3 df.1 k c h1).bind fun r hr=> ?_
     refine al.2 ⟨_,by rw[aU (by omega)],hr.1,fun j hj=> ?_⟩
     by_cases lq:j=k
     · subst lq;exact hr.2.1
     · rw[yH (q:=pc c) fun i hi h3 h4=>hr.2.2 i fun hh=>by have:=hh.2;omega]
       exact h2 j (by omega)
   · rintro s ⟨c,rfl,h1,h2⟩
     unfold Pv
     simp only[bl,aqG,if_false]
     exact al.2 ⟨h1,h2⟩
 refine Wp.bind (Q:=fun x=>∃l a run,x=(l,a,run)∧Sr l a∧run.length=b.aa.length∧∀r∈run,dq r∧4950≤r.aB∧r.aB≤5005) ?_ fun x k_=> ?_
 · refine dO b.aa.length (fun k s=>∃l a run,s=((k:Int),l,a,run)∧Sr l a∧run.length=k∧∀r∈run,dq r∧4950≤r.aB∧r.aB≤5005) ⟨_,_,_,rfl,hs,rfl,by simp⟩ ?_ ?_
   · rintro k s hk ⟨l,a,run,rfl,hs,h1,h2⟩
     unfold Pu
     simp only[aQ hk,if_true]
     refine(h_ hs (by simp) (by simp)).bind fun y e1=> ?_
     obtain⟨y1,l,a,z⟩:=y
     obtain⟨e1,hs⟩:=e1
     simp only[aqR,arc,or_false] at e1 hs⊢
     refine(ia hs (n:=5) (by omega) (by omega)).bind fun y e2=> ?_
     obtain⟨y2,l,a⟩:=y
     obtain⟨e2,hs⟩:=e2
     simp only at e2 hs⊢
     refine(h_ hs (by simp) (by simp)).bind fun y e3=> ?_
     obtain⟨y3,l,a,z⟩:=y
     obtain⟨e3,hs⟩:=e3
     simp only[aqR,arc,or_false] at e3 hs⊢
     refine(h_ hs (by simp) (by simp)).bind fun y e4=> ?_
     obtain⟨y4,l,a,z⟩:=y
     obtain⟨e4,hs⟩:=e4
     simp only[aqR,arc,or_false] at e4 hs⊢
     rw[cp (by simp;omega)]
     simp only[aqF]
     refine al.2 ⟨_,_,_,by rw[aU (by omega)],hs,by simp;omega,fun r hr=> ?_⟩
     rcases aqP.1 hr with hr|hr
     · exact h2 r hr
     · simp only[aq1] at hr
       subst hr
       unfold dq
       simp only
       omega
   · rintro s ⟨l,a,run,rfl,hs,h1,h2⟩
     unfold Pu
     simp only[bl,aqG,if_false]
     exact al.2 ⟨_,_,_,rfl,hs,h1,h2⟩
 obtain⟨l,a,run,rfl,hs,k_,TF⟩:=k_
 simp only
 refine Wp.bind (Q:=fun x=>∃l a dt,x=(l,a,dt)∧Sr l a∧dt.length=b.ai.length∧∀k,k<b.ai.length→0≤gt dt k∧gt dt k≤(gt b.ai k).cX) ?_ fun x uK=> ?_
 · refine dO b.ai.length (fun k s=>∃l a dt,s=((k:Int),l,a,dt)∧Sr l a∧dt.length=k∧∀j,j<k→0≤gt dt j∧gt dt j≤(gt b.ai j).cX) ⟨_,_,_,rfl,hs,rfl,fun j hj=>by omega⟩ ?_ ?_
   · rintro k s hk ⟨l,a,dt,rfl,hs,h1,h2⟩
     have l7:=hb.BT.2.2.2.2 k hk
     unfold Pt
     have lV:=l7.2.1
     have hls:=l7.2.2.1
     simp only[aQ hk,if_true,az hk,aqF]
     rw[EN lV.1 (by omega) (by omega)]
     simp only[aqF]
     refine(h_ hs (by simp) (by simp)).bind fun y e1=> ?_
     obtain⟨y1,l,a,z⟩:=y
     obtain⟨e1,hs⟩:=e1
     simp only[aqR,arc,or_false] at e1 hs⊢
     rw[cp (by simp;omega)]
     simp only[aqF]
     refine al.2 ⟨_,_,_,by rw[aU (by omega)],hs,by simp;omega,fun j hj=> ?_⟩
     rw[mY (by omega)]
     by_cases bW:j<dt.length
     · rw[if_pos bW];exact h2 j (by omega)
     · rw[if_neg bW]
       have:j=k:=by omega
       subst this
       omega
   · rintro s ⟨l,a,dt,rfl,hs,h1,h2⟩
     unfold Pt
     simp only[bl,aqG,if_false]
     exact al.2 ⟨_,_,_,rfl,hs,h1,h2⟩
 obtain⟨l,a,dt,rfl,hs,uK,agZ⟩:=uK
 simp only
 refine Wp.bind (Q:=fun x=>∃l a bV,x=(l,a,bV)∧Sr l a∧bV.length≤4∧∀k,k<bV.length→kO b bV k) ?_ fun x Bg=> ?_
 · refine dO 4 (fun k s=>∃l a bV,s=((k:Int)+1,l,a,bV)∧Sr l a∧bV.length≤k∧(∀x∈bV,x.Kind≤(k:Int))∧∀j,j<bV.length→kO b bV j) ⟨_,_,_,rfl,hs,aqM _,by simp,fun j hj=>absurd hj (by simp)⟩ ?_ ?_
   · rintro k s hk ⟨l,a,bV,rfl,hs,h1,h2,h3⟩
     unfold Ps
     simp only[dT (c:=(k:Int)+1≤4) (by omega),if_true]
     refine(ia hs (n:=5) (by omega) (by omega)).bind fun y hy=> ?_
     obtain⟨y1,l,a⟩:=y
     obtain⟨hy,hs⟩:=hy
     simp only at hy hs⊢
     refine Wp.bind (Q:=fun x=>∃l a bV,x=(l,a,bV)∧Sr l a∧bV.length≤k+1∧(∀q∈bV,q.Kind≤(k:Int)+1)∧∀j,j<bV.length→kO b bV j) ?_ fun x hx5=> ?_
     · refine Wp.ite (fun _=> ?_) (fun _=>al.2 ⟨_,_,_,rfl,hs,by omega,fun q hq=>by have:=h2 q hq;omega,h3⟩)
       refine(ia hs (n:=4) (by omega) (by omega)).bind fun y e1=> ?_
       obtain⟨y2,l,a⟩:=y
       obtain⟨e1,hs⟩:=e1
       simp only at e1 hs⊢
       rw[exists_eq hb.dt]
       simp only[aqF,aqQ]
       refine Wp.bind (Q:=fun x:List Part=>x.length≤k+1∧(∀q∈x,q.Kind≤(k:Int)+1)∧∀j,j<x.length→kO b x j) ?_ fun x Bf=>al.2 ⟨_,_,_,rfl,hs,Bf⟩
       refine Wp.ite (fun he=> ?_) (fun _=>al.2 ⟨by omega,fun q hq=>by have:=h2 q hq;omega,h3⟩)
       have iI:=of_decide_eq_true he
       rw[cp (by simp;omega)]
       refine al.2 ⟨by simp;omega,fun q hq=> ?_,fun j hj=> ?_⟩
       · rcases aqP.1 hq with hq|hq
         · have:=h2 q hq;omega
         · simp only[aq1] at hq
           subst hq
           exact arm _
       · have et:j<bV.length+1:=by simpa using hj
         unfold kO
         rw[mY et]
         by_cases bW:j<bV.length
         · rw[if_pos bW,mY (by omega),if_pos (by omega)]
           exact h3 j bW
         · rw[if_neg bW]
           refine⟨iI,fun h0=> .inl ?_⟩
           rw[mY (by omega),if_pos (by omega)]
           have:=h2 _ (cV (show j-1<bV.length by omega))
           simp only
           omega
     · obtain⟨l,a,aoV,rfl,hs,q1,q2,q3⟩:=hx5
       refine al.2 ⟨l,a,aoV, ?_,hs,q1,fun q hq=>by have:=q2 q hq;omega,q3⟩
       rw[be (by omega) (by omega),show(k:Int)+1+1=((k+1:Nat):Int)+1 from by omega]
   · rintro s ⟨l,a,bV,rfl,hs,h1,h2,h3⟩
     unfold Ps
     simp only[dF (c:=((4:Nat):Int)+1≤4) (by omega),aqG,if_false]
     exact al.2 ⟨_,_,_,rfl,hs,h1,h3⟩
 obtain⟨l,a,bV,rfl,hs,Bg,agY⟩:=Bg
 simp only
 refine al.2 ⟨_,_,_,_,_,_,rfl,hs,⟨cf.1,k_,uK⟩,⟨⟨agY,by simp only;omega⟩,fun k hk=>(TF _ (cV hk)).1,fun k hk=> ?_⟩,Bg,fun r hr=>(TF r hr).2⟩
 simp only at hk
 have bH:k<b.ai.length:=by omega
 refine⟨agZ k bH, ?_⟩
 exact aq' (Nat.le_of_eq (yH (b:=b) (p:=⟨cl,run,dt,bV⟩) (q:=pc cl) (fun _ _ _ _=>rfl))) (cf.2 k bH)
end Rx
namespace Rx
def iE(b:aj)(p:ae)(kind j:Int)(k:Nat):Bool:=((gt b.ad k).Kind==kind&&(gt b.ad k).B==j)&&gt p.aq k
def de(b:aj)(p:ae)(kind j:Int):Int×Bool:=match(aqN b.ad.length).find? (iE b p kind j) with
 |some k=>((gt b.ad k).A,true)
 |none=>(0,false)
theorem SZ{b:aj}{p:ae}(hs:Sm b.ad)(hc:p.aq.length=b.ad.length)(kind j:Int):CA b p kind j=some (de b p kind j):=by
 have h:=kZ (step:=yX b p kind j) (fun k=>(k:Int)) b.ad.length (iE b p kind j) (R:=fun k=> .inr ((gt b.ad k).A,true)) (e:= .inl ())
  (fun k hk hp=>by
    simp only[yX,aQ hk,if_true,az hk,az (show k<p.aq.length by omega),aqF,aqQ,aqI,aqJ,aZ,aU (cM hs hk)]
    unfold iE at hp
    cases h1:(gt b.ad k).Kind==kind with
    |false=>simp
    |true=>
     cases h2:(gt b.ad k).B==j with
     |false=>simp
     |true=>
      rw[h1,h2] at hp
      simp only[Bool.and_self,Bool.true_and] at hp
      simp[hp])
  (fun k hk hp=>by
    simp only[yX,aQ hk,if_true,az hk,az (show k<p.aq.length by omega),aqF,aqQ,aqI,aqJ,aZ]
    unfold iE at hp
    simp only[aqL] at hp
    simp[hp.1.1,hp.1.2,hp.2])
  (by simp only[yX,bl,aqG,if_false])
 have h':ay (yX b p kind j) 0=_:=h
 unfold CA de
 rw[h']
 cases(aqN b.ad.length).find? (iE b p kind j)<;>rfl
def conn(b:aj)(p:ae)(j:Int):Int×Bool:=if 0≤j∧j≤(p.aa.length:Int)-1 then(if(gt p.aa j.toNat).State=2 then de b p 2 j else(0,false)) else(0,false)
theorem VR{b:aj}{p:ae}(hs:Sm b.ad)(hp:Sm p.aa)(hc:p.aq.length=b.ad.length)(j:Int):CF b p j=some (conn b p j):=by
 unfold Sm at hp
 have e1:W (len p.aa-1)=(p.aa.length:Int)-1:=by unfold len;exact be (by omega) (by omega)
 unfold CF conn
 simp only[e1,mL,aqF,aqQ,aqI,aqJ,aZ]
 by_cases h:0≤j∧j≤(p.aa.length:Int)-1
 · rw[dT h,if_pos h]
   simp only[aqW,aqG,if_false,fQ h.1 (show j<(p.aa.length:Int) by omega),aqF,aqQ,aqI,aqJ,aZ,SZ hs hc]
   by_cases h2:(gt p.aa j.toNat).State=2
   · simp[h2]
   · simp[h2]
 · rw[dF h,if_neg h]
   rfl
theorem Vt{b:aj}{p:ae}(hs:Sm b.ad)(hc:p.aq.length=b.ad.length)(j:Int):CE b p j=some (de b p 3 j):=by
 unfold CE
 rw[SZ hs hc]
 rfl
def least(f:List Int)(x:aO):Int:=if gt f x.B.toNat<gt f x.A.toNat then gt f x.B.toNat else gt f x.A.toNat
def kw(b:aj)(p:ae)(f:List Int)(k:Nat):List Int:=
 if(gt b.ad k).Kind=1∧gt p.aq k=true then(f.set (gt b.ad k).A.toNat (least f (gt b.ad k))).set (gt b.ad k).B.toNat (least f (gt b.ad k)) else f
def eE(b:aj)(p:ae):Nat→List Int→List Int
 |0,f=>f
 |k+1,f=>kw b p (eE b p k f) k
def rounds(b:aj)(p:ae):Nat→List Int→List Int
 |0,f=>f
 |r+1,f=>eE b p b.ad.length (rounds b p r f)
def own(n:Nat):List Int:=(aqN n).map Int.ofNat
def bu(b:aj)(p:ae):List Int:=rounds b p b.ak.toNat (own b.ak.toNat)
theorem QV(b:aj)(p:ae)(f:List Int)(k:Nat):(kw b p f k).length=f.length:=by unfold kw;split<;>simp
theorem QW(b:aj)(p:ae)(k:Nat)(f:List Int):(eE b p k f).length=f.length:=by
 induction k with
 |zero=>rfl
 |succ k ih=>unfold eE;rw[QV,ih]
theorem RG(b:aj)(p:ae)(r:Nat)(f:List Int):(rounds b p r f).length=f.length:=by
 induction r with
 |zero=>rfl
 |succ r ih=>unfold rounds;rw[QW,ih]
theorem Ns(b:aj)(p:ae):(bu b p).length=b.ak.toNat:=by unfold bu;rw[RG];simp[own]
theorem KB{n k:Nat}(h:k<n):gt (own n) k=(k:Int):=by unfold own;rw[fV _ h];rfl
theorem adG{b:aj}{p:ae}(hb:bn b)(hs:Sm b.ad)(hc:p.aq.length=b.ad.length){f:List Int}(hf:(f.length:Int)=b.ak):ay (CB b p) ((0:Int),f)=some (eE b p b.ad.length f):=by
 refine dE (step:=CB b p) (fun k=>((k:Int),eE b p k f)) b.ad.length (fun k hk=> ?_) (by simp only[CB,bl,aqG,if_false])
 have fS:=hb.1 k hk
 have hl:=QW b p k f
 simp only[CB,aQ hk,if_true,az hk,az (show k<p.aq.length by omega),aqF,aqQ,aqI,aqJ,aZ,aU (cM hs hk)]
 by_cases h1:(gt b.ad k).Kind=1
 · rw[eh h1]
   simp only[if_true,aqF,aqQ,aqI,aqJ,aZ]
   cases h2:gt p.aq k with
   |false=>
    simp only[aqG,if_false,aqF,aqQ,aqI,aqJ,aZ]
    have e:eE b p (k+1) f=eE b p k f:=by
     show kw b p (eE b p k f) k=_
     unfold kw
     rw[if_neg (fun h=>by rw[h2] at h;exact absurd h.2 (by simp))]
    rw[e]
   |true=>
    have hA:=fS.1
    have hB:(gt b.ad k).A+1≤(gt b.ad k).B∧(gt b.ad k).B≤b.ak-1:=by
     rcases fS.2 with h|h|h
     · exact h.2
     · have:=h.1;omega
     · have:=h.1;omega
    simp only[if_true,fQ hA.1 (show(gt b.ad k).A<((eE b p k f).length:Int) by omega),fQ (show 0≤(gt b.ad k).B by omega) (show(gt b.ad k).B<((eE b p k f).length:Int) by omega),aqF,aqQ,aqI,aqJ,aZ]
    have e:eE b p (k+1) f=((eE b p k f).set (gt b.ad k).A.toNat (least (eE b p k f) (gt b.ad k))).set (gt b.ad k).B.toNat (least (eE b p k f) (gt b.ad k)):=by
     show kw b p (eE b p k f) k=_
     unfold kw
     rw[if_pos ⟨h1,h2⟩]
    rw[wT hA.1 (by omega)]
    simp only[aqF,aqQ,aqI,aqJ,aZ]
    rw[wT (by omega) (by simp;omega),e,fQ (show 0≤(gt b.ad k).B by omega) (by simp;omega)]
    rfl
 · rw[bY h1]
   simp only[aqG,if_false,aqF,aqQ,aqI,aqJ,aZ]
   have e:eE b p (k+1) f=eE b p k f:=by
    show kw b p (eE b p k f) k=_
    unfold kw
    rw[if_neg (fun h=>h1 h.1)]
   rw[e]
theorem ajJ{b:aj}{p:ae}(hl:dS b)(hb:bn b)(hs:Sm b.ad)(hc:p.aq.length=b.ad.length):HJ b p=some (bu b p):=by
 have jI:=hl.fe
 obtain⟨n,hn⟩:=ara (show 0≤b.ak by omega)
 have hn6:n≤6:=by omega
 unfold HJ
 rw[hn,ur (by omega)]
 simp only[aqF,aqQ,aqI,aqJ,aZ]
 have ah6:ay (CD (aqS n (0:Int))) ((0:Int),aqS n (0:Int))=some (own n):=by
  have hlz:(aqS n (0:Int)).length=n:=by simp
  have h:=dE (step:=CD (aqS n (0:Int))) (fun k=>((k:Int),(aqN n).map fun i:Nat=>if i<k then(i:Int) else 0)) n (r:=own n)
   (fun k hk=>by
     have hlen:((aqN n).map fun i:Nat=>if i<k then(i:Int) else 0).length=n:=by simp
     have e1:decide ((k:Int)<len (aqS n (0:Int)))=true:=dT (by unfold len;omega)
     simp only[CD,e1,if_true,az (show k<((aqN n).map fun i:Nat=>if i<k then(i:Int) else 0).length by omega),aqF,aqQ,aqI,aqJ,aZ,fg (show k<((aqN n).map fun i:Nat=>if i<k then(i:Int) else 0).length by omega),aU (show k<1000000000000000000 by omega)]
     congr 3
     apply fp
     · simp
     · intro i hi
       have ck:i<n:=by simpa using hi
       rw[dz (by omega),fV _ ck,fV _ ck]
       by_cases c_:i=k
       · subst c_;rw[if_pos rfl,if_pos (by omega)]
       · rw[if_neg c_]
         by_cases h1:i<k
         · rw[if_pos h1,if_pos (by omega)]
         · rw[if_neg h1,if_neg (by omega)])
   (by
     have e1:decide ((n:Int)<len (aqS n (0:Int)))=false:=dF (by unfold len;omega)
     simp only[CD,e1,aqG,if_false]
     congr 2
     apply fp
     · simp[own]
     · intro i hi
       have ck:i<n:=by simpa using hi
       rw[fV _ ck,if_pos ck,KB ck])
  have e0:((aqN n).map fun i:Nat=>if i<0 then(i:Int) else 0)=aqS n (0:Int):=by
   apply fp
   · simp
   · intro i hi
     have ck:i<n:=by simpa using hi
     rw[fV _ ck,sO ck]
     rfl
  rw[←e0] at h⊢
  exact h
 rw[ah6]
 simp only[aqF,aqQ,aqI,aqJ,aZ]
 have uT:(own n).length=n:=by simp[own]
 have pL:ay (CC b p (own n)) ((0:Int),own n)=some (rounds b p n (own n)):=by
  refine dE (step:=CC b p (own n)) (fun k=>((k:Int),rounds b p k (own n))) n (fun k hk=> ?_) ?_
  · have e1:decide ((k:Int)<len (own n))=true:=dT (by unfold len;omega)
    have iT:=RG b p k (own n)
    simp only[CC,e1,if_true,adG hb hs hc (f:=rounds b p k (own n)) (by omega),aqF,aqQ,aqI,aqJ,aZ,aU (show k<1000000000000000000 by omega)]
    rfl
  · have e1:decide ((n:Int)<len (own n))=false:=dF (by unfold len;omega)
    simp only[CC,e1,aqG,if_false]
 rw[pL]
 unfold bu
 rw[hn]
 rfl
def gQ(b:aj)(p:ae)(i j:Nat):Prop:=∃k,k<b.ad.length∧(gt b.ad k).Kind=1∧gt p.aq k=true∧(((gt b.ad k).A=(i:Int)∧(gt b.ad k).B=(j:Int))∨((gt b.ad k).A=(j:Int)∧(gt b.ad k).B=(i:Int)))
theorem gQ.symm{b:aj}{p:ae}{i j:Nat}(h:gQ b p i j):gQ b p j i:=by
 obtain⟨k,h1,h2,h3,h4⟩:=h
 exact⟨k,h1,h2,h3,h4.symm⟩
theorem gQ.lt{b:aj}{p:ae}(hb:bn b){i j:Nat}(h:gQ b p i j):i<b.ak.toNat∧j<b.ak.toNat:=by
 obtain⟨k,h1,h2,h3,h4⟩:=h
 have fS:=hb.1 k h1
 have hA:=fS.1
 have hB:(gt b.ad k).A+1≤(gt b.ad k).B∧(gt b.ad k).B≤b.ak-1:=by
  rcases fS.2 with h|h|h
  · exact h.2
  · have:=h.1;omega
  · have:=h.1;omega
 rcases h4 with h4|h4<;>omega
structure tH(b:aj)(p:ae)(f:List Int):Prop where
 len:f.length=b.ak.toNat
 sound:∀i,i<b.ak.toNat→∃m:Nat,gt f i=(m:Int)∧m≤i∧fM (gQ b p) i m
theorem af9(b:aj)(p:ae):tH b p (own b.ak.toNat):=⟨by simp[own],fun i hi=>⟨i,KB hi,aqM _,.refl _⟩⟩
theorem ub{b:aj}(hb:bn b){k:Nat}(hk:k<b.ad.length)(h1:(gt b.ad k).Kind=1):(gt b.ad k).A.toNat<(gt b.ad k).B.toNat∧(gt b.ad k).B.toNat<b.ak.toNat∧(gt b.ad k).A=((gt b.ad k).A.toNat:Int)∧(gt b.ad k).B=((gt b.ad k).B.toNat:Int):=by
 have fS:=hb.1 k hk
 have hA:=fS.1
 have hB:(gt b.ad k).A+1≤(gt b.ad k).B∧(gt b.ad k).B≤b.ak-1:=by
  rcases fS.2 with h|h|h
  · exact h.2
  · have:=h.1;omega
  · have:=h.1;omega
 omega
theorem Jj{b:aj}{p:ae}(hb:bn b){f:List Int}(hf:f.length=b.ak.toNat){k:Nat}(hk:k<b.ad.length)(i:Nat):
  gt (kw b p f k) i=if(gt b.ad k).Kind=1∧gt p.aq k=true∧(i=(gt b.ad k).A.toNat∨i=(gt b.ad k).B.toNat) then least f (gt b.ad k) else gt f i:=by
 unfold kw
 by_cases h1:(gt b.ad k).Kind=1∧gt p.aq k=true
 · have he:=ub hb hk h1.1
   rw[if_pos h1,dz (by simp;omega),dz (by omega)]
   by_cases hB:i=(gt b.ad k).B.toNat
   · rw[if_pos hB,if_pos ⟨h1.1,h1.2,.inr hB⟩]
   · rw[if_neg hB]
     by_cases hA:i=(gt b.ad k).A.toNat
     · rw[if_pos hA,if_pos ⟨h1.1,h1.2,.inl hA⟩]
     · rw[if_neg hA,if_neg (fun h=>by rcases h.2.2 with h|h<;>contradiction)]
 · rw[if_neg h1,if_neg (fun h=>h1 ⟨h.1,h.2.1⟩)]
theorem least_le(f:List Int)(x:aO):least f x≤gt f x.A.toNat∧least f x≤gt f x.B.toNat:=by unfold least;split<;>omega
theorem Q3{b:aj}{p:ae}(hb:bn b){f:List Int}(hf:tH b p f){k:Nat}(hk:k<b.ad.length):tH b p (kw b p f k)∧∀i,gt (kw b p f k) i≤gt f i:=by
 refine⟨⟨by rw[QV,hf.len],fun i hi=> ?_⟩,fun i=> ?_⟩
 · rw[Jj hb hf.len hk]
   split
   · rename_i h
     obtain⟨h1,h2,h3⟩:=h
     have he:=ub hb hk h1
     have hT:gQ b p (gt b.ad k).A.toNat (gt b.ad k).B.toNat:=⟨k,hk,h1,h2,.inl ⟨he.2.2.1,he.2.2.2⟩⟩
     obtain⟨m1,e1,l1,c1⟩:=hf.sound (gt b.ad k).A.toNat (by omega)
     obtain⟨m2,e2,l2,c2⟩:=hf.sound (gt b.ad k).B.toNat he.2.1
     unfold least
     rw[e1,e2]
     by_cases aK:(m2:Int)<(m1:Int)
     · rw[if_pos aK]
       refine⟨m2,rfl, ?_, ?_⟩
       · rcases h3 with rfl|rfl<;>omega
       · rcases h3 with rfl|rfl
         · exact .step hT c2
         · exact c2
     · rw[if_neg aK]
       refine⟨m1,rfl, ?_, ?_⟩
       · rcases h3 with rfl|rfl<;>omega
       · rcases h3 with rfl|rfl
         · exact c1
         · exact .step hT.symm c1
   · exact hf.sound i hi
 · rw[Jj hb hf.len hk]
   split
   · rename_i h
     have:=least_le f (gt b.ad k)
     rcases h.2.2 with rfl|rfl
     · exact this.1
     · exact this.2
   · exact arm _
theorem Et{b:aj}{p:ae}(hb:bn b){f:List Int}(hf:tH b p f):∀k,k≤b.ad.length→tH b p (eE b p k f)∧∀i,gt (eE b p k f) i≤gt f i
 |0,_=>⟨hf,fun _=>arm _⟩
 |k+1,hk=>by
  obtain⟨h1,h2⟩:=Et hb hf k (by omega)
  obtain⟨h3,h4⟩:=Q3 hb h1 (k:=k) (by omega)
  exact⟨h3,fun i=>Int.le_trans (h4 i) (h2 i)⟩
theorem Rz{b:aj}{p:ae}(hb:bn b){f:List Int}(hf:tH b p f){k:Nat}:∀m,k+m≤b.ad.length→∀i,gt (eE b p (k+m) f) i≤gt (eE b p k f) i
 |0,_=>fun _=>arm _
 |m+1,hm=>fun i=>by
  have h1:=Rz hb hf m (k:=k) (by omega) i
  have h2:=(Q3 hb (Et hb hf (k+m) (by omega)).1 (k:=k+m) (by omega)).2 i
  exact Int.le_trans h2 h1
theorem adI{b:aj}{p:ae}(hb:bn b){f:List Int}(hf:tH b p f){i j:Nat}(h:gQ b p i j):gt (eE b p b.ad.length f) i≤gt f j:=by
 obtain⟨k,hk,h1,h2,h3⟩:=h
 have he:=ub hb hk h1
 have hm:=Rz hb hf (k:=k+1) (b.ad.length-(k+1)) (by omega) i
 rw[show k+1+(b.ad.length-(k+1))=b.ad.length from by omega] at hm
 refine Int.le_trans hm ?_
 show gt (kw b p (eE b p k f) k) i≤gt f j
 have pQ:=Et hb hf k (by omega)
 rw[Jj hb pQ.1.len hk]
 have hl:=least_le (eE b p k f) (gt b.ad k)
 have hj:=pQ.2 j
 rw[if_pos ⟨h1,h2,by rcases h3 with h3|h3<;>omega⟩]
 rcases h3 with h3|h3
 · have:(gt b.ad k).B.toNat=j:=by omega
   rw[this] at hl
   omega
 · have:(gt b.ad k).A.toNat=j:=by omega
   rw[this] at hl
   omega
theorem Kh{b:aj}{p:ae}(hb:bn b)(r:Nat):tH b p (rounds b p r (own b.ak.toNat)):=by
 induction r with
 |zero=>exact af9 b p
 |succ r ih=>exact(Et hb ih _ (aqM _)).1
theorem RF{b:aj}{p:ae}(hb:bn b):∀(r:Nat) {i j:Nat},i<b.ak.toNat→eU (gQ b p) r i j→gt (rounds b p r (own b.ak.toNat)) i≤(j:Int)
 |0,i,j,hi,h=>by
  have:=h.zero
  subst this
  rw[show rounds b p 0 (own b.ak.toNat)=own b.ak.toNat from rfl,KB hi]
  exact arm _
 |r+1,i,j,hi,h=>by
  have hk:=Kh (p:=p) hb r
  cases h with
  |refl=>
   obtain⟨m,h1,h2,_⟩:=(Kh (p:=p) hb (r+1)).sound i hi
   rw[h1];omega
  |step e w=>
   exact Int.le_trans (adI hb hk e) (RF hb r (e.lt hb).2 w)
theorem Gm{b:aj}{p:ae}(hb:bn b){i:Nat}(hi:i<b.ak.toNat):∃m:Nat,gt (bu b p) i=(m:Int)∧fM (gQ b p) i m∧∀j,fM (gQ b p) i j→m≤j:=by
 obtain⟨m,h1,h2,h3⟩:=(Kh (p:=p) hb b.ak.toNat).sound i hi
 refine⟨m,h1,h3,fun j hj=> ?_⟩
 have hw:=(hj.walk (n:=b.ak.toNat) (fun i j h=>(h.lt hb).2) hi).more (r':=b.ak.toNat) (by omega)
 have:=RF hb b.ak.toNat hi hw
 have iY:gt (rounds b p b.ak.toNat (own b.ak.toNat)) i=(m:Int):=h1
 rw[iY] at this
 omega
theorem Vb{b:aj}{p:ae}(hb:bn b){i j:Nat}(hi:i<b.ak.toNat)(hj:j<b.ak.toNat):gt (bu b p) i=gt (bu b p) j↔fM (gQ b p) i j:=by
 obtain⟨m,h1,h2,h3⟩:=Gm (p:=p) hb hi
 obtain⟨m',iY,Gi,yc⟩:=Gm (p:=p) hb hj
 rw[h1,iY]
 have hs:∀i j,gQ b p i j→gQ b p j i:=fun _ _ h=>h.symm
 constructor
 · intro h
   have:m=m':=by omega
   subst this
   exact h2.trans (Gi.symm hs)
 · intro h
   have e1:=h3 m' (h.trans Gi)
   have e2:=yc m ((h.symm hs).trans h2)
   omega
theorem vr{b:aj}{p:ae}(hb:bn b){i:Nat}(hi:i<b.ak.toNat):0≤gt (bu b p) i∧gt (bu b p) i≤(i:Int):=by
 obtain⟨m,h1,h2,h3⟩:=Gm (p:=p) hb hi
 have:=h3 i (.refl _)
 omega
end Rx
namespace Rx
def a_(P:Nat→Bool)(k:Nat):List Int:=((aqN k).filter P).map Int.ofNat
theorem kU(P:Nat→Bool)(k:Nat):a_ P (k+1)=a_ P k++if P k=true then [(k:Int)] else []:=by
 unfold a_
 rw[List.range_succ,arK,arI]
 cases h:P k<;>simp[h]
theorem ky(P:Nat→Bool)(k:Nat):(a_ P k).length≤k:=by
 unfold a_
 rw[ar0]
 refine aq' (ar1 _ _) ?_
 simp
theorem r_{P:Nat→Bool}{k:Nat}{x:Int}:x∈a_ P k↔∃i,i<k∧P i=true∧x=(i:Int):=by
 unfold a_
 rw[aqX]
 constructor
 · rintro⟨i,hi,rfl⟩
   rw[arf,aqV] at hi
   exact⟨i,hi.1,hi.2,rfl⟩
 · rintro⟨i,h1,h2,rfl⟩
   exact⟨i,by rw[arf,aqV];exact⟨h1,h2⟩,rfl⟩
def fy(b:aj)(p:ae)(f i:Nat):Bool:=gt (bu b p) i==(f:Int)
def eF(b:aj)(p:ae)(f j:Nat):Bool:=(conn b p (j:Int)).2&&gt (bu b p) (conn b p (j:Int)).1.toNat==(f:Int)
def eT(b:aj)(p:ae)(f j:Nat):Bool:=(de b p 3 (j:Int)).2&&gt (bu b p) (de b p 3 (j:Int)).1.toNat==(f:Int)
def cO(b:aj)(p:ae)(i j k:Nat):List aR:=(aqN b.ak.toNat).map fun f=>⟨a_ (fy b p f) i,a_ (eF b p f) j,a_ (eT b p f) k⟩
def cn(b:aj)(p:ae)(f:Nat):aR:=⟨a_ (fy b p f) b.ak.toNat,a_ (eF b p f) b.aa.length,a_ (eT b p f) b.ai.length⟩
def aT(b:aj)(p:ae):List aR:=(cO b p b.ak.toNat b.aa.length b.ai.length).filter fun x=> !x.ak.isEmpty
theorem Lu{b:aj}{p:ae}(hb:bn b){kind j:Int}(h:(de b p kind j).2=true):0≤(de b p kind j).1∧(de b p kind j).1<b.ak:=by
 unfold de at h⊢
 cases hf:(aqN b.ad.length).find? (iE b p kind j) with
 |none=>rw[hf] at h;simp at h
 |some k=>
  have hk:=aqV.1 (arH hf)
  have:=(hb.1 k hk).1
  simp only
  omega
theorem GZ{b:aj}{p:ae}(hb:bn b){j:Int}(h:(conn b p j).2=true):0≤(conn b p j).1∧(conn b p j).1<b.ak:=by
 unfold conn at h⊢
 by_cases h1:0≤j∧j≤(p.aa.length:Int)-1
 · rw[if_pos h1] at h⊢
   by_cases h2:(gt p.aa j.toNat).State=2
   · rw[if_pos h2] at h⊢
     exact Lu hb h
   · rw[if_neg h2] at h;simp at h
 · rw[if_neg h1] at h;simp at h
theorem sk(b:aj)(p:ae)(i j k:Nat):(cO b p i j k).length=b.ak.toNat:=by simp[cO]
theorem pG{b:aj}{p:ae}{i j k f:Nat}(h:f<b.ak.toNat):gt (cO b p i j k) f=⟨a_ (fy b p f) i,a_ (eF b p f) j,a_ (eT b p f) k⟩:=by
 unfold cO;rw[fV _ h]
section
variable {b:aj} {p:ae}
theorem akB(hl:dS b)(hb:bn b):ay (CJ (bu b p)) ((0:Int),cO b p 0 0 0)=some (cO b p b.ak.toNat 0 0):=by
 have jI:=hl.fe
 have xW:=Ns b p
 refine dE (step:=CJ (bu b p)) (fun k=>((k:Int),cO b p k 0 0)) b.ak.toNat (fun k hk=> ?_) ?_
 · have e1:decide ((k:Int)<len (bu b p))=true:=dT (by unfold len;omega)
   obtain⟨g0,g1⟩:=vr (p:=p) hb hk
   have hlen:=sk b p k 0 0
   obtain⟨m,hm⟩:=ara g0
   have oI:m<b.ak.toNat:=by omega
   have iT:=ky (fy b p m) k
   have e2:(cO b p k 0 0).set m ⟨a_ (fy b p m) k++[(k:Int)],a_ (eF b p m) 0,a_ (eT b p m) 0⟩=cO b p (k+1) 0 0:=by
    apply fp
    · simp[cO]
    · intro i hi
      have ck:i<b.ak.toNat:=by simpa[cO] using hi
      rw[dz (by omega),pG ck,pG ck,kU]
      by_cases sF:i=m
      · subst sF
        have:fy b p i k=true:=by unfold fy;rw[hm];simp
        rw[if_pos rfl,if_pos this]
      · have:fy b p i k=false:=by unfold fy;rw[hm];exact bY (by omega)
        rw[if_neg sF,this]
        simp
   have e3:(cO b p (k+1) 0 0).length=b.ak.toNat:=sk _ _ _ _ _
   simp only[CJ,e1,if_true,az (show k<(bu b p).length by omega),aqF,aqQ,aqI,aqJ,aZ,hm,asi,az (show m<(cO b p k 0 0).length by omega),pG oI,cp (show(a_ (fy b p m) k).length+[(k:Int)].length≤1073741824 by simp;omega),fg (show m<(cO b p k 0 0).length by omega),e2,az (show m<(cO b p (k+1) 0 0).length by omega),aU (show k<1000000000000000000 by omega)]
 · have e1:decide ((b.ak.toNat:Int)<len (bu b p))=false:=dF (by unfold len;omega)
   simp only[CJ,e1,aqG,if_false]
theorem akA(hl:dS b)(hb:bn b)(hs:Sm b.ad)(hp:Sm p.aa)(hc:p.aq.length=b.ad.length):ay (CI b p (bu b p)) ((0:Int),cO b p b.ak.toNat 0 0)=some (cO b p b.ak.toNat b.aa.length 0):=by
 have jI:=hl.fe
 have xW:=Ns b p
 have iS:=hl.src
 refine dE (step:=CI b p (bu b p)) (fun k=>((k:Int),cO b p b.ak.toNat k 0)) b.aa.length (fun k hk=> ?_) (by simp only[CI,bl,aqG,if_false])
 have hlen:=sk b p b.ak.toNat k 0
 simp only[CI,aQ hk,if_true,VR hs hp hc,aqF,aqQ,aqI,aqJ,aZ,aU (show k<1000000000000000000 by omega)]
 cases jH:(conn b p (k:Int)).2 with
 |false=>
  have e2:cO b p b.ak.toNat (k+1) 0=cO b p b.ak.toNat k 0:=by
   unfold cO
   refine ar9 fun f _=> ?_
   rw[kU,show eF b p f k=false by unfold eF;rw[jH];rfl]
   simp
  simp only[aqG,if_false,aqF,aqQ,aqI,aqJ,aZ,e2]
 |true=>
  obtain⟨c0,c1⟩:=GZ hb jH
  have ht:(conn b p (k:Int)).1.toNat<b.ak.toNat:=by omega
  obtain⟨g0,g1⟩:=vr (p:=p) hb ht
  obtain⟨m,hm⟩:=ara g0
  have oI:m<b.ak.toNat:=by omega
  have iT:=ky (eF b p m) k
  have e2:(cO b p b.ak.toNat k 0).set m ⟨a_ (fy b p m) b.ak.toNat,a_ (eF b p m) k++[(k:Int)],a_ (eT b p m) 0⟩=cO b p b.ak.toNat (k+1) 0:=by
   apply fp
   · simp[cO]
   · intro i hi
     have ck:i<b.ak.toNat:=by simpa[cO] using hi
     rw[dz (by omega),pG ck,pG ck,kU]
     by_cases sF:i=m
     · subst sF
       have:eF b p i k=true:=by unfold eF;rw[jH,hm];simp
       rw[if_pos rfl,if_pos this]
     · have:eF b p i k=false:=by unfold eF;rw[jH,hm];simp;omega
       rw[if_neg sF,this]
       simp
  have e3:(cO b p b.ak.toNat (k+1) 0).length=b.ak.toNat:=sk _ _ _ _ _
  simp only[if_true,fQ c0 (show(conn b p (k:Int)).1<((bu b p).length:Int) by omega),aqF,aqQ,aqI,aqJ,aZ,hm,asi,az (show m<(cO b p b.ak.toNat k 0).length by omega),pG oI,cp (show(a_ (eF b p m) k).length+[(k:Int)].length≤1073741824 by simp;omega),fg (show m<(cO b p b.ak.toNat k 0).length by omega),e2,az (show m<(cO b p b.ak.toNat (k+1) 0).length by omega)]
theorem akz(hl:dS b)(hb:bn b)(hs:Sm b.ad)(hc:p.aq.length=b.ad.length):ay (CH b p (bu b p)) ((0:Int),cO b p b.ak.toNat b.aa.length 0)=some (cO b p b.ak.toNat b.aa.length b.ai.length):=by
 have jI:=hl.fe
 have xW:=Ns b p
 have iS:=hl.eL
 refine dE (step:=CH b p (bu b p)) (fun k=>((k:Int),cO b p b.ak.toNat b.aa.length k)) b.ai.length (fun k hk=> ?_) (by simp only[CH,bl,aqG,if_false])
 have hlen:=sk b p b.ak.toNat b.aa.length k
 simp only[CH,aQ hk,if_true,Vt hs hc,aqF,aqQ,aqI,aqJ,aZ,aU (show k<1000000000000000000 by omega)]
 cases jH:(de b p 3 (k:Int)).2 with
 |false=>
  have e2:cO b p b.ak.toNat b.aa.length (k+1)=cO b p b.ak.toNat b.aa.length k:=by
   unfold cO
   refine ar9 fun f _=> ?_
   rw[kU,show eT b p f k=false by unfold eT;rw[jH];rfl]
   simp
  simp only[aqG,if_false,aqF,aqQ,aqI,aqJ,aZ,e2]
 |true=>
  obtain⟨c0,c1⟩:=Lu hb jH
  have ht:(de b p 3 (k:Int)).1.toNat<b.ak.toNat:=by omega
  obtain⟨g0,g1⟩:=vr (p:=p) hb ht
  obtain⟨m,hm⟩:=ara g0
  have oI:m<b.ak.toNat:=by omega
  have iT:=ky (eT b p m) k
  have e2:(cO b p b.ak.toNat b.aa.length k).set m ⟨a_ (fy b p m) b.ak.toNat,a_ (eF b p m) b.aa.length,a_ (eT b p m) k++[(k:Int)]⟩=cO b p b.ak.toNat b.aa.length (k+1):=by
   apply fp
   · simp[cO]
   · intro i hi
     have ck:i<b.ak.toNat:=by simpa[cO] using hi
     rw[dz (by omega),pG ck,pG ck,kU]
     by_cases sF:i=m
     · subst sF
       have:eT b p i k=true:=by unfold eT;rw[jH,hm];simp
       rw[if_pos rfl,if_pos this]
     · have:eT b p i k=false:=by unfold eT;rw[jH,hm];simp;omega
       rw[if_neg sF,this]
       simp
  have e3:(cO b p b.ak.toNat b.aa.length (k+1)).length=b.ak.toNat:=sk _ _ _ _ _
  simp only[if_true,fQ c0 (show(de b p 3 (k:Int)).1<((bu b p).length:Int) by omega),aqF,aqQ,aqI,aqJ,aZ,hm,asi,az (show m<(cO b p b.ak.toNat b.aa.length k).length by omega),pG oI,cp (show(a_ (eT b p m) k).length+[(k:Int)].length≤1073741824 by simp;omega),fg (show m<(cO b p b.ak.toNat b.aa.length k).length by omega),e2,az (show m<(cO b p b.ak.toNat b.aa.length (k+1)).length by omega)]
end
theorem ak3{l:List aR}(hl:Sm l):D2 l=some (l.filter fun x=> !x.ak.isEmpty):=by
 have hE:∀x:aR,CL x=some (x.ak.isEmpty):=fun x=>by
  unfold CL
  cases h:x.ak with
  |nil=>rfl
  |cons a l=>simp[len];omega
 have h:=kZ (step:=wI l) (fun k=>(k:Int)) l.length (fun k=>(gt l k).ak.isEmpty) (R:=fun k=> .inr (k:Int)) (e:= .inl ())
  (fun k hk hp=>by simp only[wI,hE,aQ hk,if_true,az hk,aqF,aqQ,aqI,aqJ,aZ,hp,aqG,if_false,aU (cM hl hk)])
  (fun k hk hp=>by simp only[wI,hE,aQ hk,if_true,az hk,aqF,aqQ,aqI,aqJ,aZ,hp])
  (by simp only[wI,bl,aqG,if_false])
 have h':ay (wI l) 0=_:=h
 have xQ:∀m,m≤l.length→(∀k,k<m→(gt l k).ak.isEmpty=false)→(l.take m).filter (fun x=> !x.ak.isEmpty)=l.take m:=by
  intro m hm hk
  rw[List.filter_eq_self]
  intro x hx
  obtain⟨k,h1,rfl⟩:=(xr hm).1 hx
  rw[hk k h1];rfl
 unfold D2 JC
 rw[h']
 cases hf:(aqN l.length).find? (fun k=>(gt l k).ak.isEmpty) with
 |none=>
  have lr:∀k,k<l.length→(gt l k).ak.isEmpty=false:=fun k hk=>by
   have:=arB.1 hf k (aqV.2 hk)
   simpa using this
  have:=xQ l.length (aqM _) lr
  rw[arw] at this
  rw[this]
  rfl
 |some k0=>
  have lp:=aqV.1 (arH hf)
  have pM:(gt l k0).ak.isEmpty=true:=arN (p:=fun k=>(gt l k).ak.isEmpty) hf
  have aiV:∀k,k<k0→(gt l k).ak.isEmpty=false:=by
   obtain⟨_,la,lb,h2,h3⟩:=List.find?_eq_some_iff_append.1 hf
   intro k hk
   have hlen:la.length=k0:=by
    have h4:(aqN l.length)[la.length]? =some k0:=by rw[h2];simp
    rw[asd (by
     have:=congrArg List.length h2
     simp at this
     omega)] at h4
    exact are h4
   have fk:k∈la:=by
    have h4:(aqN l.length)[k]? =some k:=asd (by omega)
    rw[h2,List.getElem?_append_left (by omega)] at h4
    exact List.mem_of_getElem? h4
   simpa using h3 k fk
  have bg:((k0:Int)== -1)=false:=bY (by omega)
  have xN:k0<1000000000000000000:=cM hl lp
  simp only[aqF,aqQ,aqI,aqJ,aZ,aqJ,bg,aqG,if_false,aU xN]
  have qS:Wp (ay D1 ((k0:Int),((k0+1:Nat):Int),l)) fun r=>∃(i:Nat) (x:List aR),r=((i:Int),x)∧i≤l.length∧x.length=l.length∧x.take i=l.filter fun x=> !x.ak.isEmpty:=by
   refine dO (l.length-(k0+1)) (fun m s=>∃(i:Nat) (x:List aR),s=((i:Int),((k0+1+m:Nat):Int),x)∧i<k0+1+m∧x.length=l.length∧x.take i=(l.take (k0+1+m)).filter (fun x=> !x.ak.isEmpty)∧∀q,k0+1+m≤q→gt x q=gt l q) ⟨k0,l,rfl,by omega,rfl, ?_,fun _ _=>rfl⟩ ?_ ?_
   · rw[Nat.add_zero,iM lp,arK,xQ k0 (by omega) aiV]
     simp[pM]
   · rintro m s hm ⟨i,x,rfl,h1,h2,h3,h4⟩
     have hj:k0+1+m<l.length:=by omega
     have hs:k0+1+m<1000000000000000000:=cM hl hj
     have hg:=h4 (k0+1+m) (aqM _)
     unfold D1
     simp only[aQ (show k0+1+m<x.length by omega),if_true,az (show k0+1+m<x.length by omega),az (show i<x.length by omega),hg,hE,aqF,aqQ,aqI,aqJ,aZ,fg (show i<x.length by omega),aU (show i<1000000000000000000 by omega),aU hs]
     cases he:(gt l (k0+1+m)).ak.isEmpty with
     |true=>
      simp only[aqW,aqG,if_false,aqF,aqQ,aqI,aqJ,aZ]
      refine al.2 ⟨i,x,rfl,by omega,h2, ?_,fun q hq=>h4 q (by omega)⟩
      rw[show k0+1+(m+1)=k0+1+m+1 from rfl,iM hj,arK,h3]
      simp[he]
     |false=>
      simp only[ard,if_true,aqF,aqQ,aqI,aqJ,aZ]
      refine al.2 ⟨i+1,_,rfl,by omega,by simpa using h2, ?_,fun q hq=> ?_⟩
      · rw[show k0+1+(m+1)=k0+1+m+1 from rfl,iM hj,arK,←h3,iM (show i<(x.set i (gt l (k0+1+m))).length by simp;omega),dz (by omega),if_pos rfl,List.take_set_of_le (aqM _)]
        simp[he]
      · rw[dz (by omega),if_neg (by omega)]
        exact h4 q (by omega)
   · rintro s ⟨i,x,rfl,h1,h2,h3,h4⟩
     have e:k0+1+(l.length-(k0+1))=l.length:=by omega
     rw[e] at h1 h3⊢
     rw[arw] at h3
     unfold D1
     have e1:decide ((l.length:Int)<len x)=false:=dF (by unfold len;omega)
     simp only[e1,aqG,if_false]
     exact al.2 ⟨i,x,rfl,by omega,h2,h3⟩
  obtain⟨r,hr,i,x,rfl,h2,h3,h4⟩:=qS
  rw[hr]
  simp only[aqF,aqQ,aqI,aqJ,aZ]
  have s1:dV x (i:Int) (len x)=some ((x.take (len x).toNat).drop (i:Int).toNat):=by
   unfold dV len
   rw[if_pos ⟨by omega,by omega,by omega⟩]
  rw[s1]
  simp only[aqF,aqQ,aqI,aqJ,aZ,aq8]
  have ln:(x.take i).length=i:=by simp;omega
  unfold nS
  rw[aq8,D_ (xs:=x.take i++aqS (x.length-i) (⟨[],[],[]⟩:aR)) (n:=i) (by simp;omega)]
  rw[List.take_append_of_le_length (by omega),List.take_of_length_le (by omega),h4]
section
variable {b:aj} {p:ae}
theorem bM:aJ b p=0↔(dS b∧mw b)∧Shape b p∧qh b p:=by
 unfold aJ
 by_cases h0:jL b=0
 · rw[if_pos h0]
   have h1:=vJ.1 h0
   by_cases h2:Shape b p<;>by_cases h3:qh b p<;>simp[h1,h2,h3]
 · rw[if_neg h0]
   exact⟨fun h=>(h0 h).elim,fun h=>(h0 (vJ.2 h.1)).elim⟩
theorem Fy(hb:bP b)(hp:bA p)(h:aJ b p=0):rm b p=some (aT b p):=by
 obtain⟨⟨hl,hg⟩,kE,_⟩:=bM.1 h
 have jI:=hl.fe
 obtain⟨n,hn⟩:=ara (show 0≤b.ak by omega)
 have Bu:jC (⟨[],[],[]⟩:aR) b.ak=some (cO b p 0 0 0):=by
  rw[hn,ur (by omega)]
  congr 1
  apply fp
  · simp[cO,hn]
  · intro k hk
    have bH:k<n:=by simpa using hk
    rw[sO bH,pG (by omega)]
    rfl
 unfold rm
 rw[mH hb hp,h]
 simp only[aqF,aqQ,aqI,aqJ,aZ,bne_self_eq_false,aqG,if_false,ajJ hl hg.1 hb.1 kE.1,Bu,akB hl hg.1,akA hl hg.1 hb.1 hp.2.1 kE.1,akz hl hg.1 hb.1 kE.1]
 rw[ak3 (by unfold Sm;rw[sk];omega)]
 rfl
theorem agm(hb:bP b)(hp:bA p)(h:aJ b p≠0):rm b p=some []:=by
 unfold rm
 rw[mH hb hp]
 have:(aJ b p !=0)=true:=by simpa using h
 simp only[aqF,aqQ,aqI,aqJ,aZ,this,if_true]
theorem uv{x:aR}:x∈aT b p↔∃f,f<b.ak.toNat∧x=cn b p f∧(cn b p f).ak≠[]:=by
 unfold aT cO
 rw[arf,aqX]
 constructor
 · rintro⟨⟨f,hf,rfl⟩,h⟩
   refine⟨f,aqV.1 hf,rfl,fun e=> ?_⟩
   have e':a_ (fy b p f) b.ak.toNat=[]:=e
   rw[e'] at h
   cases h
 · rintro⟨f,hf,rfl,h⟩
   refine⟨⟨f,aqV.2 hf,rfl⟩, ?_⟩
   cases he:(cn b p f).ak with
   |nil=>exact(h he).elim
   |cons _ _=>rfl
theorem AW{f:Nat}{x:Int}:x∈(cn b p f).ak↔∃i,i<b.ak.toNat∧gt (bu b p) i=(f:Int)∧x=(i:Int):=by
 show x∈a_ (fy b p f) b.ak.toNat↔_
 rw[r_]
 constructor
 · rintro⟨i,h1,h2,h3⟩
   exact⟨i,h1,by simpa[fy] using h2,h3⟩
 · rintro⟨i,h1,h2,h3⟩
   exact⟨i,h1,by simp[fy,h2],h3⟩
theorem Fc{f:Nat}{x:Int}:x∈(cn b p f).aa↔∃j,j<b.aa.length∧(conn b p (j:Int)).2=true∧gt (bu b p) (conn b p (j:Int)).1.toNat=(f:Int)∧x=(j:Int):=by
 show x∈a_ (eF b p f) b.aa.length↔_
 rw[r_]
 constructor
 · rintro⟨i,h1,h2,h3⟩
   unfold eF at h2
   simp only[aqL,beq_iff_eq] at h2
   exact⟨i,h1,h2.1,h2.2,h3⟩
 · rintro⟨i,h1,h2,h3,h4⟩
   exact⟨i,h1,by unfold eF;rw[h2,h3];simp,h4⟩
theorem SC{f:Nat}{x:Int}:x∈(cn b p f).ai↔∃j,j<b.ai.length∧(de b p 3 (j:Int)).2=true∧gt (bu b p) (de b p 3 (j:Int)).1.toNat=(f:Int)∧x=(j:Int):=by
 show x∈a_ (eT b p f) b.ai.length↔_
 rw[r_]
 constructor
 · rintro⟨i,h1,h2,h3⟩
   unfold eT at h2
   simp only[aqL,beq_iff_eq] at h2
   exact⟨i,h1,h2.1,h2.2,h3⟩
 · rintro⟨i,h1,h2,h3,h4⟩
   exact⟨i,h1,by unfold eT;rw[h2,h3];simp,h4⟩
def aW(b:aj)(p:ae)(k:Int):aR:=cn b p (gt (bu b p) k.toNat).toNat
theorem xE(hb:bn b){k:Int}(h0:0≤k)(h1:k<b.ak):aW b p k∈aT b p∧k∈(aW b p k).ak:=by
 obtain⟨g0,g1⟩:=vr (p:=p) hb (show k.toNat<b.ak.toNat by omega)
 have hm:k∈(aW b p k).ak:=AW.2 ⟨k.toNat,by omega,by omega,by omega⟩
 exact⟨uv.2 ⟨_,by omega,rfl,fun e=>by rw[show cn b p (gt (bu b p) k.toNat).toNat=aW b p k from rfl] at e;rw[e] at hm;cases hm⟩,hm⟩
theorem LC{x:aR}(hx:x∈aT b p){k:Int}(hk:k∈x.ak):0≤k∧k<b.ak.toNat∧x=aW b p k:=by
 obtain⟨f,hf,rfl,_⟩:=uv.1 hx
 obtain⟨i,hi,hg,rfl⟩:=AW.1 hk
 refine⟨by omega,by omega, ?_⟩
 unfold aW
 rw[aq8,hg,aq8]
theorem xF:(aT b p).length≤b.ak.toNat:=by
 unfold aT
 refine aq' (ar1 _ _) ?_
 rw[sk]
 exact aqM _
theorem qJ(f:Nat):(cn b p f).ak.length≤b.ak.toNat∧(cn b p f).aa.length≤b.aa.length∧(cn b p f).ai.length≤b.ai.length:=
 ⟨ky _ _,ky _ _,ky _ _⟩
def cD(b:aj)(p:ae)(k:Int):aR×Bool:=if aJ b p=0∧0≤k∧k<b.ak then(aW b p k,true) else(⟨[],[],[]⟩,false)
def ji(b:aj)(p:ae)(k:Int):List Int×List Int×List Int×Bool:=((cD b p k).1.ak,(cD b p k).1.aa,(cD b p k).1.ai,(cD b p k).2)
theorem of_eq(hb:bP b)(hp:bA p)(k:Int):mj b p k=some (ji b p k):=by
 unfold mj ji cD
 by_cases h:aJ b p=0
 case neg=>
  rw[agm hb hp h,if_neg (fun hh=>h hh.1)]
  have:ay (tt k []) 0=some (.inl ()):=lO (.done (by simp[tt,len])) (by omega)
  simp only[aqF,aqQ,aqI,aqJ,aZ,this,aqI]
 obtain⟨⟨hl,hg⟩,kE,_⟩:=bM.1 h
 have jI:=hl.fe
 have ke:=xF (b:=b) (p:=p)
 rw[Fy hb hp h]
 simp only[aqF,aqQ,aqI,aqJ,aZ]
 have df:∀q,q<(aT b p).length→Sm (gt (aT b p) q).ak:=fun q hq=>by
  obtain⟨f,hf,e,_⟩:=uv.1 (cV hq)
  rw[e]
  have:=(qJ (b:=b) (p:=p) f).1
  unfold Sm;omega
 have h1:=kZ (step:=tt k (aT b p)) (fun i=>(i:Int)) (aT b p).length (fun i=>decide (k∈(gt (aT b p) i).ak)) (R:=fun i=> .inr ((gt (aT b p) i).ak,(gt (aT b p) i).aa,(gt (aT b p) i).ai,true)) (e:= .inl ())
  (fun i hi hq=>by simp only[tt,aQ hi,if_true,az hi,aqF,aqQ,aqI,aqJ,aZ,contains_eq (df i hi),hq,aqG,if_false,aU (show i<1000000000000000000 by omega)])
  (fun i hi hq=>by simp only[tt,aQ hi,if_true,az hi,aqF,aqQ,aqI,aqJ,aZ,contains_eq (df i hi),hq])
  (by simp only[tt,bl,aqG,if_false])
 have iY:ay (tt k (aT b p)) 0=_:=h1
 rw[iY]
 cases hf:(aqN (aT b p).length).find? (fun i=>decide (k∈(gt (aT b p) i).ak)) with
 |none=>
  have:¬(aJ b p=0∧0≤k∧k<b.ak):=fun hh=>by
   obtain⟨h2,h3⟩:=xE (p:=p) hg.1 hh.2.1 hh.2.2
   obtain⟨q,hq,e⟩:=kY h2
   have:=arB.1 hf q (aqV.2 hq)
   rw[e] at this
   simp[h3] at this
  rw[if_neg this]
  rfl
 |some q=>
  have hq:=aqV.1 (arH hf)
  have hk:k∈(gt (aT b p) q).ak:=of_decide_eq_true (arN (p:=fun i=>decide (k∈(gt (aT b p) i).ak)) hf)
  obtain⟨k0,k1,e⟩:=LC (cV hq) hk
  rw[if_pos ⟨h,k0,by omega⟩,←e]
  rfl
def re(b:aj)(p:ae)(j:Int):Int×Bool:=if aJ b p=0 then conn b p j else(0,false)
def nO(b:aj)(p:ae)(j:Int):Int×Bool:=if aJ b p=0 then de b p 3 j else(0,false)
end
def cW(b:aj)(kind j:Int)(k:Nat):Bool:=(gt b.ad k).Kind==kind&&((gt b.ad k).B==j||(kind==1&&(gt b.ad k).A==j))
end Rx
namespace Rx
section
variable {b:aj} {p:ae}
theorem Ln(hb:bP b)(hp:bA p)(k:Int):tu b p k=some (decide (0<(cD b p k).1.aa.length)):=by
 unfold tu
 rw[of_eq hb hp]
 simp only[aqF,aqQ,aqI,aqJ,aZ]
 congr 1
 rw[decide_eq_decide]
 simp only[ji,len]
 omega
end
end Rx
namespace Rx
section
variable {b:aj} {p:ae}
theorem Vu(hb:bP b)(hp:bA p)(j:Int):CM b p j=some (nO b p j):=by
 unfold CM nO
 rw[mH hb hp]
 by_cases h:aJ b p=0
 · rw[if_pos h,h]
   simp only[aqF,aqQ,aqI,aqJ,aZ,bne_self_eq_false,aqG,if_false,Vt hb.1 (bM.1 h).2.1.1]
 · have:(aJ b p !=0)=true:=by simpa using h
   simp only[aqF,aqQ,aqI,aqJ,aZ,this,if_true,if_neg h]
end
section
variable {b:aj} {p:ae}
theorem VT(hb:bP b)(hp:bA p)(j:Int):CN b p j=some (re b p j):=by
 unfold CN re
 rw[mH hb hp]
 by_cases h:aJ b p=0
 · rw[if_pos h,h]
   simp only[aqF,aqQ,aqI,aqJ,aZ,bne_self_eq_false,aqG,if_false,VR hb.1 hp.2.1 (bM.1 h).2.1.1]
 · have:(aJ b p !=0)=true:=by simpa using h
   simp only[aqF,aqQ,aqI,aqJ,aZ,this,if_true,if_neg h]
end
end Rx
namespace Rx
open Classical
theorem rS{b:aj}(hs:Sm b.ad)(kind j:Int):sS b kind j=some (a_ (cW b kind j) b.ad.length):=by
 have h1:=dE (step:=B2 b kind j) (fun k=>((k:Int),a_ (cW b kind j) k)) b.ad.length (r:=a_ (cW b kind j) b.ad.length)
  (fun k hk=>by
    have iT:=ky (cW b kind j) k
    have pQ:=cM hs hk
    have q_:bq (a_ (cW b kind j) k) [(k:Int)]=some (a_ (cW b kind j) k++[(k:Int)]):=cp (by unfold Sm at hs;simp;omega)
    simp only[B2,aQ hk,if_true,az hk,aqF,aU pQ,kU,q_]
    unfold cW
    cases e1:(gt b.ad k).Kind==kind<;>cases e2:(gt b.ad k).B==j<;>cases e3:kind==1<;>cases e4:(gt b.ad k).A==j<;>simp)
  (by simp only[B2,bl,aqG,if_false])
 have iY:ay (B2 b kind j) (0,[])=_:=h1
 unfold sS
 rw[iY]
 rfl
theorem R3(P:Nat→Bool)(k:Nat):(a_ P (k+1)).length=(a_ P k).length+if P k=true then 1 else 0:=by
 rw[kU,aqY]
 split<;>rfl
theorem AN{P:Nat→Bool}{n:Nat}:(a_ P n).length=0↔∀k,k<n→P k=false:=by
 induction n with
 |zero=>simp[a_]
 |succ n ih=>
  rw[R3]
  constructor
  · intro h k hk
    by_cases hp:P n=true
    · rw[if_pos hp] at h;omega
    · by_cases u4:k=n
      · subst u4;simpa using hp
      · exact ih.1 (by omega) k (by omega)
  · intro h
    rw[ih.2 fun k hk=>h k (by omega),h n (by omega)]
    rfl
theorem AM{P:Nat→Bool}{n:Nat}:(a_ P n).length=1↔(∃k,k<n∧P k=true)∧∀i j,i<j→j<n→P i=true→P j=true→False:=by
 induction n with
 |zero=>simp[a_]
 |succ n ih=>
  rw[R3]
  constructor
  · intro h
    by_cases hp:P n=true
    · rw[if_pos hp] at h
      have h0:=AN.1 (show(a_ P n).length=0 by omega)
      refine⟨⟨n,by omega,hp⟩,fun i j iV hj hi _=> ?_⟩
      rw[h0 i (by omega)] at hi
      cases hi
    · rw[if_neg hp] at h
      obtain⟨⟨k,hk,li⟩,hu⟩:=ih.1 (by omega)
      refine⟨⟨k,by omega,li⟩,fun i j iV hj hi T3=> ?_⟩
      by_cases hjn:j=n
      · subst hjn;exact hp T3
      · exact hu i j iV (by omega) hi T3
  · rintro⟨⟨k,hk,li⟩,hu⟩
    by_cases hp:P n=true
    · rw[if_pos hp,AN.2 fun i hi=>by
       cases nF:P i with
       |false=>rfl
       |true=>exact(hu i n hi (by omega) nF hp).elim]
    · rw[if_neg hp]
      have u4:k≠n:=fun e=>hp (e▸li)
      exact ih.2 ⟨⟨k,by omega,li⟩,fun i j iV hj=>hu i j iV (by omega)⟩
theorem sQ{b:aj}{j k:Nat}:cW b 2 (j:Int) k=true↔fw (gt b.ad k) j:=by
 unfold cW fw
 by_cases h1:(gt b.ad k).Kind=2<;>by_cases h2:(gt b.ad k).B=(j:Int)<;>simp[h1,h2]
theorem Gu{b:aj}{j k:Nat}:cW b 3 (j:Int) k=true↔k8 (gt b.ad k) j:=by
 unfold cW k8
 by_cases h1:(gt b.ad k).Kind=3<;>by_cases h2:(gt b.ad k).B=(j:Int)<;>simp[h1,h2]
def Is(b:aj)(k:Nat):Prop:=
 (0≤(gt b.ad k).A∧(gt b.ad k).A≤b.ak-1)∧
 (((gt b.ad k).Kind=1∧(gt b.ad k).A+1≤(gt b.ad k).B∧(gt b.ad k).B≤b.ak-1)∨
  ((gt b.ad k).Kind=2∧(0≤(gt b.ad k).B∧(gt b.ad k).B≤(b.aa.length:Int)-1))∨
  ((gt b.ad k).Kind=3∧(0≤(gt b.ad k).B∧(gt b.ad k).B≤(b.ai.length:Int)-1)∧∀i,i<k→¬((gt b.ad i).Kind=(gt b.ad k).Kind∧(gt b.ad i).A=(gt b.ad k).A∧(gt b.ad i).B=(gt b.ad k).B)))
theorem xe{b:aj}:bn b↔(∀k,k<b.ad.length→Is b k)∧(∀j,j<b.aa.length→(a_ (cW b 2 (j:Int)) b.ad.length).length=1)∧∀j,j<b.ai.length→(a_ (cW b 3 (j:Int)) b.ad.length).length≠0:=by
 constructor
 · rintro⟨h1,h2,h3⟩
   refine⟨fun k hk=> ?_,fun j hj=>AM.2 ⟨?_,fun i k c_ hk hi hp=> ?_⟩,fun j hj h0=> ?_⟩
   · obtain⟨hA,hB⟩:=h1 k hk
     refine⟨hA, ?_⟩
     rcases hB with h|⟨h4,h5,_⟩|⟨h4,h5,h6⟩
     · exact .inl h
     · exact .inr (.inl ⟨h4,h5⟩)
     · exact .inr (.inr ⟨h4,h5,fun i hi hh=>h6 i hi ⟨by rw[hh.1];exact h4,hh.2.2,hh.2.1⟩⟩)
   · obtain⟨k,hk,hs⟩:=h2 j hj
     exact⟨k,hk,sQ.2 hs⟩
   · have ck:=sQ.1 hi
     have kG:=sQ.1 hp
     rcases(h1 k hk).2 with h|⟨h4,h5,h6⟩|⟨h4,_⟩
     · have:=h.1;have:=kG.1;omega
     · exact h6 i c_ ⟨ck.1,by rw[ck.2,kG.2]⟩
     · have:=kG.1;omega
   · obtain⟨k,hk,hs⟩:=h3 j hj
     have:=AN.1 h0 k hk
     rw[Gu.2 hs] at this
     cases this
 · rintro⟨h1,h2,h3⟩
   refine⟨fun k hk=> ?_,fun j hj=> ?_,fun j hj=> ?_⟩
   · obtain⟨hA,hB⟩:=h1 k hk
     refine⟨hA, ?_⟩
     rcases hB with h|⟨h4,h5⟩|⟨h4,h5,h6⟩
     · exact .inl h
     · refine .inr (.inl ⟨h4,h5,fun i hi hh=> ?_⟩)
       have hj:(gt b.ad k).B=((gt b.ad k).B.toNat:Int):=by omega
       obtain⟨_,hu⟩:=AM.1 (h2 (gt b.ad k).B.toNat (by omega))
       exact hu i k hi hk (sQ.2 ⟨hh.1,by rw[hh.2];exact hj⟩) (sQ.2 ⟨h4,hj⟩)
     · exact .inr (.inr ⟨h4,h5,fun i hi hh=>h6 i hi ⟨by rw[hh.1,h4],hh.2.2,hh.2.1⟩⟩)
   · obtain⟨⟨k,hk,hp⟩,_⟩:=AM.1 (h2 j hj)
     exact⟨k,hk,sQ.1 hp⟩
   · apply aq6
     intro hn
     refine h3 j hj (AN.2 fun k hk=> ?_)
     cases hp:cW b 3 (j:Int) k with
     |false=>rfl
     |true=>exact(hn ⟨k,hk,Gu.1 hp⟩).elim
theorem ad1{b:aj}(hl:dS b):GD b=some (decide (bn b)):=by
 have hb:=hl.fe
 have jq:=hl.bV
 have iS:=hl.src
 have xZ:=hl.eL
 have df:Sm b.ad:=by unfold Sm;omega
 have eB:W (b.ak-1)=b.ak-1:=be (by omega) (by omega)
 have eS:W (len b.aa-1)=(b.aa.length:Int)-1:=by unfold len;exact be (by omega) (by omega)
 have eC:W (len b.ai-1)=(b.ai.length:Int)-1:=by unfold len;exact be (by omega) (by omega)
 have dQ:∀k,k<b.ad.length→ay (yq (gt b.ad k) (b.ad.take k)) 0=some (if ∃i,i<k∧((gt b.ad i).Kind=(gt b.ad k).Kind∧(gt b.ad i).A=(gt b.ad k).A∧(gt b.ad i).B=(gt b.ad k).B) then .inr (.inr (.inr (.inr (.inr false)))) else .inl ()):=by
  intro k hk
  have hlen:(b.ad.take k).length=k:=by simp;omega
  have hg:∀i,i<k→gt (b.ad.take k) i=gt b.ad i:=fun i hi=>by
   rw[fx (by omega),fx (by omega)];simp
  refine arO (kB (step:=yq (gt b.ad k) (b.ad.take k)) (fun i=>(i:Int)) k (fun i=>(gt b.ad i).Kind=(gt b.ad k).Kind∧(gt b.ad i).A=(gt b.ad k).A∧(gt b.ad i).B=(gt b.ad k).B) (r:= .inr (.inr (.inr (.inr (.inr false))))) (e:= .inl ())
   (fun i hi hp=>by
     have e:((gt b.ad i).Kind==(gt b.ad k).Kind&&((gt b.ad i).A==(gt b.ad k).A&&(gt b.ad i).B==(gt b.ad k).B))=false:=by
      by_cases h1:(gt b.ad i).Kind=(gt b.ad k).Kind
      · by_cases h2:(gt b.ad i).A=(gt b.ad k).A
        · rw[eh h1,eh h2,bY (fun h3=>hp ⟨h1,h2,h3⟩)];rfl
        · rw[eh h1,bY h2];rfl
      · rw[bY h1];rfl
     simp only[yq,aQ (show i<(b.ad.take k).length by omega),if_true,az (show i<(b.ad.take k).length by omega),hg i hi,aqF,e,aqG,if_false,aU (show i<1000000000000000000 by omega)])
   (fun i hi hp=>by
     simp only[yq,aQ (show i<(b.ad.take k).length by omega),if_true,az (show i<(b.ad.take k).length by omega),hg i hi,aqF,eh hp.1,eh hp.2.1,eh hp.2.2,Bool.and_self])
   (by
     have e1:decide ((k:Int)<len (b.ad.take k))=false:=dF (by unfold len;omega)
     simp only[yq,e1,aqG,if_false])) (by congr)
 have l1:ay (vG b) 0=some (if ∃k,k<b.ad.length∧¬Is b k then .inr false else .inl ()):=by
  refine arO (kB (r:= .inr false) (e:= .inl ()) (step:=vG b) (fun k=>(k:Int)) b.ad.length (fun k=>¬Is b k) (fun k hk hp=> ?_) (fun k hk hp=> ?_) (by simp only[vG,bl,aqG,if_false])) (by congr)
  · obtain⟨hA,hB⟩:=arF.1 hp
    have vE:W ((gt b.ad k).A+1)=(gt b.ad k).A+1:=be (by omega) (by omega)
    simp only[vG,aQ hk,if_true,az hk,aqF,lI,eB,eS,eC,vE,dT hA,aqW,aqG,if_false]
    rcases hB with⟨h1,h2⟩|⟨h1,h2⟩|⟨h1,h2,h3⟩
    · simp only[eh h1,if_true,dT h2,aqW,aqG,if_false,aqF,aqI,aU (show k<1000000000000000000 by omega)]
    · simp only[bY (show(gt b.ad k).Kind≠1 by omega),eh h1,if_true,dT h2,aqW,aqG,if_false,aqF,aqI,aU (show k<1000000000000000000 by omega)]
    · have iG:¬∃i,i<k∧((gt b.ad i).Kind=(gt b.ad k).Kind∧(gt b.ad i).A=(gt b.ad k).A∧(gt b.ad i).B=(gt b.ad k).B):=fun⟨i,hi,hh⟩=>h3 i hi hh
      simp only[bY (show(gt b.ad k).Kind≠1 by omega),bY (show(gt b.ad k).Kind≠2 by omega),eh h1,if_true,dT h2,aqW,aqG,if_false,D_ (show k≤b.ad.length by omega),aqF,dQ k hk,if_neg iG,aqI,aU (show k<1000000000000000000 by omega)]
  · by_cases hA:0≤(gt b.ad k).A∧(gt b.ad k).A≤b.ak-1
    case neg=>simp only[vG,aQ hk,if_true,az hk,aqF,lI,eB,dF hA,ard]
    have vE:W ((gt b.ad k).A+1)=(gt b.ad k).A+1:=be (by omega) (by omega)
    simp only[vG,aQ hk,if_true,az hk,aqF,lI,eB,eS,eC,vE,dT hA,aqW,aqG,if_false]
    by_cases h1:(gt b.ad k).Kind=1
    · have h2:¬((gt b.ad k).A+1≤(gt b.ad k).B∧(gt b.ad k).B≤b.ak-1):=fun h=>hp ⟨hA,.inl ⟨h1,h⟩⟩
      simp only[eh h1,if_true,dF h2,ard,aqF,aqJ]
    by_cases h2:(gt b.ad k).Kind=2
    · have h3:¬(0≤(gt b.ad k).B∧(gt b.ad k).B≤(b.aa.length:Int)-1):=fun h=>hp ⟨hA,.inr (.inl ⟨h2,h⟩)⟩
      simp only[bY h1,eh h2,if_true,dF h3,ard,aqG,if_false,aqF,aqJ]
    by_cases h3:(gt b.ad k).Kind=3
    case neg=>simp only[bY h1,bY h2,bY h3,aqG,if_false,aqF,aqJ]
    by_cases h4:0≤(gt b.ad k).B∧(gt b.ad k).B≤(b.ai.length:Int)-1
    case neg=>simp only[bY h1,bY h2,eh h3,if_true,dF h4,ard,aqG,if_false,aqF,aqJ]
    have Bc:∃i,i<k∧((gt b.ad i).Kind=(gt b.ad k).Kind∧(gt b.ad i).A=(gt b.ad k).A∧(gt b.ad i).B=(gt b.ad k).B):=by
     apply aq6
     intro hn
     exact hp ⟨hA,.inr (.inr ⟨h3,h4,fun i hi hh=>hn ⟨i,hi,hh⟩⟩)⟩
    simp only[bY h1,bY h2,eh h3,if_true,dT h4,aqW,aqG,if_false,D_ (show k≤b.ad.length by omega),aqF,dQ k hk,if_pos Bc,aqJ]
 have l3:ay (yp b) 0=some (if ∃j,j<b.aa.length∧¬(a_ (cW b 2 (j:Int)) b.ad.length).length=1 then .inr false else .inl ()):=by
  refine arO (kB (r:= .inr false) (e:= .inl ()) (step:=yp b) (fun k=>(k:Int)) b.aa.length (fun j=>¬(a_ (cW b 2 (j:Int)) b.ad.length).length=1) (fun j hj hp=> ?_) (fun j hj hp=> ?_) (by simp only[yp,bl,aqG,if_false])) (by congr)
  · have e:(len (a_ (cW b 2 (j:Int)) b.ad.length) !=1)=false:=by have:=arF.1 hp;simp[len,this]
    simp only[yp,aQ hj,if_true,rS df,aqF,e,aqG,if_false,aU (show j<1000000000000000000 by omega)]
  · have e:(len (a_ (cW b 2 (j:Int)) b.ad.length) !=1)=true:=by simp[len];omega
    simp only[yp,aQ hj,if_true,rS df,aqF,e]
 have l4:ay (yo b) 0=some (if ∃j,j<b.ai.length∧(a_ (cW b 3 (j:Int)) b.ad.length).length=0 then .inr false else .inl ()):=by
  refine arO (kB (r:= .inr false) (e:= .inl ()) (step:=yo b) (fun k=>(k:Int)) b.ai.length (fun j=>(a_ (cW b 3 (j:Int)) b.ad.length).length=0) (fun j hj hp=> ?_) (fun j hj hp=> ?_) (by simp only[yo,bl,aqG,if_false])) (by congr)
  · have e:decide (len (a_ (cW b 3 (j:Int)) b.ad.length)<1)=false:=dF (by unfold len;omega)
    simp only[yo,aQ hj,if_true,rS df,aqF,e,aqG,if_false,aU (show j<1000000000000000000 by omega)]
  · have e:decide (len (a_ (cW b 3 (j:Int)) b.ad.length)<1)=true:=dT (by unfold len;omega)
    simp only[yo,aQ hj,if_true,rS df,aqF,e]
 unfold GD
 rw[l1,aqF]
 by_cases g1:∃k,k<b.ad.length∧¬Is b k
 · rw[if_pos g1,dF (fun h:bn b=>by obtain⟨k,hk,hn⟩:=g1;exact hn ((xe.1 h).1 k hk))]
   rfl
 rw[if_neg g1,aqI,l3,aqF]
 by_cases g2:∃j,j<b.aa.length∧¬(a_ (cW b 2 (j:Int)) b.ad.length).length=1
 · rw[if_pos g2,dF (fun h:bn b=>by obtain⟨k,hk,hn⟩:=g2;exact hn ((xe.1 h).2.1 k hk))]
   rfl
 rw[if_neg g2,aqI,l4,aqF]
 by_cases g3:∃j,j<b.ai.length∧(a_ (cW b 3 (j:Int)) b.ad.length).length=0
 · rw[if_pos g3,dF (fun h:bn b=>by obtain⟨k,hk,hn⟩:=g3;exact(xe.1 h).2.2 k hk hn)]
   rfl
 rw[if_neg g3,dT (xe.2 ⟨fun k hk=>aq6 fun h=>g1 ⟨k,hk,h⟩,fun k hk=>aq6 fun h=>g2 ⟨k,hk,h⟩,fun k hk h=>g3 ⟨k,hk,h⟩⟩)]
 rfl
end Rx
namespace Rx
open Classical
theorem adQ{b:aj}(hl:dS b):GA b=some (decide (∀k,k<b.aa.length→i_ (gt b.aa k))):=by
 have iS:=hl.src
 have h:ay (yk b) 0=some (if ∃k,k<b.aa.length∧¬i_ (gt b.aa k) then .inr false else .inl ()):=by
  refine arO (kB (r:= .inr false) (e:= .inl ()) (step:=yk b) (fun k=>(k:Int)) b.aa.length (fun k=>¬i_ (gt b.aa k)) (fun k hk hp=> ?_) (fun k hk hp=> ?_) (by simp only[yk,bl,aqG,if_false])) (by congr)
  · obtain⟨h1,h2,h3⟩:=arF.1 hp
    simp only[yk,aQ hk,if_true,az hk,aqF,lI,dT h1,dT h2,dT h3,aqW,aqG,if_false,aU (show k<1000000000000000000 by omega)]
  · simp only[yk,aQ hk,if_true,az hk,aqF,lI]
    by_cases h1:1≤(gt b.aa k).dg∧(gt b.aa k).dg≤50000
    case neg=>simp[h1]
    by_cases h2:0≤(gt b.aa k).dr∧(gt b.aa k).dr≤(gt b.aa k).dg
    case neg=>simp[h1,h2]
    have h3:¬(0≤(gt b.aa k).Start∧(gt b.aa k).Start≤600):=fun h=>hp ⟨h1,h2,h⟩
    simp[h1,h2,h3]
 unfold GA
 rw[h,aqF]
 by_cases g:∃k,k<b.aa.length∧¬i_ (gt b.aa k)
 · rw[if_pos g,dF (c:=∀k,k<b.aa.length→i_ (gt b.aa k)) (fun h=>by obtain⟨k,hk,hn⟩:=g;exact hn (h k hk))];rfl
 · rw[if_neg g,dT (c:=∀k,k<b.aa.length→i_ (gt b.aa k)) (fun k hk=>aq6 fun h=>g ⟨k,hk,h⟩)];rfl
theorem adZ{b:aj}(hl:dS b)(hs:bP b):GC b=some (decide (∀k,k<b.ai.length→iL (gt b.ai k) k)):=by
 have xZ:=hl.eL
 have dQ:∀k,k<b.ai.length→ay (ym (k:Int) (gt b.ai k)) 0=some (if ∃i,i<(gt b.ai k).bF.length∧¬((0≤gt (gt b.ai k).bF i∧gt (gt b.ai k).bF i≤(k:Int)-1)∧(0<i→gt (gt b.ai k).bF (i-1)<gt (gt b.ai k).bF i)) then .inr (.inr (.inr false)) else .inl ()):=by
  intro k hk
  generalize hx:gt b.ai k=x
  have hl:Sm x.bF:=hx▸hs.2.2.2 _ (cV hk)
  have e0:W ((k:Int)-1)=(k:Int)-1:=be (by omega) (by omega)
  refine arO (kB (step:=ym (k:Int) x) (fun i=>(i:Int)) x.bF.length (fun i=>¬((0≤gt x.bF i∧gt x.bF i≤(k:Int)-1)∧(0<i→gt x.bF (i-1)<gt x.bF i))) (r:= .inr (.inr (.inr false))) (e:= .inl ()) (fun i hi hp=> ?_) (fun i hi hp=> ?_) (by simp only[ym,bl,aqG,if_false])) (by congr)
  · obtain⟨h1,h2⟩:=arF.1 hp
    simp only[ym,aQ hi,if_true,az hi,aqF,lI,e0,dT h1,aqW,aqG,if_false]
    by_cases jp:0<i
    · have h3:=h2 jp
      rw[dT (c:=(i:Int)>0) (by omega)]
      simp only[if_true,o0 (cM hl hi) jp,az (show i-1<x.bF.length by omega),aqF,dF (c:=gt x.bF (i-1)≥gt x.bF i) (by omega),aqG,if_false,aU (cM hl hi)]
    · rw[dF (c:=(i:Int)>0) (by omega)]
      simp only[aqG,if_false,aqF,aU (cM hl hi)]
  · simp only[ym,aQ hi,if_true,az hi,aqF,lI,e0]
    by_cases h1:0≤gt x.bF i∧gt x.bF i≤(k:Int)-1
    · have h2:0<i∧gt x.bF i≤gt x.bF (i-1):=by
       by_cases jp:0<i
       · refine⟨jp,Int.not_lt.1 fun h=>hp ⟨h1,fun _=>h⟩⟩
       · exact(hp ⟨h1,fun h=>(jp h).elim⟩).elim
      rw[dT h1,dT (c:=(i:Int)>0) (by omega)]
      simp only[aqW,aqG,if_false,if_true,o0 (cM hl hi) h2.1,az (show i-1<x.bF.length by omega),aqF,dT (c:=gt x.bF (i-1)≥gt x.bF i) (by omega)]
    · rw[dF h1]
      simp only[ard,if_true,aqF]
 have bD:∀x:Consumer,(ar_ (some (decide (0≤x.cX∧x.cX≤50000))) fun x3=>if(!x3)=true then some true else ar_ (some (decide (0≤x.dr∧x.dr≤x.cX))) fun x4=>if(!x4)=true then some true else ar_ (some (decide (0≤x.iq∧x.iq≤15))) fun x5=>if(!x5)=true then some true else ar_ (some (decide (-1≤x.bm∧x.bm≤7))) fun x6=>if(!x6)=true then some true else some (decide (len x.bF>4)))=some (decide (¬((0≤x.cX∧x.cX≤50000)∧(0≤x.dr∧x.dr≤x.cX)∧(0≤x.iq∧x.iq≤15)∧(-1≤x.bm∧x.bm≤7)∧x.bF.length≤4))):=by
  intro x
  have e5:decide (len x.bF>4)=decide (¬x.bF.length≤4):=by rw[decide_eq_decide];unfold len;omega
  rw[e5]
  simp only[aqF]
  by_cases h1:0≤x.cX∧x.cX≤50000
  case neg=>rw[dF h1,dT (c:=¬(_∧_)) (fun h=>h1 h.1)];rfl
  by_cases h2:0≤x.dr∧x.dr≤x.cX
  case neg=>rw[dT h1,dF h2,dT (c:=¬(_∧_)) (fun h=>h2 h.2.1)];rfl
  by_cases h3:0≤x.iq∧x.iq≤15
  case neg=>rw[dT h1,dT h2,dF h3,dT (c:=¬(_∧_)) (fun h=>h3 h.2.2.1)];rfl
  by_cases h4: -1≤x.bm∧x.bm≤7
  case neg=>rw[dT h1,dT h2,dT h3,dF h4,dT (c:=¬(_∧_)) (fun h=>h4 h.2.2.2.1)];rfl
  rw[dT h1,dT h2,dT h3,dT h4]
  by_cases h5:x.bF.length≤4
  · rw[dF (c:=¬x.bF.length≤4) (fun h=>h h5),dF (c:=¬(_∧_)) (fun h=>h ⟨h1,h2,h3,h4,h5⟩)];rfl
  · rw[dT (c:=¬x.bF.length≤4) h5,dT (c:=¬(_∧_)) (fun h=>h5 h.2.2.2.2)];rfl
 have Uo:∀k,Iv (gt b.ai k).bF k↔¬∃i,i<(gt b.ai k).bF.length∧¬((0≤gt (gt b.ai k).bF i∧gt (gt b.ai k).bF i≤(k:Int)-1)∧(0<i→gt (gt b.ai k).bF (i-1)<gt (gt b.ai k).bF i)):=
  fun k=>⟨fun h ⟨i,hi,hn⟩=>hn (h i hi),fun h i hi=>aq6 fun hn=>h ⟨i,hi,hn⟩⟩
 have h:ay (yn b) 0=some (if ∃k,k<b.ai.length∧¬iL (gt b.ai k) k then .inr false else .inl ()):=by
  refine arO (kB (r:= .inr false) (e:= .inl ()) (step:=yn b) (fun k=>(k:Int)) b.ai.length (fun k=>¬iL (gt b.ai k) k) (fun k hk hp=> ?_) (fun k hk hp=> ?_) (by simp only[yn,bl,aqG,if_false])) (by congr)
  · obtain⟨h1,h2⟩:=arF.1 hp
    simp only[yn,aQ hk,if_true,az hk,aqF,lI]
    have:=bD (gt b.ai k)
    simp only[aqF] at this
    rw[this,dF (c:=¬(_∧_)) (fun h=>h h2)]
    simp only[aqF,aqG,if_false]
    rw[dQ k hk,if_neg ((Uo k).1 h1)]
    simp only[aqF,aqI,aU (show k<1000000000000000000 by omega)]
  · simp only[yn,aQ hk,if_true,az hk,aqF,lI]
    have:=bD (gt b.ai k)
    simp only[aqF] at this
    rw[this]
    by_cases h2:(0≤(gt b.ai k).cX∧(gt b.ai k).cX≤50000)∧(0≤(gt b.ai k).dr∧(gt b.ai k).dr≤(gt b.ai k).cX)∧(0≤(gt b.ai k).iq∧(gt b.ai k).iq≤15)∧(-1≤(gt b.ai k).bm∧(gt b.ai k).bm≤7)∧(gt b.ai k).bF.length≤4
    · rw[dF (c:=¬(_∧_)) (fun h=>h h2)]
      simp only[aqF,aqG,if_false]
      rw[dQ k hk,if_pos (aq6 fun hn=>hp ⟨(Uo k).2 hn,h2⟩)]
      rfl
    · rw[dT (c:=¬(_∧_)) h2]
      rfl
 unfold GC
 rw[h,aqF]
 by_cases g:∃k,k<b.ai.length∧¬iL (gt b.ai k) k
 · rw[if_pos g,dF (c:=∀k,k<b.ai.length→iL (gt b.ai k) k) (fun h=>by obtain⟨k,hk,hn⟩:=g;exact hn (h k hk))];rfl
 · rw[if_neg g,dT (c:=∀k,k<b.ai.length→iL (gt b.ai k) k) (fun k hk=>aq6 fun h=>g ⟨k,hk,h⟩)];rfl
theorem ad0{b:aj}(hs:bP b):GK b=some (jL b):=by
 unfold GK jL
 by_cases h1:1≤b.ak∧b.ak≤6
 case neg=>
  have hn:¬dS b:=fun h=>h1 h.fe
  by_cases U7:b.ak<1
  · simp[U7,hn]
  · have h1b:b.ak>6:=by omega
    simp[U7,h1b,hn]
 have a1:decide (b.ak<1)=false:=dF (by omega)
 have a2:decide (b.ak>6)=false:=dF (by omega)
 by_cases h2:b.ad.length≤24
 case neg=>
  have:¬dS b:=fun h=>h2 h.bV
  have e:decide (len b.ad>24)=true:=dT (by unfold len;omega)
  simp[a1,a2,this,e]
 have a3:decide (len b.ad>24)=false:=dF (by unfold len;omega)
 by_cases h3:b.aa.length≤8
 case neg=>
  have:¬dS b:=fun h=>h3 h.src
  have e:decide (len b.aa>8)=true:=dT (by unfold len;omega)
  simp[a1,a2,a3,this,e]
 have a4:decide (len b.aa>8)=false:=dF (by unfold len;omega)
 by_cases h4:b.ai.length≤16
 case neg=>
  have:¬dS b:=fun h=>h4 h.eL
  have e:decide (len b.ai>16)=true:=dT (by unfold len;omega)
  simp[a1,a2,a3,a4,this,e]
 have a5:decide (len b.ai>16)=false:=dF (by unfold len;omega)
 have hl:dS b:=⟨h1,h2,h3,h4⟩
 simp only[a1,a2,a3,a4,a5,aqG,if_false,aqF,ad1 hl,adQ hl,adZ hl hs,if_pos hl]
 by_cases g1:bn b
 case neg=>rw[dF g1,if_neg (fun h:mw b=>g1 h.1)];rfl
 by_cases g2:∀k,k<b.aa.length→i_ (gt b.aa k)
 case neg=>rw[dT g1,dF g2,if_neg (fun h:mw b=>g2 h.2.2.2.1)];rfl
 by_cases g3:∀k,k<b.ai.length→iL (gt b.ai k) k
 case neg=>rw[dT g1,dT g2,dF g3,if_neg (fun h:mw b=>g3 h.2.2.2.2)];rfl
 rw[dT g1,dT g2,dT g3]
 simp only[aqW,aqG,if_false]
 by_cases g4:b.aG<0
 · rw[dT g4,if_neg (fun h:mw b=>by have:=h.2.1;omega)];rfl
 by_cases g5:b.aG>1800
 · rw[dF g4,dT g5,if_neg (fun h:mw b=>by have:=h.2.1;omega)];rfl
 by_cases g6:b.aB<0
 · rw[dF g4,dF g5,dT g6,if_neg (fun h:mw b=>by have:=h.2.2.1;omega)];rfl
 by_cases g7:b.aB>6000
 · rw[dF g4,dF g5,dF g6,dT g7,if_neg (fun h:mw b=>by have:=h.2.2.1;omega)];rfl
 rw[dF g4,dF g5,dF g6,dF g7,if_pos (show mw b from⟨g1,by omega,by omega,g2,g3⟩)]
 rfl
end Rx
namespace Rx
open Classical
theorem RT(x y:Part):GL x y=some (decide (before x y)):=by
 unfold GL before
 by_cases h1:x.Kind<y.Kind
 · simp[h1]
 · by_cases h2:x.Kind=y.Kind
   · by_cases h3:x.Number<y.Number<;>simp[h1,h2,h3]
   · simp[h1,h2]
def mg(p:ae)(l:List Int):Nat:=(l.filter fun k=>gt p.aq k.toNat).length
theorem VV(p:ae)(l m:List Int):mg p (l++m)=mg p l+mg p m:=by unfold mg;rw[arK,aqY]
theorem alf(p:ae)(l:List Int):mg p l≤l.length:=ar1 _ _
theorem alg(b:aj)(p:ae)(j:Nat)(n:Nat):mg p (a_ (cW b 3 (j:Int)) n)=cI b p (j:Int) n:=by
 induction n with
 |zero=>rfl
 |succ n ih=>
  rw[kU,VV,ih]
  show cI b p (j:Int) n+_=cI b p (j:Int) n+_
  congr 1
  by_cases h:cW b 3 (j:Int) n=true
  · obtain⟨h1,h2⟩:=Gu.1 h
    rw[if_pos h]
    cases h3:gt p.aq n<;>simp[mg,h1,h2,h3]
  · rw[if_neg h,if_neg (fun hh=>h (Gu.2 ⟨hh.1,hh.2.1⟩))]
    rfl
theorem RQ{b:aj}{p:ae}(hc:p.aq.length=b.ad.length)(hs:Sm b.ad)(j:Nat):ay (yr p (a_ (cW b 3 (j:Int)) b.ad.length)) (0,0)=some (cI b p (j:Int) b.ad.length:Int):=by
 generalize hl:a_ (cW b 3 (j:Int)) b.ad.length=l
 have hll:l.length≤b.ad.length:=hl▸ky _ _
 have fk:∀k,k<l.length→∃i:Nat,gt l k=(i:Int)∧i<p.aq.length:=fun k hk=>by
  have h1:gt l k∈a_ (cW b 3 (j:Int)) b.ad.length:=by rw[hl];exact cV hk
  obtain⟨i,hi,_,e⟩:=r_.1 h1
  exact⟨i,e,by omega⟩
 have df:Sm l:=by unfold Sm at hs⊢;omega
 have h:=dE (step:=yr p l) (fun k=>((mg p (l.take k):Int),(k:Int))) l.length (r:=(mg p l:Int))
  (fun k hk=>by
    obtain⟨i,e,hi⟩:=fk k hk
    have hle:=alf p (l.take k)
    have FU:(l.take k).length≤k:=by simp;omega
    simp only[yr,aQ hk,if_true,az hk,e,az hi,aqF,aU (cM df hk),iM hk,VV]
    cases h3:gt p.aq i with
    |true=>
     have:mg p [(i:Int)]=1:=by simp[mg,h3]
     simp only[if_true,aqF,this]
     rw[aU (show mg p (l.take k)<1000000000000000000 by have:=cM df hk;omega)]
    |false=>
     have:mg p [(i:Int)]=0:=by simp[mg,h3]
     simp only[aqG,if_false,aqF,this,Nat.add_zero])
  (by simp only[yr,bl,aqG,if_false,arw])
 have h':ay (yr p l) (0,0)=_:=h
 rw[h',←hl,alg]
theorem AE{b:aj}{p:ae}(hb:bP b)(hp:bA p):sT b p=some (aJ b p):=by
 unfold sT aJ
 rw[ad0 hb]
 simp only[aqF]
 by_cases h0:jL b=0
 case neg=>simp[h0]
 have hL:=(vJ.1 h0).1
 have h3:=hL.eL
 have e0:(jL b !=0)=false:=by simp[h0]
 simp only[e0,aqG,if_false,if_pos h0]
 by_cases h1:p.aq.length=b.ad.length
 case neg=>
  have:¬Shape b p:=fun h=>h1 h.1
  have e:(len p.aq !=len b.ad)=true:=by simp[len];omega
  simp[e,this]
 by_cases h2:p.aa.length=b.aa.length
 case neg=>
  have:¬Shape b p:=fun h=>h2 h.2.1
  have e1:(len p.aq !=len b.ad)=false:=by simp[len,h1]
  have e:(len p.aa !=len b.aa)=true:=by simp[len];omega
  simp[e,e1,this]
 by_cases h4:p.aE.length=b.ai.length
 case neg=>
  have:¬Shape b p:=fun h=>h4 h.2.2
  have e1:(len p.aq !=len b.ad)=false:=by simp[len,h1]
  have e2:(len p.aa !=len b.aa)=false:=by simp[len,h2]
  have e:(len p.aE !=len b.ai)=true:=by simp[len];omega
  simp[e,e1,e2,this]
 have kE:Shape b p:=⟨h1,h2,h4⟩
 have e1:(len p.aq !=len b.ad)=false:=by simp[len,h1]
 have e2:(len p.aa !=len b.aa)=false:=by simp[len,h2]
 have e3:(len p.aE !=len b.ai)=false:=by simp[len,h4]
 have l1:ay (yw p) 0=some (if ∃k,k<p.aa.length∧¬dq (gt p.aa k) then .inr 11 else .inl ()):=by
  have df:=hp.2.1
  refine arO (kB (r:= .inr 11) (e:= .inl ()) (step:=yw p) (fun k=>(k:Int)) p.aa.length (fun k=>¬dq (gt p.aa k)) (fun k hk hq=> ?_) (fun k hk hq=> ?_) (by simp only[yw,bl,aqG,if_false])) (by congr)
  · obtain⟨q1,q2,q3,q4⟩:=arF.1 hq
    simp only[yw,aQ hk,if_true,az hk,aqF,lI,dT q1,dT q2,dT q3,dT q4,aqW,aqG,if_false,aU (cM df hk)]
  · simp only[yw,aQ hk,if_true,az hk,aqF,lI]
    by_cases q1:0≤(gt p.aa k).State∧(gt p.aa k).State≤3
    case neg=>simp[q1]
    by_cases q2:0≤(gt p.aa k).ew∧(gt p.aa k).ew≤2147483648
    case neg=>simp[q1,q2]
    by_cases q3:0≤(gt p.aa k).aB∧(gt p.aa k).aB≤6000
    case neg=>simp[q1,q2,q3]
    have q4:¬(0≤(gt p.aa k).aG∧(gt p.aa k).aG≤3599):=fun h=>hq ⟨q1,q2,q3,h⟩
    simp[q1,q2,q3,q4]
 have l2:ay (yv b p) 0=some (if ∃k,k<p.aE.length∧¬(0≤gt p.aE k∧gt p.aE k≤(gt b.ai k).cX) then .inr 11 else .inl ()):=by
  have df:=hp.2.2.1
  refine arO (kB (r:= .inr 11) (e:= .inl ()) (step:=yv b p) (fun k=>(k:Int)) p.aE.length (fun k=>¬(0≤gt p.aE k∧gt p.aE k≤(gt b.ai k).cX)) (fun k hk hq=> ?_) (fun k hk hq=> ?_) (by simp only[yv,bl,aqG,if_false])) (by congr)
  · simp only[yv,aQ hk,if_true,az hk,az (show k<b.ai.length by omega),aqF,lI,dT (arF.1 hq),aqW,aqG,if_false,aU (cM df hk)]
  · simp only[yv,aQ hk,if_true,az hk,az (show k<b.ai.length by omega),aqF,lI,dF hq,ard]
 have l3:ay (yu b p) 0=some (if ∃k,k<p.aA.length∧¬kO b p.aA k then .inr 11 else .inl ()):=by
  have df:=hp.2.2.2
  refine arO (kB (r:= .inr 11) (e:= .inl ()) (step:=yu b p) (fun k=>(k:Int)) p.aA.length (fun k=>¬kO b p.aA k) (fun k hk hq=> ?_) (fun k hk hq=> ?_) (by simp only[yu,bl,aqG,if_false])) (by congr)
  · obtain⟨q1,q2⟩:=arF.1 hq
    simp only[yu,aQ hk,if_true,az hk,aqF,exists_eq hL,dT q1,aqW,aqG,if_false]
    by_cases lp:0<k
    · rw[dT (c:=(k:Int)>0) (by omega)]
      simp only[if_true,o0 (cM df hk) lp,az (show k-1<p.aA.length by omega),aqF,RT,dT (q2 lp),aqW,aqG,if_false,aU (cM df hk)]
    · rw[dF (c:=(k:Int)>0) (by omega)]
      simp only[aqG,if_false,aqF,aU (cM df hk)]
  · simp only[yu,aQ hk,if_true,az hk,aqF,exists_eq hL]
    by_cases q1:0≤(gt p.aA k).Number∧(gt p.aA k).Number≤bsize b (gt p.aA k).Kind-1
    · have q2:0<k∧¬before (gt p.aA (k-1)) (gt p.aA k):=by
       by_cases lp:0<k
       · exact⟨lp,fun h=>hq ⟨q1,fun _=>h⟩⟩
       · exact(hq ⟨q1,fun h=>(lp h).elim⟩).elim
      rw[dT q1,dT (c:=(k:Int)>0) (by omega)]
      simp only[aqW,aqG,if_false,if_true,o0 (cM df hk) q2.1,az (show k-1<p.aA.length by omega),aqF,RT,dF q2.2,ard]
    · rw[dF q1]
      simp only[ard,if_true,aqF]
 have l4:ay (yt b p) 0=some (if ∃k,k<b.ai.length∧¬cI b p (k:Int) b.ad.length≤1 then .inr 11 else .inl ()):=by
  refine arO (kB (r:= .inr 11) (e:= .inl ()) (step:=yt b p) (fun k=>(k:Int)) b.ai.length (fun k=>¬cI b p (k:Int) b.ad.length≤1) (fun k hk hq=> ?_) (fun k hk hq=> ?_) (by simp only[yt,bl,aqG,if_false])) (by congr)
  · simp only[yt,aQ hk,if_true,rS hb.1,aqF,RQ h1 hb.1,dF (c:=(cI b p (k:Int) b.ad.length:Int)>1) (by omega),aqG,if_false,aU (show k<1000000000000000000 by omega)]
  · simp only[yt,aQ hk,if_true,rS hb.1,aqF,RQ h1 hb.1,dT (c:=(cI b p (k:Int) b.ad.length:Int)>1) (by omega)]
 simp only[e1,e2,e3,aqG,if_false,aqF,if_pos kE,l1,l2,l3,l4]
 by_cases g1:∃k,k<p.aa.length∧¬dq (gt p.aa k)
 · rw[if_pos g1,if_neg (fun h:qh b p=>by obtain⟨k,hk,hn⟩:=g1;exact hn (h.2.1 k hk))];rfl
 rw[if_neg g1,aqI]
 by_cases g2:∃k,k<p.aE.length∧¬(0≤gt p.aE k∧gt p.aE k≤(gt b.ai k).cX)
 · rw[if_pos g2,if_neg (fun h:qh b p=>by obtain⟨k,hk,hn⟩:=g2;exact hn (h.2.2 k hk).1)];rfl
 rw[if_neg g2,aqI]
 by_cases g3:p.aA.length≤32
 case neg=>rw[dT (c:=len p.aA>32) (by unfold len;omega),if_neg (fun h:qh b p=>g3 h.1.2)];rfl
 rw[dF (c:=len p.aA>32) (by unfold len;omega)]
 simp only[aqG,if_false]
 by_cases g4:∃k,k<p.aA.length∧¬kO b p.aA k
 · rw[if_pos g4,if_neg (fun h:qh b p=>by obtain⟨k,hk,hn⟩:=g4;exact hn (h.1.1 k hk))];rfl
 rw[if_neg g4,aqI]
 by_cases g5:∃k,k<b.ai.length∧¬cI b p (k:Int) b.ad.length≤1
 · rw[if_pos g5,if_neg (fun h:qh b p=>by obtain⟨k,hk,hn⟩:=g5;exact hn (h.2.2 k (by omega)).2)];rfl
 rw[if_neg g5,aqI,if_pos (show qh b p from⟨⟨fun k hk=>aq6 fun h=>g4 ⟨k,hk,h⟩,g3⟩,fun k hk=>aq6 fun h=>g1 ⟨k,hk,h⟩,fun k hk=>⟨aq6 fun h=>g2 ⟨k,hk,h⟩,aq6 fun h=>g5 ⟨k,by omega,h⟩⟩⟩)]
end Rx
namespace Rx
open Classical
def jj(b:aj)(p:ae)(m:List Bool)(k:Nat):List Bool:=
 if(gt b.ad k).Kind=1∧gt p.aq k=true∧(gt m (gt b.ad k).A.toNat=true∨gt m (gt b.ad k).B.toNat=true) then(m.set (gt b.ad k).A.toNat true).set (gt b.ad k).B.toNat true else m
def kA(b:aj)(p:ae)(m:List Bool):Nat→List Bool
 |0=>m
 |k+1=>jj b p (kA b p m k) k
def ov(b:aj)(p:ae)(m:List Bool):Nat→List Bool
 |0=>m
 |r+1=>kA b p (ov b p m r) b.ad.length
theorem afw(b:aj)(p:ae)(m:List Bool)(k:Nat):(jj b p m k).length=m.length:=by unfold jj;split<;>simp
theorem AX(b:aj)(p:ae)(m:List Bool)(k:Nat):(kA b p m k).length=m.length:=by
 induction k with
 |zero=>rfl
 |succ k ih=>unfold kA;rw[afw,ih]
theorem Fi(b:aj)(p:ae)(m:List Bool)(r:Nat):(ov b p m r).length=m.length:=by
 induction r with
 |zero=>rfl
 |succ r ih=>unfold ov;rw[AX,ih]
section
variable {b:aj} {p:ae}
theorem KX(hb:bn b){m:List Bool}(hm:m.length=b.ak.toNat){k:Nat}(hk:k<b.ad.length)(i:Nat):gt (jj b p m k) i=if(gt b.ad k).Kind=1∧gt p.aq k=true∧(gt m (gt b.ad k).A.toNat=true∨gt m (gt b.ad k).B.toNat=true)∧(i=(gt b.ad k).A.toNat∨i=(gt b.ad k).B.toNat) then true else gt m i:=by
 unfold jj
 by_cases h:(gt b.ad k).Kind=1∧gt p.aq k=true∧(gt m (gt b.ad k).A.toNat=true∨gt m (gt b.ad k).B.toNat=true)
 · obtain⟨e1,e2,_,_⟩:=ub hb hk h.1
   rw[if_pos h,dz (by simp;omega),dz (by omega)]
   by_cases hi:i=(gt b.ad k).B.toNat
   · rw[if_pos hi,if_pos ⟨h.1,h.2.1,h.2.2,.inr hi⟩]
   · rw[if_neg hi]
     by_cases cF:i=(gt b.ad k).A.toNat
     · rw[if_pos cF,if_pos ⟨h.1,h.2.1,h.2.2,.inl cF⟩]
     · rw[if_neg cF,if_neg (fun hh=>hh.2.2.2.elim cF hi)]
 · rw[if_neg h,if_neg (fun hh=>h ⟨hh.1,hh.2.1,hh.2.2.1⟩)]
theorem afv(hb:bn b){m:List Bool}(hm:m.length=b.ak.toNat){k:Nat}(hk:k<b.ad.length){i:Nat}(h:gt m i=true):gt (jj b p m k) i=true:=by
 rw[KX hb hm hk]
 split
 · rfl
 · exact h
theorem Fg(hb:bn b){m:List Bool}(hm:m.length=b.ak.toNat){i:Nat}(k:Nat):∀d,k+d≤b.ad.length→gt (kA b p m k) i=true→gt (kA b p m (k+d)) i=true
 |0,_,h=>h
 |d+1,hd,h=>afv hb (by rw[AX,hm]) (show k+d<b.ad.length by omega) (Fg hb hm k d (by omega) h)
theorem afx(hb:bn b){m:List Bool}(hm:m.length=b.ak.toNat){i j:Nat}(h:gt m i=true)(ht:gQ b p i j):gt (kA b p m b.ad.length) j=true:=by
 obtain⟨k,hk,h1,h2,h3⟩:=ht
 have e:=ub hb hk h1
 have hi:=Fg (p:=p) hb hm 0 k (by omega) h
 rw[arD] at hi
 have hj:gt (kA b p m (k+1)) j=true:=by
  show gt (jj b p (kA b p m k) k) j=true
  rw[KX hb (by rw[AX,hm]) hk,if_pos]
  refine⟨h1,h2, ?_, ?_⟩
  · rcases h3 with h3|h3
    · exact .inl (by rw[show(gt b.ad k).A.toNat=i from by omega];exact hi)
    · exact .inr (by rw[show(gt b.ad k).B.toNat=i from by omega];exact hi)
  · omega
 have:=Fg hb hm (k+1) (b.ad.length-(k+1)) (by omega) hj
 rwa[show k+1+(b.ad.length-(k+1))=b.ad.length from by omega] at this
theorem SF(hb:bn b){m:List Bool}(hm:m.length=b.ak.toNat){s:Nat}(h:∀i,gt m i=true→fM (gQ b p) s i):∀k,k≤b.ad.length→∀i,gt (kA b p m k) i=true→fM (gQ b p) s i
 |0,_,i,hi=>h i hi
 |k+1,hk,i,hi=>by
  have ih:=SF hb hm h k (by omega)
  have ck:gt (jj b p (kA b p m k) k) i=true:=hi
  rw[KX hb (by rw[AX,hm]) (by omega)] at ck
  split at ck
  · rename_i hc
    obtain⟨h1,h2,h3,h4⟩:=hc
    have e:=ub hb (show k<b.ad.length by omega) h1
    have ht:gQ b p (gt b.ad k).A.toNat (gt b.ad k).B.toNat:=⟨k,by omega,h1,h2,.inl ⟨e.2.2.1,e.2.2.2⟩⟩
    rcases h3 with h3|h3
    · have c:=ih _ h3
      rcases h4 with rfl|rfl
      · exact c
      · exact c.trans (.one ht)
    · have c:=ih _ h3
      rcases h4 with rfl|rfl
      · exact c.trans (.one ht.symm)
      · exact c
  · exact ih i ck
theorem SH(hb:bn b){m:List Bool}(hm:m.length=b.ak.toNat){s:Nat}(h:∀i,gt m i=true→fM (gQ b p) s i):∀r i,gt (ov b p m r) i=true→fM (gQ b p) s i
 |0,i,hi=>h i hi
 |r+1,i,hi=>SF hb (by rw[Fi,hm]) (SH hb hm h r) _ (aqM _) i hi
theorem KY(hb:bn b){m:List Bool}(hm:m.length=b.ak.toNat){s:Nat}(h:gt m s=true):∀r j,eU (gQ b p) r s j→gt (ov b p m r) j=true
 |0,j,w=>by rw[←w.zero];exact h
 |r+1,j,w=>by
  have hl:(ov b p m r).length=b.ak.toNat:=by rw[Fi,hm]
  rcases w.last with h1|⟨i,h1,h2⟩
  · have:=Fg (p:=p) hb hl 0 b.ad.length (by omega) (KY hb hm h r j h1)
    rw[arD] at this
    exact this
  · exact afx hb hl (KY hb hm h r i h1) h2
def iQ(n s:Nat):List Bool:=(aqS n false).set s true
theorem afp(hb:bn b){s:Nat}(hs:s<b.ak.toNat){j:Nat}:gt (ov b p (iQ b.ak.toNat s) b.ak.toNat) j=true↔fM (gQ b p) s j:=by
 have hm:(iQ b.ak.toNat s).length=b.ak.toNat:=by simp[iQ]
 have h0:gt (iQ b.ak.toNat s) s=true:=by unfold iQ;rw[dz (by simpa using hs),if_pos rfl]
 constructor
 · refine SH hb hm (fun i hi=> ?_) _ j
   unfold iQ at hi
   rw[dz (by simpa using hs)] at hi
   by_cases Uj:i=s
   · subst Uj;exact .refl _
   · rw[if_neg Uj] at hi
     by_cases kh:i<b.ak.toNat
     · rw[sO kh] at hi;cases hi
     · unfold gt at hi
       simp[List.getD_eq_getElem?_getD,kh] at hi
 · intro h
   have hw:=(h.walk (n:=b.ak.toNat) (fun i j h=>(h.lt hb).2) hs).more (r':=b.ak.toNat) (by omega)
   exact KY hb hm h0 _ _ hw
theorem aev{P Q:Nat→Bool}{n:Nat}(h:∀i,i<n→P i=Q i):a_ P n=a_ Q n:=by
 unfold a_
 rw[List.filter_congr fun x hx=>h x (aqV.1 hx)]
theorem ad2(hb:bn b)(hs:Sm b.ad)(hc:p.aq.length=b.ad.length){m:List Bool}(hm:(m.length:Int)=b.ak):ay (B0 b p) ((0:Int),m)=some (kA b p m b.ad.length):=by
 refine dE (step:=B0 b p) (fun k=>((k:Int),kA b p m k)) b.ad.length (fun k hk=> ?_) (by simp only[B0,bl,aqG,if_false])
 have fS:=hb.1 k hk
 have hl:=AX b p m k
 have ag':kA b p m (k+1)=jj b p (kA b p m k) k:=rfl
 simp only[B0,aQ hk,if_true,az hk,az (show k<p.aq.length by omega),aqF,aU (cM hs hk),ag']
 generalize kA b p m k=q at hl⊢
 by_cases h1:(gt b.ad k).Kind=1
 case neg=>
  have e0:jj b p q k=q:=by unfold jj;rw[if_neg (fun h=>h1 h.1)]
  simp only[bY h1,e0,aqG,if_false,aqF]
 cases h2:gt p.aq k with
 |false=>
  have e0:jj b p q k=q:=by unfold jj;rw[if_neg (fun h=>by rw[h2] at h;exact absurd h.2.1 (by simp))]
  simp only[eh h1,e0,if_true,aqG,if_false,aqF]
 |true=>
  have e:=ub hb hk h1
  have iA:∀x:List Bool,x.length=q.length→idx x (gt b.ad k).A=some (gt x (gt b.ad k).A.toNat):=fun x hx=>fQ (by omega) (by omega)
  have iB:∀x:List Bool,x.length=q.length→idx x (gt b.ad k).B=some (gt x (gt b.ad k).B.toNat):=fun x hx=>fQ (by omega) (by omega)
  have sA:∀x:List Bool,x.length=q.length→cm x (gt b.ad k).A true=some (x.set (gt b.ad k).A.toNat true):=fun x hx=>wT (by omega) (by omega)
  have sB:∀x:List Bool,x.length=q.length→cm x (gt b.ad k).B true=some (x.set (gt b.ad k).B.toNat true):=fun x hx=>wT (by omega) (by omega)
  simp only[eh h1,if_true,aqF,iA q rfl,iB q rfl,sA q rfl,iB (q.set (gt b.ad k).A.toNat true) (by simp),sB (q.set (gt b.ad k).A.toNat true) (by simp)]
  cases h3:gt q (gt b.ad k).A.toNat with
  |true=>
   have e0:jj b p q k=(q.set (gt b.ad k).A.toNat true).set (gt b.ad k).B.toNat true:=by unfold jj;rw[if_pos ⟨h1,h2,.inl h3⟩]
   simp only[if_true,aqF,e0]
  |false=>
   cases h4:gt q (gt b.ad k).B.toNat with
   |true=>
    have e0:jj b p q k=(q.set (gt b.ad k).A.toNat true).set (gt b.ad k).B.toNat true:=by unfold jj;rw[if_pos ⟨h1,h2,.inr h4⟩]
    simp only[if_true,aqG,if_false,aqF,e0]
   |false=>
    have e0:jj b p q k=q:=by unfold jj;rw[if_neg (fun h=>by rcases h.2.2 with h|h<;>simp[h3,h4] at h)]
    simp only[aqG,if_false,aqF,e0]
theorem ad3(hl:dS b)(hb:bn b)(hs:Sm b.ad)(hc:p.aq.length=b.ad.length){k:Int}(h0:0≤k)(h1:k<b.ak):GB b p k=some (aW b p k).ak:=by
 have jI:=hl.fe
 obtain⟨n,hn⟩:=ara (show 0≤b.ak by omega)
 obtain⟨s,hk⟩:=ara h0
 subst hk
 have hsn:s<n:=by omega
 have sD:b.ak.toNat=n:=by omega
 have FQ:(iQ n s).length=n:=by simp[iQ]
 have bD:(aqS n false).set s true=iQ n s:=rfl
 have l1:ay (B1 b p (iQ n s)) ((0:Int),iQ n s)=some (ov b p (iQ n s) n):=by
  refine dE (step:=B1 b p (iQ n s)) (fun k=>((k:Int),ov b p (iQ n s) k)) n (fun k hk=> ?_) ?_
  · have e1:decide ((k:Int)<len (iQ n s))=true:=dT (by unfold len;omega)
    have iT:=Fi b p (iQ n s) k
    simp only[B1,e1,if_true,ad2 hb hs hc (m:=ov b p (iQ n s) k) (by omega),aqF,aU (show k<1000000000000000000 by omega)]
    rfl
  · have e1:decide ((n:Int)<len (iQ n s))=false:=dF (by unfold len;omega)
    simp only[B1,e1,aqG,if_false]
 have l3:∀m:List Bool,m.length=n→ay (BZ m) ((0:Int),[])=some (a_ (fun j=>gt m j) n):=by
  intro m hm
  refine dE (step:=BZ m) (fun k=>((k:Int),a_ (fun j=>gt m j) k)) n (fun k hk=> ?_) ?_
  · have iT:=ky (fun j=>gt m j) k
    have q_:bq (a_ (fun j=>gt m j) k) [(k:Int)]=some (a_ (fun j=>gt m j) k++[(k:Int)]):=cp (by simp;omega)
    simp only[BZ,aQ (show k<m.length by omega),if_true,az (show k<m.length by omega),aqF,kU,q_,aU (show k<1000000000000000000 by omega)]
    cases gt m k<;>simp
  · have e1:decide ((n:Int)<len m)=false:=dF (by unfold len;omega)
    simp only[BZ,e1,aqG,if_false]
 unfold GB
 rw[hn,ur (by omega)]
 have iT:(aqS n false).length=n:=by simp
 have Ua:=Fi b p (iQ n s) n
 rw[FQ] at Ua
 simp only[aqF,asi,az (show s<(aqS n false).length by omega),fg (show s<(aqS n false).length by omega),bD,l1,l3 _ Ua]
 have Ut:=vr (p:=p) hb (show s<b.ak.toNat by omega)
 show some _=some (a_ (fy b p (gt (bu b p) ((s:Int)).toNat).toNat) b.ak.toNat)
 rw[sD,aq8]
 congr 1
 refine aev fun i hi=> ?_
 have h4:=afp (p:=p) hb (s:=s) (j:=i) (by omega)
 have h5:=Vb (p:=p) hb (i:=i) (j:=s) (by omega) (by omega)
 rw[sD] at h4
 have TR:∀i j,gQ b p i j→gQ b p j i:=fun _ _ h=>h.symm
 have h6:gt (ov b p (iQ n s) n) i=true↔fy b p (gt (bu b p) s).toNat i=true:=by
  rw[h4]
  unfold fy
  rw[beq_iff_eq,show(((gt (bu b p) s).toNat:Nat):Int)=gt (bu b p) s from by omega,h5]
  exact⟨fun h=>h.symm TR,fun h=>h.symm TR⟩
 exact Bool.eq_iff_iff.2 h6
end
end Rx
namespace Rx
open Classical
theorem afQ{α:Type}[ab α](l:List α):(aqN l.length).map (gt l)=l:=by
 apply fp
 · simp
 · intro k hk
   have bH:k<l.length:=by simpa using hk
   rw[fV _ bH]
theorem akx{α:Type}[ab α](l:List α)(P:α→Bool):l.find? P=((aqN l.length).find? fun q=>P (gt l q)).map (gt l):=by
 have h:=congrArg (List.find? P) (afQ l)
 rw[List.find?_map] at h
 exact h.symm
theorem akw(F:Nat→Bool)(P:Int→Bool)(n:Nat):(a_ F n).find? P=((aqN n).find? fun k=>F k&&P (k:Int)).map Int.ofNat:=by
 unfold a_
 rw[List.find?_map,List.find?_filter]
 congr 2
 funext k
 simp
theorem Kt{P:Nat→Bool}{m:Nat}(hP:P m=true)(sE:∀i,i<m→P i=false):∀n,m<n→0<(a_ P n).length∧gt (a_ P n) 0=(m:Int)
 |0,h=>by omega
 |n+1,h=>by
  rw[kU]
  by_cases Mt:m<n
  · obtain⟨h1,h2⟩:=Kt hP sE n Mt
    exact⟨by simp;omega,by rw[Gk h1];exact h2⟩
  · have:m=n:=by omega
    subst this
    have h0:a_ P m=[]:=List.length_eq_zero_iff.1 (AN.2 sE)
    rw[h0,if_pos hP]
    exact⟨by simp,rfl⟩
section
variable {b:aj} {p:ae}
theorem Va(hb:bn b){k:Nat}(hk:k<b.ak.toNat):∃m:Nat,gt (bu b p) k=(m:Int)∧m≤k∧gt (bu b p) m=(m:Int):=by
 obtain⟨m,h1,h2,h3⟩:=Gm (p:=p) hb hk
 have Bu:m≤k:=h3 k (.refl _)
 refine⟨m,h1,Bu, ?_⟩
 rw[←h1]
 exact((Vb (p:=p) hb hk (by omega)).2 h2).symm
theorem agk(hb:bn b){k:Nat}(hk:k<b.ak.toNat):0<(aW b p (k:Int)).ak.length∧gt (aW b p (k:Int)).ak 0=gt (bu b p) k:=by
 obtain⟨m,h1,h2,h3⟩:=Va (p:=p) hb hk
 have he:aW b p (k:Int)=cn b p m:=by unfold aW;rw[aq8,h1,aq8]
 rw[he,h1]
 refine Kt (P:=fy b p m) (by unfold fy;rw[h3];simp) (fun i hi=> ?_) _ (by omega)
 unfold fy
 have:=(vr (p:=p) hb (show i<b.ak.toNat by omega)).2
 exact bY (by omega)
theorem agi(hb:bn b){k:Nat}(hk:k<b.ak.toNat):(cn b p k).ak.isEmpty=false↔gt (bu b p) k=(k:Int):=by
 constructor
 · intro h
   cases hl:(cn b p k).ak with
   |nil=>rw[hl] at h;cases h
   |cons x l=>
    obtain⟨i,h1,h2,h3⟩:=AW.1 (show x∈(cn b p k).ak by rw[hl];exact List.mem_cons_self)
    obtain⟨m,e1,e2,e3⟩:=Va (p:=p) hb h1
    have:m=k:=by omega
    subst this
    exact e3
 · intro h
   cases hl:(cn b p k).ak with
   |nil=>
    have:=AW (f:=k) (x:=(k:Int))|>.2 ⟨k,hk,h,rfl⟩
    rw[hl] at this
    cases this
   |cons _ _=>rfl
theorem ago:aT b p=((aqN b.ak.toNat).filter fun f=> !(cn b p f).ak.isEmpty).map (cn b p):=by
 unfold aT cO
 rw[List.filter_map]
 rfl
theorem adY(hb:bP b)(hp:bA p)(j:Int):GJ b p j=some (re b p j):=by
 unfold GJ re
 rw[AE hb hp]
 by_cases h:aJ b p=0
 case neg=>
  have:(aJ b p !=0)=true:=by simpa using h
  simp only[aqF,this,if_true,if_neg h]
 obtain⟨⟨hl,hg⟩,⟨s1,s2,s3⟩,_⟩:=bM.1 h
 have iS:=hl.src
 have h0:(aJ b p !=0)=false:=by simp[h]
 simp only[aqF,h0,aqG,if_false,if_pos h]
 unfold conn
 by_cases h1:j<0
 · have iG:¬(0≤j∧j≤(p.aa.length:Int)-1):=by omega
   rw[dT h1,if_neg iG];rfl
 rw[dF h1]
 by_cases h2:j≥(b.aa.length:Int)
 · have iG:¬(0≤j∧j≤(p.aa.length:Int)-1):=by omega
   rw[dT (c:=j≥len b.aa) h2,if_neg iG];rfl
 have Bc:0≤j∧j≤(p.aa.length:Int)-1:=by omega
 rw[dF (c:=j≥len b.aa) h2,if_pos Bc]
 obtain⟨i,rfl⟩:=ara (show 0≤j by omega)
 simp only[asi,aq8,aqG,if_false]
 rw[az (show i<p.aa.length by omega)]
 simp only[aqF]
 by_cases h3:(gt p.aa i).State=2
 case neg=>rw[if_neg h3,HR h3];rfl
 rw[if_pos h3,tv h3]
 simp only[aqG,if_false,rS hb.1,aqF]
 have hlen:=(xe.1 hg.1).2.1 i (by omega)
 obtain⟨⟨k,hk,li⟩,hu⟩:=AM.1 hlen
 have L7:∀q,q<b.ad.length→cW b 2 (i:Int) q=true→q=k:=fun q hq iU=>by
  rcases Nat.lt_trichotomy q k with aK|he|aK
  · exact(hu q k aK hk iU li).elim
  · exact he
  · exact(hu k q aK hq li iU).elim
 have hd:=Kt (P:=cW b 2 (i:Int)) li (fun q hq=>by
  cases iU:cW b 2 (i:Int) q with
  |false=>rfl
  |true=>have:=L7 q (by omega) iU;omega) b.ad.length hk
 have e0:idx (a_ (cW b 2 (i:Int)) b.ad.length) 0=some (k:Int):=by
  have:=az hd.1
  rw[hd.2] at this
  exact this
 rw[e0]
 simp only[aqF,az (show k<p.aq.length by omega),az hk]
 have qT:∀q,iE b p 2 (i:Int) q=(cW b 2 (i:Int) q&&gt p.aq q):=fun q=>by
  unfold iE cW
  simp
 unfold de
 cases hc:gt p.aq k with
 |false=>
  rw[NC (fun q hq=>by
   rw[qT]
   cases iU:cW b 2 (i:Int) q with
   |false=>rfl
   |true=>rw[L7 q hq iU,hc];rfl)]
  rfl
 |true=>
  cases hf:(aqN b.ad.length).find? (iE b p 2 (i:Int)) with
  |none=>
   have:=arB.1 hf k (aqV.2 hk)
   rw[qT,li,hc] at this
   simp at this
  |some q=>
   have hq:=aqV.1 (arH hf)
   have iU:=arN hf
   rw[qT,aqL] at iU
   rw[L7 q hq iU.1]
   rfl
theorem adW(hb:bP b)(hp:bA p){j:Int}(hj:0≤j∧j<b.ai.length):GH b p j=some (nO b p j):=by
 unfold GH nO
 rw[AE hb hp]
 by_cases h:aJ b p=0
 case neg=>
  have:(aJ b p !=0)=true:=by simpa using h
  simp only[aqF,this,if_true,if_neg h]
 obtain⟨⟨hl,hg⟩,⟨s1,s2,s3⟩,_⟩:=bM.1 h
 have jq:=hl.bV
 have h0:(aJ b p !=0)=false:=by simp[h]
 simp only[aqF,h0,aqG,if_false,if_pos h]
 rw[dF (c:=j<0) (by omega),dF (c:=j≥len b.ai) (by unfold len;omega)]
 simp only[aqG,if_false,rS hb.1,aqF]
 have ahQ:(a_ (cW b 3 j) b.ad.length).length≤b.ad.length:=ky _ _
 have vf:∀q,q<(a_ (cW b 3 j) b.ad.length).length→∃i:Nat,gt (a_ (cW b 3 j) b.ad.length) q=(i:Int)∧i<b.ad.length:=fun q hq=>by
  obtain⟨i,hi,_,e⟩:=r_.1 (cV hq)
  exact⟨i,e,hi⟩
 have pT:=akx (a_ (cW b 3 j) b.ad.length) (fun x=>gt p.aq x.toNat)
 rw[akw] at pT
 generalize a_ (cW b 3 j) b.ad.length=l at ahQ vf pT⊢
 have h1:=kZ (step:=yx b p l) (fun q=>(q:Int)) l.length (fun q=>gt p.aq (gt l q).toNat) (R:=fun q=> .inr ((gt b.ad (gt l q).toNat).A,true)) (e:= .inl ())
  (fun q hq iU=>by
    obtain⟨i,e,hi⟩:=vf q hq
    rw[e,aq8] at iU
    simp only[yx,aQ hq,if_true,az hq,e,az (show i<p.aq.length by omega),aqF,iU,aqG,if_false,aU (show q<1000000000000000000 by omega)])
  (fun q hq iU=>by
    obtain⟨i,e,hi⟩:=vf q hq
    rw[e,aq8] at iU
    simp only[yx,aQ hq,if_true,az hq,e,aq8,az (show i<p.aq.length by omega),az hi,aqF,iU])
  (by simp only[yx,bl,aqG,if_false])
 have iY:ay (yx b p l) 0=_:=h1
 rw[iY]
 have qT:iE b p 3 j=fun k=>cW b 3 j k&&gt p.aq ((k:Int)).toNat:=by
  funext q
  unfold iE cW
  simp
 unfold de
 rw[qT]
 cases hf:(aqN l.length).find? (fun q=>gt p.aq (gt l q).toNat) with
 |none=>
  rw[hf] at pT
  have:(aqN b.ad.length).find? (fun k=>cW b 3 j k&&gt p.aq ((k:Int)).toNat)=none:=by
   cases hx:(aqN b.ad.length).find? (fun k=>cW b 3 j k&&gt p.aq ((k:Int)).toNat) with
   |none=>rfl
   |some k=>rw[hx] at pT;cases pT
  rw[this]
  rfl
 |some q=>
  rw[hf] at pT
  cases hx:(aqN b.ad.length).find? (fun k=>cW b 3 j k&&gt p.aq ((k:Int)).toNat) with
  |none=>rw[hx] at pT;cases pT
  |some k=>
   rw[hx] at pT
   have e:(k:Int)=gt l q:=are pT
   simp only[aqF,aqJ]
   rw[←e,aq8]
theorem RP{k:Int}(hb:bn b)(hl:dS b)(h0:0≤k)(h1:k<b.ak){a:Int}(ha:0≤a∧a<b.ak):yA (aW b p k).ak a=some (gt (bu b p) a.toNat==(((gt (bu b p) k.toNat).toNat:Nat):Int)):=by
 have jI:=hl.fe
 have nG:=(qJ (b:=b) (p:=p) (gt (bu b p) k.toNat).toNat).1
 rw[has_eq (show Sm (aW b p k).ak by unfold Sm;show(cn b p _).ak.length≤_;omega)]
 congr 1
 rw[Bool.eq_iff_iff,decide_eq_true_iff,beq_iff_eq]
 show a∈(cn b p (gt (bu b p) k.toNat).toNat).ak↔_
 rw[AW]
 constructor
 · rintro⟨i,_,h,rfl⟩;rw[aq8];exact h
 · intro h;exact⟨a.toNat,by omega,h,by omega⟩
def E1(b:aj)(p:ae)(k:Int):Bool×List Int×List Int×List Int:=((cD b p k).2,(cD b p k).1.ak,(cD b p k).1.aa,(cD b p k).1.ai)
theorem adR(hb:bP b)(hp:bA p)(k:Int):GF b p k=some (E1 b p k):=by
 unfold GF E1 cD
 rw[AE hb hp]
 by_cases h:aJ b p=0
 case neg=>
  have:(aJ b p !=0)=true:=by simpa using h
  simp only[aqF,this,if_true,if_neg (fun hh:aJ b p=0∧_=>h hh.1)]
 obtain⟨⟨hl,hg⟩,⟨s1,s2,s3⟩,_⟩:=bM.1 h
 have iS:=hl.src
 have xZ:=hl.eL
 have h0:(aJ b p !=0)=false:=by simp[h]
 simp only[aqF,h0,aqG,if_false]
 by_cases h1:k<0
 · have iG:¬(aJ b p=0∧0≤k∧k<b.ak):=by omega
   rw[dT h1,if_neg iG];rfl
 rw[dF h1]
 by_cases h2:k≥b.ak
 · have iG:¬(aJ b p=0∧0≤k∧k<b.ak):=by omega
   rw[dT h2,if_neg iG];rfl
 have Bc:aJ b p=0∧0≤k∧k<b.ak:=⟨h,by omega,by omega⟩
 rw[dF h2,if_pos Bc]
 simp only[aqG,if_false]
 rw[ad3 hl hg.1 hb.1 s1 (by omega) (by omega)]
 simp only[aqF]
 have l1:ay (B4 b p (aW b p k).ak) ((0:Int),[])=some (aW b p k).aa:=by
  refine dE (step:=B4 b p (aW b p k).ak) (fun i=>((i:Int),a_ (eF b p (gt (bu b p) k.toNat).toNat) i)) b.aa.length (fun i hi=> ?_) (by simp only[B4,bl,aqG,if_false];rfl)
  have iT:=ky (eF b p (gt (bu b p) k.toNat).toNat) i
  have q_:bq (a_ (eF b p (gt (bu b p) k.toNat).toNat) i) [(i:Int)]=some (a_ (eF b p (gt (bu b p) k.toNat).toNat) i++[(i:Int)]):=cp (by simp;omega)
  have ec:re b p (i:Int)=conn b p (i:Int):=by unfold re;rw[if_pos h]
  simp only[B4,aQ hi,if_true,adY hb hp,ec,aqF,kU,q_,aU (show i<1000000000000000000 by omega)]
  cases hc:(conn b p (i:Int)).2 with
  |false=>
   have:eF b p (gt (bu b p) k.toNat).toNat i=false:=by unfold eF;rw[hc];rfl
   simp[this]
  |true=>
   have mW:=GZ hg.1 hc
   have:eF b p (gt (bu b p) k.toNat).toNat i=(gt (bu b p) (conn b p (i:Int)).1.toNat==(((gt (bu b p) k.toNat).toNat:Nat):Int)):=by unfold eF;rw[hc];rfl
   simp only[if_true,RP hg.1 hl (show 0≤k by omega) (show k<b.ak by omega) mW,aqF,this]
   cases(gt (bu b p) (conn b p (i:Int)).1.toNat==(((gt (bu b p) k.toNat).toNat:Nat):Int))<;>simp
 have l2:ay (B3 b p (aW b p k).ak) ((0:Int),[])=some (aW b p k).ai:=by
  refine dE (step:=B3 b p (aW b p k).ak) (fun i=>((i:Int),a_ (eT b p (gt (bu b p) k.toNat).toNat) i)) b.ai.length (fun i hi=> ?_) (by simp only[B3,bl,aqG,if_false];rfl)
  have iT:=ky (eT b p (gt (bu b p) k.toNat).toNat) i
  have q_:bq (a_ (eT b p (gt (bu b p) k.toNat).toNat) i) [(i:Int)]=some (a_ (eT b p (gt (bu b p) k.toNat).toNat) i++[(i:Int)]):=cp (by simp;omega)
  have ec:nO b p (i:Int)=de b p 3 (i:Int):=by unfold nO;rw[if_pos h]
  simp only[B3,aQ hi,if_true,adW hb hp (j:=(i:Int)) ⟨by omega,by omega⟩,ec,aqF,kU,q_,aU (show i<1000000000000000000 by omega)]
  cases hc:(de b p 3 (i:Int)).2 with
  |false=>
   have:eT b p (gt (bu b p) k.toNat).toNat i=false:=by unfold eT;rw[hc];rfl
   simp[this]
  |true=>
   have mW:=Lu hg.1 hc
   have:eT b p (gt (bu b p) k.toNat).toNat i=(gt (bu b p) (de b p 3 (i:Int)).1.toNat==(((gt (bu b p) k.toNat).toNat:Nat):Int)):=by unfold eT;rw[hc];rfl
   simp only[if_true,RP hg.1 hl (show 0≤k by omega) (show k<b.ak by omega) mW,aqF,this]
   cases(gt (bu b p) (de b p 3 (i:Int)).1.toNat==(((gt (bu b p) k.toNat).toNat:Nat):Int))<;>simp
 rw[l1,l2]
 rfl
theorem adS(hb:bP b)(hp:bA p)(h:aJ b p=0):GG b p=some (aT b p):=by
 obtain⟨⟨hl,hg⟩,⟨s1,s2,s3⟩,_⟩:=bM.1 h
 have jI:=hl.fe
 obtain⟨n,hn⟩:=ara (show 0≤b.ak by omega)
 have sD:b.ak.toNat=n:=by omega
 unfold GG
 rw[AE hb hp,h]
 simp only[aqF,bne_self_eq_false,aqG,if_false]
 have l1:ay (B5 b p) ((0:Int),[])=some (((aqN n).filter fun f=> !(cn b p f).ak.isEmpty).map (cn b p)):=by
  refine dE (step:=B5 b p) (fun k=>((k:Int),((aqN k).filter fun f=> !(cn b p f).ak.isEmpty).map (cn b p))) n (fun k hk=> ?_) ?_
  · have e1:decide ((k:Int)<b.ak)=true:=dT (by omega)
    have hof:E1 b p (k:Int)=(true,(aW b p (k:Int)).ak,(aW b p (k:Int)).aa,(aW b p (k:Int)).ai):=by
     unfold E1 cD
     rw[if_pos ⟨h,by omega,by omega⟩]
    obtain⟨F5,oN⟩:=agk (p:=p) hg.1 (show k<b.ak.toNat by omega)
    have e2:idx (aW b p (k:Int)).ak 0=some (gt (bu b p) k):=by
     have:=az F5
     rw[oN] at this
     exact this
    have hlen:(((aqN k).filter fun f=> !(cn b p f).ak.isEmpty).map (cn b p)).length≤k:=by
     rw[ar0]
     refine aq' (ar1 _ _) ?_
     simp
    have q_:∀x:aR,bq (((aqN k).filter fun f=> !(cn b p f).ak.isEmpty).map (cn b p)) [x]=some ((((aqN k).filter fun f=> !(cn b p f).ak.isEmpty).map (cn b p))++[x]):=fun x=>cp (by simp only[List.length_singleton];omega)
    simp only[B5,e1,if_true,adR hb hp,hof,aqF,e2,q_,aU (show k<1000000000000000000 by omega),List.range_succ,arK,arI]
    have TV:=agi (p:=p) hg.1 (show k<b.ak.toNat by omega)
    by_cases hr:gt (bu b p) k=(k:Int)
    · have e3:aW b p (k:Int)=cn b p k:=by unfold aW;rw[aq8,hr,aq8]
      have e4:([k].filter fun f=> !(cn b p f).ak.isEmpty)=[k]:=by simp[List.filter_cons,TV.2 hr]
      rw[eh hr,e4,e3]
      rfl
    · have e5:(cn b p k).ak.isEmpty=true:=by
       cases hx:(cn b p k).ak.isEmpty with
       |true=>rfl
       |false=>exact(hr (TV.1 hx)).elim
      have e4:([k].filter fun f=> !(cn b p f).ak.isEmpty)=[]:=by simp[List.filter_cons,e5]
      rw[bY hr,e4]
      simp
  · have e1:decide ((n:Int)<b.ak)=false:=dF (by omega)
    simp only[B5,e1,aqG,if_false]
 rw[l1,ago,sD]
 rfl
end
end Rx
end Go.Proofs.YtncbfgppjfcijaaGreat
