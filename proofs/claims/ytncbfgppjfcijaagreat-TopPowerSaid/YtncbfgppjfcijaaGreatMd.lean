import Derived.Test.YtncbfgppjfcijaaGreatMc
import Derived.KernelRfl
set_option linter.unusedVariables false
set_option linter.unusedSimpArgs false
open Bool renaming false_eq_true→aqG,not_false→ard,not_true→aqW
open Classical renaming byContradiction→aq6
open Int renaming eq_ofNat_of_zero_le→ara,le_refl→arm,mul_le_mul→ar4,mul_le_mul_of_nonneg_left→asm,mul_nonneg→ase
open List renaming find?_eq_none→arB,find?_some→arN,getD_eq_getElem?_getD→arL,length_append→aqY,length_cons→arz,length_pos_iff→arR,length_set→arZ,mem_append→aqP,mem_of_find?_eq_some→arH,mem_range→aqV,mem_singleton→aq1,pairwise_iff_getElem→asl,range→aqN,replicate→aqS
open Nat renaming add_assoc→ar3,add_le_add_right→asg,le_add_right→ar7,le_refl→aqM,le_trans→aq',mul_succ→asf,zero_le→arj
open Option renaming bind→ar_,bind_fun_some→aqQ,bind_some→aqF
open Option.some renaming inj→are
open Sum renaming elim_inl→aqI,elim_inr→aqJ
noncomputable section
namespace Go.Proofs.YtncbfgppjfcijaaGreat
open Go Go.RowKit Dp
namespace Rx
open Classical
section
variable {b:aj} {p:ae}
theorem aa3{l:List Int}{a:Int}(hs:Sr l a)(hb:nX b):Wp (Ik ⟨l,a⟩ b) fun r=>∃l a q,r=(l,a,b.ad,b.aa,b.ai,q.aq,q.aa,q.aE,q.aA)∧Sr l a∧bA q∧aJ b q=0∧cH b q=q.aa:=by
 unfold Ik
 refine(aaQ hs hb).bind fun r hr=> ?_
 obtain⟨l,a,cl,run,dt,bV,rfl,hs,hp⟩:=hr
 have mS:=hp.sm hb
 have h0:=hp.aJ hb
 have hf:=adT hb.sm mS h0
 obtain⟨nb,br,S,C,ph,fr⟩:=b
 simp only at hf⊢
 rw[hf]
 simp only[aqF]
 exact al.2 ⟨_,_,m8 ⟨nb,br,S,C,ph,fr⟩ ⟨cl,run,dt,bV⟩,rfl,hs,Jq mS,Jg h0,Vg h0⟩
theorem Cy(hp:bA p)(k n:Int):jO p k n=some (decide ((⟨k,n⟩:Part)∈p.aA)):=by
 have df:=hp.2.2.2
 have h:=kZ (step:=oe p.aA ⟨k,n⟩) (fun i=>(i:Int)) p.aA.length (fun i=>(k==(gt p.aA i).Kind&&n==(gt p.aA i).Number)) (R:=fun i=> .inr (i:Int)) (e:= .inl ())
  (fun i hi hq=>by simp only[oe,aQ hi,if_true,az hi,aqF,hq,aqG,if_false,aU (cM df hi)])
  (fun i hi hq=>by simp only[oe,aQ hi,if_true,az hi,aqF,hq])
  (by simp only[oe,bl,aqG,if_false])
 have h':ay (oe p.aA ⟨k,n⟩) 0=_:=h
 have hz:∀i,(k==(gt p.aA i).Kind&&n==(gt p.aA i).Number)=true↔(⟨k,n⟩:Part)=gt p.aA i:=fun i=>KA ⟨k,n⟩ (gt p.aA i)
 unfold jO D3 DR
 rw[h']
 cases hf:(aqN p.aA.length).find? (fun i=>(k==(gt p.aA i).Kind&&n==(gt p.aA i).Number)) with
 |none=>
  have:¬(⟨k,n⟩:Part)∈p.aA:=fun hm=>by
   obtain⟨i,hi,e⟩:=kY hm
   have:=arB.1 hf i (aqV.2 hi)
   exact this ((hz i).2 e.symm)
  rw[dF this]
  rfl
 |some i=>
  have hi:=aqV.1 (arH hf)
  have hq:=(hz i).1 (arN (p:=fun i=>(k==(gt p.aA i).Kind&&n==(gt p.aA i).Number)) hf)
  have:(⟨k,n⟩:Part)∈p.aA:=by rw[hq];exact cV hi
  rw[dT this]
  simp
theorem aaK(hb:bP b)(hp:bA p)(h:aJ b p=0){i:Nat}(hi:i<b.ad.length):Wp (DB b p (i:Int)) fun r=>r=true→gt p.aq i=false∧¬(⟨2,(i:Int)⟩:Part)∈p.aA∧((gt b.ad i).Kind≠1→(gt b.ad i).Kind≠2→(de b p 3 (gt b.ad i).B).2=false):=by
 obtain⟨⟨hl,hg⟩,⟨s1,s2,s3⟩,_⟩:=bM.1 h
 have fS:=(hg.1.1 i hi).2
 have ais:∀j,nO b p j=de b p 3 j:=fun j=>by unfold nO;rw[if_pos h]
 unfold DB
 simp only[az hi,az (show i<p.aq.length by omega),aqF,aqQ,Cy hp,Vu hb hp,ais]
 cases hc:gt p.aq i with
 |true=>simp only[if_true,aqF];exact al.2 (fun h=>by cases h)
 |false=>
  simp only[aqG,if_false,aqF]
  by_cases h2:(⟨2,(i:Int)⟩:Part)∈p.aA
  · simp only[dT h2,if_true,aqF];exact al.2 (fun h=>by cases h)
  simp only[dF h2,aqG,if_false,aqF]
  refine Wp.ite (fun _=>al.2 (fun h=>by cases h)) fun _=> ?_
  refine Wp.ite (fun k1=>al.2 fun _=>⟨by trivial,h2,fun n1=>absurd (by simpa using k1) n1⟩) fun k1=> ?_
  have k1:(gt b.ad i).Kind≠1:=by simpa using k1
  refine Wp.ite (fun k2=> ?_) fun k2=> ?_
  · have k2:(gt b.ad i).Kind=2:=by simpa using k2
    have hB:0≤(gt b.ad i).B∧(gt b.ad i).B≤(b.aa.length:Int)-1:=by
     rcases fS with h|h|h
     · exact absurd h.1 k1
     · exact h.2.1
     · have:=h.1;omega
    rw[fQ hB.1 (by omega)]
    refine Wp.ite (fun _=>al.2 fun _=>⟨by trivial,h2,fun _ n2=>absurd k2 n2⟩) fun _=>al.2 (fun h=>by cases h)
  · refine Wp.ite (fun _=>al.2 fun hr=>⟨by trivial,h2,fun _ _=>by simpa using hr⟩) fun _=>al.2 (fun h=>by cases h)
theorem aaF(hb:bP b)(hp:bA p)(h:aJ b p=0){i:Nat}(hi:i<b.ad.length):Wp (DA b p (gt b.ad i)) fun r=>(gt b.ad i).Kind=3→r=true:=by
 obtain⟨⟨hl,hg⟩,⟨s1,s2,s3⟩,g1,g2,g3⟩:=bM.1 h
 have fS:=(hg.1.1 i hi).2
 have lV:∀k,(lead b p k).2=true→∃j:Nat,(lead b p k).1=(j:Int)∧j<p.aa.length:=fun k hk=>by
  unfold lead at hk⊢
  by_cases h1:(cD b p k).1.aa=[]
  · rw[if_pos h1] at hk;cases hk
  · rw[if_neg h1]
    unfold cD at h1⊢
    by_cases h2:aJ b p=0∧0≤k∧k<b.ak
    · rw[if_pos h2] at h1⊢
      obtain⟨j,e,hj,_⟩:=pF (xE (p:=p) hg.1 h2.2.1 h2.2.2).1 (cV (arR.2 h1))
      exact⟨j,e,by omega⟩
    · rw[if_neg h2] at h1;exact(h1 rfl).elim
 unfold DA
 simp only[Lx hb hp,aqF,aqQ]
 refine Wp.ite (fun _=>al.2 fun _=>rfl) fun hv=> ?_
 obtain⟨j,e1,hj⟩:=lV (gt b.ad i).A (by simpa using hv)
 refine Wp.ite (fun k1=> ?_) fun k1=> ?_
 · have k1:(gt b.ad i).Kind=1:=by simpa using k1
   refine Wp.ite (fun _=>al.2 fun _=>rfl) fun iR=> ?_
   obtain⟨j2,e2,FZ⟩:=lV (gt b.ad i).B (by simpa using iR)
   rw[e1,e2,az hj,az FZ]
   simp only[aqF,ZN (tD.of (g2 j hj)) (tD.of (g2 j2 FZ))]
   exact al.2 fun k3=>by omega
 · refine Wp.ite (fun k2=> ?_) fun _=>al.2 fun _=>rfl
   have k1:(gt b.ad i).Kind≠1:=by simpa using k1
   have k2:(gt b.ad i).Kind=2:=by simpa using k2
   have hB:0≤(gt b.ad i).B∧(gt b.ad i).B≤(b.aa.length:Int)-1:=by
    rcases fS with h|h|h
    · exact absurd h.1 k1
    · exact h.2.1
    · have:=h.1;omega
   rw[e1,az hj,fQ hB.1 (show(gt b.ad i).B<(p.aa.length:Int) by omega)]
   simp only[aqF,ZN (tD.of (g2 j hj)) (tD.of (g2 _ (show(gt b.ad i).B.toNat<p.aa.length by omega)))]
   exact al.2 fun k3=>by omega
theorem aaW(hb:bP b)(hp:bA p)(h:aJ b p=0){i:Nat}(hi:i<b.ad.length):Wp (wy b p (i:Int)) fun m=>((gt b.ad i).Kind=3→m≠12)∧(m=0→gt p.aq i=false∧¬(⟨2,(i:Int)⟩:Part)∈p.aA∧((gt b.ad i).Kind≠1→(gt b.ad i).Kind≠2→(de b p 3 (gt b.ad i).B).2=false)):=by
 obtain⟨⟨hl,hg⟩,⟨s1,s2,s3⟩,g1,g2,g3⟩:=bM.1 h
 unfold wy
 have e:(aJ b p !=0)=false:=by rw[h];rfl
 simp only[mH hb hp,aqF,e,aqG,if_false,dF (c:=(i:Int)<0) (by omega),dF (c:=(i:Int)≥len b.ad) (by unfold len;omega)]
 refine(aaK hb hp h hi).bind fun r hr=> ?_
 refine Wp.ite (fun _=>al.2 ⟨fun _=>by decide,fun h=>by cases h⟩) fun hv=> ?_
 have Mg:=hr (by simpa using hv)
 simp only[az hi,aqF,of_eq hb hp,aqQ]
 refine Wp.bind (Q:=fun _=>True) ?_ fun w _=> ?_
 · refine Wp.ite (fun _=> ?_) fun _=>al.2 trivial
   have df:Sm (ji b p (gt b.ad i).A).1:=by
    show Sm (cD b p (gt b.ad i).A).1.ak
    unfold cD
    split
    · have:=(qJ (b:=b) (p:=p) (gt (bu b p) (gt b.ad i).A.toNat).toNat).1
      have h4:(aW b p (gt b.ad i).A).ak.length≤b.ak.toNat:=this
      have:=hl.fe
      unfold Sm;simp only;omega
    · unfold Sm;simp
   rw[contains_eq df]
   exact al.2 trivial
 · refine Wp.bind (Q:=fun r=>(gt b.ad i).Kind=3→r=false) ?_ fun u hu=> ?_
   · refine Wp.ite (fun _=> ?_) fun _=>al.2 fun _=>rfl
     refine(aaF hb hp h hi).bind fun y hy=>al.2 fun k3=>by rw[hy k3];rfl
   · refine Wp.ite (fun hv=>al.2 ⟨fun k3=>(by rw[hu k3] at hv;exact absurd hv (by decide)),fun h=>(by cases h)⟩) fun _=>al.2 ⟨fun _=>by decide,fun _=>Mg⟩
def sX(p:ae)(i:Nat):ae:=⟨p.aq.set i true,p.aa,p.aE,p.aA⟩
theorem V1{i:Nat}(hi:i<p.aq.length)(hc:gt p.aq i=false)(j:Int):∀n,cI b (sX p i) j n=cI b p j n+if i<n∧(gt b.ad i).Kind=3∧(gt b.ad i).B=j then 1 else 0
 |0=>by rw[if_neg (by omega)];rfl
 |n+1=>by
  show cI b (sX p i) j n+(if(gt b.ad n).Kind=3∧(gt b.ad n).B=j∧gt (p.aq.set i true) n=true then 1 else 0)=cI b p j n+(if(gt b.ad n).Kind=3∧(gt b.ad n).B=j∧gt p.aq n=true then 1 else 0)+_
  rw[V1 hi hc j n,dz hi]
  by_cases hn:n=i
  · subst hn
    rw[if_pos rfl,hc]
    by_cases hk:(gt b.ad n).Kind=3∧(gt b.ad n).B=j
    · simp[hk.1,hk.2]
    · have a1:¬((gt b.ad n).Kind=3∧(gt b.ad n).B=j∧true=true):=fun h=>hk ⟨h.1,h.2.1⟩
      have a2:¬((gt b.ad n).Kind=3∧(gt b.ad n).B=j∧false=true):=fun h=>hk ⟨h.1,h.2.1⟩
      have a3:∀m,¬(n<m∧(gt b.ad n).Kind=3∧(gt b.ad n).B=j):=fun m h=>hk h.2
      rw[if_neg a1,if_neg a2,if_neg (a3 _),if_neg (a3 _)]
  · rw[if_neg hn]
    by_cases dQ:i<n
    · by_cases hk:(gt b.ad i).Kind=3∧(gt b.ad i).B=j
      · have a1:i<n∧(gt b.ad i).Kind=3∧(gt b.ad i).B=j:=⟨dQ,hk⟩
        have a2:i<n+1∧(gt b.ad i).Kind=3∧(gt b.ad i).B=j:=⟨by omega,hk⟩
        rw[if_pos a1,if_pos a2];omega
      · have a3:∀m,¬(i<m∧(gt b.ad i).Kind=3∧(gt b.ad i).B=j):=fun m h=>hk h.2
        rw[if_neg (a3 n),if_neg (a3 (n+1))]
        omega
    · have a1:¬(i<n∧(gt b.ad i).Kind=3∧(gt b.ad i).B=j):=fun h=>dQ h.1
      have a2:¬(i<n+1∧(gt b.ad i).Kind=3∧(gt b.ad i).B=j):=fun h=>by have:=h.1;omega
      rw[if_neg a1,if_neg a2]
      omega
theorem VZ{j:Int}(h:(de b p 3 j).2=false):∀n,n≤b.ad.length→cI b p j n=0
 |0,_=>rfl
 |n+1,hn=>by
  show cI b p j n+_=0
  rw[VZ h n (by omega),if_neg]
  rintro⟨h1,h2,h3⟩
  unfold de at h
  cases hf:(aqN b.ad.length).find? (iE b p 3 j) with
  |some k=>rw[hf] at h;cases h
  |none=>
   have:=arB.1 hf n (aqV.2 (by omega))
   unfold iE at this
   simp[h1,h2,h3] at this
theorem acS(h:aJ b p=0){i:Nat}(hi:i<b.ad.length)(hc:gt p.aq i=false)(qT:(gt b.ad i).Kind≠1→(gt b.ad i).Kind≠2→(de b p 3 (gt b.ad i).B).2=false):aJ b (sX p i)=0:=by
 obtain⟨h1,⟨s1,s2,s3⟩,g1,g2,g3⟩:=bM.1 h
 refine bM.2 ⟨h1,⟨by show(p.aq.set i true).length=_;rw[arZ];exact s1,s2,s3⟩,g1,g2,fun k hk=> ?_⟩
 obtain⟨f1,f2⟩:=g3 k hk
 refine⟨f1, ?_⟩
 rw[V1 (by omega) hc]
 by_cases MC:(gt b.ad i).Kind=3∧(gt b.ad i).B=(k:Int)
 · have:=VZ (b:=b) (p:=p) (by have:=qT (by omega) (by omega);rw[MC.2] at this;exact this) b.ad.length (aqM _)
   rw[this,if_pos ⟨hi,MC⟩]
   exact aqM _
 · rw[if_neg (fun h=>MC h.2)]
   exact f2
theorem alj(hb:bP b)(hp:bA p)(h:aJ b p=0){i:Nat}(hi:i<b.ad.length)(hm:wy b p (i:Int)=some 0)(hc:aJ b (sX p i)=0):ud b p (i:Int)=some (0,p.aq.set i true,cH b (sX p i),p.aE,p.aA):=by
 obtain⟨_,⟨s1,s2,s3⟩,_⟩:=bM.1 h
 have xV:i<p.aq.length:=by omega
 have fm:bA (sX p i):=⟨by show Sm (p.aq.set i true);have:=hp.1;unfold Sm at*;rw[arZ];exact this,hp.2.1,hp.2.2.1,hp.2.2.2⟩
 have hf:rH b ⟨p.aq.set i true,p.aa,p.aE,p.aA⟩=some (0,p.aq.set i true,cH b (sX p i),p.aE,p.aA):=follow_eq hb fm hc
 unfold ud
 simp only[hm,aqF,bne_self_eq_false,aqG,if_false,oY hp,az xV,fg xV,hf]
theorem alk{i m:Int}(hm:wy b p i=some m)(h:m≠0):ud b p i=some (m,[],[],[],[]):=by
 unfold ud
 simp only[hm,aqF,HR h,if_true]
theorem af3(h:aJ b p=0){k:Int}(hk:(lead b p k).2=true):∃j:Nat,(lead b p k).1=(j:Int)∧j<p.aa.length:=by
 obtain⟨⟨hl,hg⟩,⟨s1,s2,s3⟩,g1,g2,g3⟩:=bM.1 h
 unfold lead at hk⊢
 by_cases h1:(cD b p k).1.aa=[]
 · rw[if_pos h1] at hk;cases hk
 · rw[if_neg h1]
   unfold cD at h1⊢
   by_cases h2:aJ b p=0∧0≤k∧k<b.ak
   · rw[if_pos h2] at h1⊢
     obtain⟨j,e,hj,_⟩:=pF (xE (p:=p) hg.1 h2.2.1 h2.2.2).1 (cV (arR.2 h1))
     exact⟨j,e,by omega⟩
   · rw[if_neg h2] at h1;exact(h1 rfl).elim
def qH(b:aj)(p:ae)(s:Nat):List Int:=if(conn b p (s:Int)).2=true then(aW b p (conn b p (s:Int)).1).aa else [(s:Int)]
def Ff(b:aj)(p:ae)(s:Nat)(m:Nat):ae:=⟨p.aq,gD p.aa (gt p.aa m) (qH b p s),p.aE,p.aA⟩
theorem KQ(h:aJ b p=0){s:Nat}(hs:s<p.aa.length):(∀k∈qH b p s,0≤k∧k<p.aa.length)∧Sm (qH b p s):=by
 obtain⟨⟨hl,hg⟩,⟨s1,s2,s3⟩,_⟩:=bM.1 h
 unfold qH
 by_cases hc:(conn b p (s:Int)).2=true
 · rw[if_pos hc]
   constructor
   · intro k hk
     obtain⟨j,e,hj,_⟩:=pF (DM hg.1 (show s<b.aa.length by omega) hc).1 hk
     omega
   · have h4:(aW b p (conn b p (s:Int)).1).aa.length≤b.aa.length:=(qJ (b:=b) (p:=p) (gt (bu b p) (conn b p (s:Int)).1.toNat).toNat).2.1
     have:=hl.src
     unfold Sm;omega
 · rw[if_neg hc]
   exact⟨fun k hk=>by rw[aq1.1 hk];omega,by unfold Sm;simp⟩
theorem afo(h:aJ b p=0){s m:Nat}(hs:s<p.aa.length)(x:Nat):gt (Ff b p s m).aa x=if(x:Int)∈qH b p s then oy (gt p.aa x) (gt p.aa m) else gt p.aa x:=Ej _ _ _ x (KQ h hs).1
theorem KW{s m:Nat}:(Ff b p s m).aa.length=p.aa.length:=wU _ _ _
theorem acR(h:aJ b p=0){s m:Nat}(hs:s<p.aa.length)(hm:m<p.aa.length):aJ b (Ff b p s m)=0:=by
 obtain⟨_,_,_,g2,_⟩:=bM.1 h
 refine DG h rfl KW rfl rfl fun k hk=> ?_
 rw[KW] at hk
 rw[afo h hs]
 split
 · exact RA (g2 k hk) (g2 m hm)
 · exact g2 k hk
theorem adb{s m:Nat}(hp:bA p):bA (Ff b p s m):=⟨hp.1,by have:=hp.2.1;unfold Sm at*;rw[KW];exact this,hp.2.2.1,hp.2.2.2⟩
theorem Q7{i:Nat}{v:Bool}(hp:bA p):bA ⟨p.aq.set i v,p.aa,p.aE,p.aA⟩:=⟨by have:=hp.1;unfold Sm at*;show(p.aq.set i v).length≤_;rw[arZ];exact this,hp.2.1,hp.2.2.1,hp.2.2.2⟩
end
end Rx
namespace Rx
open Classical
section
variable {b:aj} {p:ae}
theorem Zr(hb:bn b){j:Nat}(hj:j<b.aa.length):∃k,k<b.ad.length∧fw (gt b.ad k) j∧∀i,i<b.ad.length→fw (gt b.ad i) j→i=k:=by
 have h:=(xe.1 hb).2.1 j hj
 obtain⟨⟨k,hk,hp⟩,hu⟩:=AM.1 h
 refine⟨k,hk,sQ.1 hp,fun i hi hs=> ?_⟩
 have nF:=sQ.2 hs
 rcases Nat.lt_trichotomy i k with h1|h1|h1
 · exact(hu i k h1 hk nF hp).elim
 · exact h1
 · exact(hu k i h1 hi hp nF).elim
def bk(b:aj)(j:Nat):Nat:=if h:∃k,k<b.ad.length∧fw (gt b.ad k) j∧∀i,i<b.ad.length→fw (gt b.ad i) j→i=k then h.choose else 0
theorem CP(hb:bn b){j:Nat}(hj:j<b.aa.length):bk b j<b.ad.length∧fw (gt b.ad (bk b j)) j∧∀i,i<b.ad.length→fw (gt b.ad i) j→i=bk b j:=by
 unfold bk
 rw[dif_pos (Zr hb hj)]
 exact(Zr hb hj).choose_spec
theorem Vr{n k:Nat}{q:Nat→Bool}(hk:k<n)(hq:q k=true)(hu:∀i,i<n→q i=true→i=k):(aqN n).find? q=some k:=by
 cases hf:(aqN n).find? q with
 |none=>
  have:=arB.1 hf k (aqV.2 hk)
  exact(this hq).elim
 |some i=>
  have h1:=aqV.1 (arH hf)
  have h2:q i=true:=arN (p:=q) hf
  rw[hu i h1 h2]
theorem aoY(hs:Sm b.ad)(hb:bn b){j:Nat}(hj:j<b.aa.length):EB b (j:Int)=some (bk b j:Int):=by
 obtain⟨h1,h2,h3⟩:=CP hb hj
 have h:=kZ (step:=wK b.ad (j:Int)) (fun i=>(i:Int)) b.ad.length (fun i=>decide (fw (gt b.ad i) j)) (R:=fun i=> .inr (i:Int)) (e:= .inl ())
  (fun i hi hq=>by
    have hq:¬fw (gt b.ad i) j:=by simpa using hq
    have e:w9 (gt b.ad i) (j:Int)=some false:=by
     unfold w9
     unfold fw at hq
     by_cases hk:(gt b.ad i).Kind=2
     · have hB:¬(gt b.ad i).B=(j:Int):=fun h=>hq ⟨hk,h⟩
       simp[hk,hB]
     · simp[hk]
    simp only[wK,aQ hi,if_true,az hi,aqF,e,aqG,if_false,aU (cM hs hi)])
  (fun i hi hq=>by
    have hq:fw (gt b.ad i) j:=by simpa using hq
    have e:w9 (gt b.ad i) (j:Int)=some true:=by
     unfold w9
     simp[hq.1,hq.2]
    simp only[wK,aQ hi,if_true,az hi,aqF,e])
  (by simp only[wK,bl,aqG,if_false])
 rw[Vr h1 (by simpa using h2) fun i hi hq=>h3 i hi (by simpa using hq)] at h
 have h':ay (wK b.ad (j:Int)) 0=_:=h
 unfold EB JD
 rw[h']
 rfl
def en(b:aj)(q:ae):Prop:=bA q∧aJ b q=0
theorem QM(v:en b p){S:List aC}(hl:S.length=p.aa.length)(hr:∀k,k<S.length→dq (gt S k)):en b ⟨p.aq,S,p.aE,p.aA⟩:=
 ⟨⟨v.1.1,by have:=v.1.2.1;unfold Sm at*;simp only;omega,v.1.2.2.1,v.1.2.2.2⟩,DG v.2 rfl hl rfl rfl hr⟩
theorem Dt(v:en b p){j:Nat}(hj:j<p.aa.length){x:aC}(hx:dq x):en b ⟨p.aq,p.aa.set j x,p.aE,p.aA⟩:=by
 refine QM v (by simp) fun k hk=> ?_
 rw[dz hj]
 split
 · exact hx
 · exact(bM.1 v.2).2.2.2.1 k (by simpa using hk)
theorem abg(v:en b p){j:Nat}(hj:j<p.aa.length):dq (gt p.aa j):=(bM.1 v.2).2.2.2.1 j hj
theorem abh(v:en b p){j:Nat}(hj:j<p.aE.length){n:Int}(h0:0≤n)(h1:n≤(gt b.ai j).cX):en b ⟨p.aq,p.aa,p.aE.set j n,p.aA⟩:=by
 obtain⟨hp,h⟩:=v
 obtain⟨h2,⟨s1,s2,s3⟩,g1,g2,g3⟩:=bM.1 h
 refine⟨⟨hp.1,hp.2.1,by have:=hp.2.2.1;unfold Sm at*;simpa using this,hp.2.2.2⟩,bM.2 ⟨h2,⟨s1,s2,by simpa using s3⟩,g1,g2,fun k hk=> ?_⟩⟩
 obtain⟨f1,f2⟩:=g3 k (by simpa using hk)
 refine⟨?_, ?_⟩
 · show 0≤gt (p.aE.set j n) k∧gt (p.aE.set j n) k≤_
   rw[dz hj]
   by_cases e:k=j
   · rw[if_pos e,e];exact⟨h0,h1⟩
   · rw[if_neg e];exact f1
 · have e:cI b ⟨p.aq,p.aa,p.aE.set j n,p.aA⟩ (k:Int) b.ad.length=cI b p (k:Int) b.ad.length:=yH fun i _ _ _=>rfl
   rw[e]
   exact f2
def PJ(b:aj)(r:Int×List Bool×List aC×List Int×List Part):Prop:=r.1=0→en b ⟨r.2.1,r.2.2.1,r.2.2.2.1,r.2.2.2.2⟩
theorem aa6(hb:bP b)(v:en b p){i:Nat}(hi:i<b.ad.length):Wp (ud b p (i:Int)) (PJ b):=by
 obtain⟨hp,h⟩:=v
 obtain⟨m,hm,_,h2⟩:=aaW hb hp h hi
 by_cases h0:m=0
 · subst h0
   obtain⟨c1,_,c3⟩:=h2 rfl
   have hc:=acS h hi c1 c3
   rw[alj hb hp h hi hm hc]
   exact al.2 fun _=>⟨Jq (p:=sX p i) (Q7 hp),Jg hc⟩
 · rw[alk hm h0]
   exact al.2 fun e=>(h0 e).elim
theorem aaS(hb:bP b)(v:en b p){i:Nat}(hi:i<b.ad.length):Wp (DD b p (i:Int)) (PJ b):=by
 obtain⟨hp,h⟩:=v
 obtain⟨_,⟨s1,s2,s3⟩,_⟩:=bM.1 h
 have xV:i<p.aq.length:=by omega
 unfold DD
 have e:(aJ b p !=0)=false:=by rw[h];rfl
 simp only[mH hb hp,aqF,e,aqG,if_false,dF (c:=(i:Int)<0) (by omega),dF (c:=(i:Int)≥len b.ad) (by unfold len;omega),az xV,Cy hp,aqQ,oY hp,fg xV]
 refine Wp.bind (Q:=fun _=>True) ?_ fun c _=> ?_
 · refine Wp.ite (fun _=>al.2 trivial) fun _=>al.2 trivial
 · refine Wp.ite (fun _=>al.2 fun e=>by cases e) fun _=>al.2 fun _=>⟨Q7 hp, ?_⟩
   refine DH h (by simp) rfl rfl rfl fun k hk=> ?_
   have hk:gt (p.aq.set i false) k=true:=hk
   rw[dz xV] at hk
   split at hk
   · cases hk
   · exact hk
theorem aaX(hb:bP b)(v:en b p){j:Nat}(hj:j<b.aa.length){k:Int}(k0:0≤k)(k1:k<b.ak):Wp (DE b p (j:Int) k) (PJ b):=by
 obtain⟨hp,h⟩:=v
 obtain⟨⟨hl,hg⟩,⟨s1,s2,s3⟩,g1,g2,g3⟩:=bM.1 h
 have et:j<p.aa.length:=by omega
 unfold DE
 have e:(aJ b p !=0)=false:=by rw[h];rfl
 simp only[mH hb hp,aqF,e,aqG,if_false,dF (c:=(j:Int)<0) (by omega),dF (c:=(j:Int)≥len b.aa) (by unfold len;omega),dF (c:=k<0) (by omega),dF (c:=k≥b.ak) (by omega),Lx hb hp,az et]
 have q7:re b p (j:Int)=conn b p (j:Int):=by unfold re;rw[if_pos h]
 have gl:(if(conn b p (j:Int)).2=true then ar_ (mj b p (conn b p (j:Int)).1) fun x8=>some x8.2.1 else some [(j:Int)])=some (qH b p j):=by
  unfold qH
  by_cases hc:(conn b p (j:Int)).2=true
  · have c:=GZ hg.1 hc
    rw[if_pos hc,if_pos hc,of_eq hb hp]
    simp only[aqF]
    show some (cD b p (conn b p (j:Int)).1).1.aa=_
    rw[rX h c.1 c.2]
  · rw[if_neg hc,if_neg hc]
 cases hv:(lead b p k).2 with
 |false=>
  simp only[ard,if_true,aqF]
  exact al.2 fun e=>by cases e
 |true=>
  obtain⟨m,em,hm⟩:=af3 h hv
  have pJ:wx ⟨p.aq,p.aa,p.aE,p.aA⟩ (qH b p j) (gt p.aa m)=some (gD p.aa (gt p.aa m) (qH b p j)):=Rk (KQ h et).2 (KQ h et).1
  simp only[aqW,aqG,if_false,aqF,oY hp,VT hb hp,q7,gl,em,az hm,pJ]
  refine Wp.ite (fun _=>al.2 fun e=>by cases e) fun _=>al.2 fun _=>⟨adb hp,acR h et hm⟩
abbrev WR:=Int×Int×List aO×List Source×List Consumer×Int×Int×Int×List Bool×List aC×List Int×List Part
def fC(r:WR):ae:=⟨r.2.2.2.2.2.2.2.2.1,r.2.2.2.2.2.2.2.2.2.1,r.2.2.2.2.2.2.2.2.2.2.1,r.2.2.2.2.2.2.2.2.2.2.2⟩
def Pm(b:aj)(r:WR):Prop:=r.1=0→en b (fC r)
theorem KE(hb:bP b)(hg:bn b){j:Nat}(hj:j<b.aa.length){q:ae}(hc:q.aq.length=b.ad.length)(t:Int):ua ⟨b,q,t⟩ (j:Int)=some (!gt q.aq (bk b j)):=by
 obtain⟨k1,_⟩:=CP hg hj
 unfold ua
 simp only[aoY hb.1 hg hj,aqF,az (show bk b j<q.aq.length by omega)]
theorem aaJ(hb:bP b)(v:en b p){t:Int}(t0:0≤t)(t1:t≤2147483648){j:Nat}(hj:j<b.aa.length):Wp (Dk ⟨b,p,t⟩ (j:Int)) (Pm b):=by
 obtain⟨⟨hl,hg⟩,⟨s1,s2,s3⟩,g1,g2,g3⟩:=bM.1 v.2
 have et:j<p.aa.length:=by omega
 unfold Dk
 simp only[az et,az hj,aqF,Cy v.1,KE hb hg.1 hj s1,fg et]
 refine Wp.bind (Q:=fun _=>True) ?_ fun c _=> ?_
 · refine Wp.ite (fun _=>al.2 trivial) fun _=>al.2 trivial
 refine Wp.ite (fun _=>al.2 fun e=>by cases e) fun _=> ?_
 refine Wp.bind (Q:=fun _=>True) ?_ fun c _=> ?_
 · refine Wp.ite (fun _=>al.2 trivial) fun _=>al.2 trivial
 refine Wp.bind (Q:=fun x=>dq ⟨x.1,x.2.1,x.2.2.1,x.2.2.2⟩) ?_ fun x hx=> ?_
 · refine Wp.ite (fun _=>al.2 ?_) fun _=>al.2 ?_
   · unfold dq;simp only;omega
   · unfold dq;simp only;omega
 · exact al.2 fun _=>Dt v et hx
theorem aaG(hb:bP b)(v:en b p){t:Int}{j:Nat}(hj:j<b.aa.length):Wp (Dj ⟨b,p,t⟩ (j:Int)) (Pm b):=by
 obtain⟨⟨hl,hg⟩,⟨s1,s2,s3⟩,g1,g2,g3⟩:=bM.1 v.2
 have et:j<p.aa.length:=by omega
 unfold Dj
 simp only[az et,aqF,KE hb hg.1 hj s1,fg et]
 refine Wp.bind (Q:=fun _=>True) ?_ fun c _=> ?_
 · refine Wp.ite (fun _=> ?_) fun _=>al.2 trivial
   refine Wp.ite (fun _=>al.2 trivial) fun _=>al.2 trivial
 refine Wp.ite (fun _=>al.2 fun e=>by cases e) fun _=>al.2 fun _=>Dt v et ?_
 have:=g2 j et
 unfold dq at*
 simp only
 omega
theorem aa1(hb:bP b)(v:en b p){t:Int}{j:Nat}(hj:j<b.ai.length)(n:Int):Wp (Dl ⟨b,p,t⟩ (j:Int) n) (Pm b):=by
 obtain⟨⟨hl,hg⟩,⟨s1,s2,s3⟩,g1,g2,g3⟩:=bM.1 v.2
 have et:j<p.aE.length:=by omega
 unfold Dl
 simp only[az et,az hj,aqF,fg et]
 refine Wp.bind (Q:=fun c=>c=false→0≤n∧n≤(gt b.ai j).cX) ?_ fun c hc=> ?_
 · refine Wp.ite (fun _=>al.2 fun e=>by cases e) fun h1=>al.2 fun h2=> ?_
   have h1:=of_decide_eq_false h1
   have h2:=of_decide_eq_false h2
   omega
 refine Wp.ite (fun _=>al.2 fun e=>by cases e) fun hf=>al.2 fun _=> ?_
 obtain⟨a1,a2⟩:=hc hf
 exact abh v et a1 a2
def CZ(b:aj)(C:List Bool)(T S:List aC)(j:Nat):Prop:=gt S j=gt T j∨((gt T j).State=1∧gt C (bk b j)=false∧gt S j={gt T j with State:=2})
theorem afZ(hg:bn b){j:Nat}(hj:j<b.aa.length){q:ae}(hc:gt q.aq (bk b j)=false):de b q 2 (j:Int)=(0,false):=by
 unfold de
 rw[NC fun i hi=> ?_]
 unfold iE
 cases h:((gt b.ad i).Kind==2&&(gt b.ad i).B==(j:Int)) with
 |false=>rfl
 |true=>
  simp only[Bool.and_eq_true,beq_iff_eq] at h
  rw[(CP hg hj).2.2 i hi h,hc]
  rfl
theorem ajX(h:aJ b p=0)(hf:cH b p=p.aa){S:List aC}(hl:S.length=p.aa.length)(hr:∀j,j<S.length→CZ b p.aq p.aa S j):cH b ⟨p.aq,S,p.aE,p.aA⟩=S:=by
 obtain⟨⟨_,hg⟩,⟨s1,s2,s3⟩,_⟩:=bM.1 h
 have jH:∀j,conn b ⟨p.aq,S,p.aE,p.aA⟩ j=conn b p j:=fun j=>by
  unfold conn
  simp only[hl]
  by_cases hj:0≤j∧j≤(p.aa.length:Int)-1
  · rw[if_pos hj,if_pos hj,SX (p:=p) (q:=⟨p.aq,S,p.aE,p.aA⟩) rfl]
    rcases hr j.toNat (by omega) with e|⟨e1,e2,e3⟩
    · rw[e]
    · have e4:de b p 2 j=(0,false):=by
       obtain⟨i,rfl⟩:=ara hj.1
       exact afZ hg.1 (by omega) e2
      rw[e4,ite_self,ite_self]
  · rw[if_neg hj,if_neg hj]
 have hgr:bu b ⟨p.aq,S,p.aE,p.aA⟩=bu b p:=BS rfl
 have lV:∀k,eH b ⟨p.aq,S,p.aE,p.aA⟩ k=eH b p k:=fun k=>by
  unfold eH aW cn eF
  simp only[jH,hgr]
 have Ux:∀j,j<S.length→(gt S j).aB=(gt p.aa j).aB∧(gt S j).aG=(gt p.aa j).aG:=fun j hj=>by
  rcases hr j hj with e|⟨_,_,e⟩<;>rw[e]<;>exact⟨rfl,rfl⟩
 refine Vd fun k hk hc=> ?_
 have hk:k<S.length:=hk
 rw[jH] at hc
 rw[lV]
 obtain⟨_,e2,_⟩:=Fu hg.1 (show k<b.aa.length by omega) hc
 obtain⟨f1,f2⟩:=Ve hf (show k<p.aa.length by omega) hc
 obtain⟨a1,a2⟩:=Ux k hk
 obtain⟨c1,c2⟩:=Ux (eH b p k) (by omega)
 show(gt S k).aB=(gt S (eH b p k)).aB∧(gt S k).aG=(gt S (eH b p k)).aG
 rw[a1,a2,c1,c2]
 exact⟨f1,f2⟩
theorem aaA(hb:bP b)(v:en b p){t:Int}:Wp (Di ⟨b,p,t⟩) fun r=>en b ⟨r.2.2.2.2.2.2.2.2.2.2.2.1,r.2.2.2.2.2.2.2.2.2.2.2.2.1,r.2.2.2.2.2.2.2.2.2.2.2.2.2.1,r.2.2.2.2.2.2.2.2.2.2.2.2.2.2⟩∧(cH b p=p.aa→cH b ⟨r.2.2.2.2.2.2.2.2.2.2.2.1,r.2.2.2.2.2.2.2.2.2.2.2.2.1,r.2.2.2.2.2.2.2.2.2.2.2.2.2.1,r.2.2.2.2.2.2.2.2.2.2.2.2.2.2⟩=r.2.2.2.2.2.2.2.2.2.2.2.2.1):=by
 have v2:en b (pk p):=⟨ac_ v.1,acO v.2⟩
 obtain⟨⟨hl,hg⟩,⟨s1,s2,s3⟩,g1,g2,g3⟩:=bM.1 v2.2
 have uM:p.aq.length=b.ad.length:=s1
 have xM:(p.aa.map tick).length=b.aa.length:=s2
 have iS:=hl.src
 unfold Di
 simp only[acd hb v.1 v.2,aqF]
 refine Wp.bind (Q:=fun S=>S.length=(p.aa.map tick).length∧∀j,j<S.length→CZ b p.aq (p.aa.map tick) S j) ?_ fun S hS=>al.2 ⟨QM v2 hS.1 fun k hk=> ?_,fun hf=>ajX v2.2 (ajU v.2 hf) hS.1 hS.2⟩
 · refine dO (p.aa.map tick).length (fun k s=>∃S,s=((k:Int),S)∧S.length=(p.aa.map tick).length∧∀j,j<S.length→(k≤j→gt S j=gt (p.aa.map tick) j)∧CZ b p.aq (p.aa.map tick) S j) ⟨_,rfl,rfl,fun j hj=>⟨fun _=>rfl,.inl rfl⟩⟩ ?_ ?_
   · rintro k s hk ⟨S,rfl,h1,h2⟩
     unfold I9
     simp only[aQ hk,if_true,az (show k<S.length by omega),aqF]
     rw[KE hb hg.1 (show k<b.aa.length by omega) (q:=⟨p.aq,S,p.aE,p.aA⟩) uM]
     simp only[az (show k<b.aa.length by omega),fg (show k<S.length by omega),aqF]
     refine Wp.bind (Q:=fun c=>c=true→(gt S k).State=1∧gt p.aq (bk b k)=false) ?_ fun c hc=> ?_
     · refine Wp.ite (fun a1=> ?_) fun _=>al.2 fun e=>by cases e
       refine Wp.ite (fun a2=>al.2 fun _=>⟨by simpa using a1,by simpa using a2⟩) fun _=>al.2 fun e=>by cases e
     refine Wp.bind (Q:=fun S'=>S'.length=(p.aa.map tick).length∧∀j,j<S'.length→(k+1≤j→gt S' j=gt (p.aa.map tick) j)∧CZ b p.aq (p.aa.map tick) S' j) ?_ fun S' hS'=>al.2 ⟨S',by rw[aU (by omega)],hS'⟩
     refine Wp.ite (fun hh=>al.2 ⟨by simpa using h1,fun j hj=> ?_⟩) fun _=>al.2 ⟨h1,fun j hj=>⟨fun hkj=>(h2 j hj).1 (by omega),(h2 j hj).2⟩⟩
     have hj:j<S.length:=by simpa using hj
     obtain⟨c1,c2⟩:=hc hh
     have ek:=(h2 k (by omega)).1 (aqM _)
     unfold CZ
     rw[dz (show k<S.length by omega)]
     by_cases lq:j=k
     · subst lq
       rw[if_pos rfl]
       refine⟨fun hh=>by omega,.inr ⟨by rw[←ek];exact c1,c2, ?_⟩⟩
       rw[←ek]
     · rw[if_neg lq]
       exact⟨fun hkj=>(h2 j hj).1 (by omega),(h2 j hj).2⟩
   · rintro s ⟨S,rfl,h1,h2⟩
     unfold I9
     simp only[bl,aqG,if_false]
     exact al.2 ⟨h1,fun j hj=>(h2 j hj).2⟩
 · have hk:k<S.length:=hk
   have hr:=g2 k (by have:=hS.1;show k<(p.aa.map tick).length;omega)
   have hr:dq (gt (p.aa.map tick) k):=hr
   rcases hS.2 k hk with e|⟨_,_,e⟩
   · rw[e];exact hr
   · rw[e]
     unfold dq at*
     simp only
     omega
def nk(b:aj)(x:Part):Prop:=0≤x.Number∧x.Number≤bsize b x.Kind-1
theorem R_(hl:dS b){x:Part}(h:nk b x):(1≤x.Kind∧x.Kind≤4)∧0≤x.Number∧x.Number≤24:=by
 have h1:=hl.src
 have h2:=hl.bV
 have h3:=hl.eL
 have h4:=hl.fe
 obtain⟨h5,h6⟩:=h
 unfold bsize at h6
 repeat' split at h6
 all_goals omega
theorem HT{x y z:Part}(h:before x y)(h':before y z):before x z:=by
 unfold before at*
 omega
theorem Zp{l:List Part}:(∀k,k<l.length→kO b l k)↔(∀x∈l,nk b x)∧l.Pairwise before:=by
 constructor
 · intro h
   refine⟨fun x hx=> ?_,asl.2 fun i j hi hj iV=> ?_⟩
   · obtain⟨k,hk,rfl⟩:=kY hx
     exact(h k hk).1
   · rw[←fx hi,←fx hj]
     have key:∀m,i+1+m<l.length→before (gt l i) (gt l (i+1+m)):=fun m=>by
      induction m with
      |zero=>exact fun hm=>(h (i+1) hm).2 (by omega)
      |succ m ih=>exact fun hm=>HT (ih (by omega)) ((h (i+1+(m+1)) hm).2 (by omega))
     have:=key (j-i-1) (by omega)
     rwa[show i+1+(j-i-1)=j by omega] at this
 · rintro⟨h1,h2⟩ k hk
   refine⟨h1 _ (cV hk),fun h0=> ?_⟩
   have:=asl.1 h2 (k-1) k (by omega) hk (by omega)
   rwa[←fx,←fx] at this
theorem R0{x y:Part}(hx:(1≤x.Kind∧x.Kind≤4)∧0≤x.Number∧x.Number≤24)(hy:(1≤y.Kind∧y.Kind≤4)∧0≤y.Number∧y.Number≤24):∃c:Int,Au x y=some c∧(c<0↔before x y)∧(c=0↔x=y):=by
 unfold Au before
 obtain⟨k,n⟩:=x
 obtain⟨k',n'⟩:=y
 simp only[Part.mk.injEq] at*
 by_cases h:k=k'
 · rw[tv h]
   simp only[aqG,if_false,be (show-1000000000000000000≤n-n' by omega) (by omega)]
   exact⟨_,rfl,by omega,by omega⟩
 · rw[HR h]
   simp only[if_true,be (show-1000000000000000000≤k-k' by omega) (by omega)]
   exact⟨_,rfl,by omega,by omega⟩
theorem ai1{x:Int}(h0:0≤x)(h1:x≤1000000000):oi 64 (jl IntKind.u64 (W x)) 1=some (x/2):=by
 have e1:W x=x:=be (by omega) (by omega)
 have e2:IntKind.u64.wrap x=x:=by
  have hb:IntKind.u64.bits=64:=rfl
  simp[IntKind.wrap,hb,IntKind.signed]
  omega
 show(if(1:Int)<0 then none else some ((IntKind.u64.wrap (W x)).fdiv (2^min (1:Int).toNat 64)))=_
 rw[e1,e2,if_neg (by omega)]
 congr 1
 show x.fdiv (2^1)=x/2
 rw[Int.fdiv_eq_ediv_of_nonneg _ (by decide)]
 rfl
theorem aaM(hl:dS b){l:List Part}(h1:∀x∈l,nk b x)(h2:l.Pairwise before)(h3:l.length≤32){x:Part}(hx:nk b x):∃k:Nat,k≤l.length∧(∀i,i<k→before (gt l i) x)∧(∀i,k≤i→i<l.length→¬before (gt l i) x)∧D9 l x=some ((k:Int),dB (k<l.length∧gt l k=x)):=by
 have UL:=R_ hl hx
 have vn:∀q,q<l.length→(1≤(gt l q).Kind∧(gt l q).Kind≤4)∧0≤(gt l q).Number∧(gt l q).Number≤24:=fun q hq=>R_ hl (h1 _ (cV hq))
 have DK:∀i j,i<j→j<l.length→before (gt l i) (gt l j):=fun i j iV hj=>by
  have:=asl.1 h2 i j (by omega) hj iV
  rwa[←fx,←fx] at this
 have qS:Wp (ay (JQ l x) (0,len l)) fun r=>∃k:Nat,r=(k:Int)∧k≤l.length∧(∀i,i<k→before (gt l i) x)∧∀i,k≤i→i<l.length→¬before (gt l i) x:=by
  refine wl (fun s=>(s.2-s.1).toNat) (fun s=>∃i j:Nat,s=((i:Int),(j:Int))∧i≤j∧j≤l.length∧(∀q,q<i→before (gt l q) x)∧∀q,j≤q→q<l.length→¬before (gt l q) x) (fun s hs=> ?_) ⟨0,l.length,rfl,arj _,aqM _,fun p hp=>by omega,fun p h1 h2=>by omega⟩ (by simp only[len];omega)
  obtain⟨i,j,rfl,iV,hj,h1,h2⟩:=hs
  unfold JQ
  simp only
  by_cases aK:i<j
  · obtain⟨q,hq⟩:∃q:Nat,((i:Int)+(j:Int))/2=(q:Int):=⟨(i+j)/2,by omega⟩
    have T2:i≤q∧q<j:=by omega
    have BM:W (q:Int)=q:=be (by omega) (by omega)
    obtain⟨c,c1,c2,_⟩:=R0 (vn q (by omega)) UL
    simp only[dT (c:=(i:Int)<(j:Int)) (by omega),if_true]
    rw[ai1 (by omega) (by omega),hq]
    simp only[aqF,BM,az (show q<l.length by omega),c1]
    by_cases hc:c<0
    · simp only[dT hc,if_true,aqF]
      rw[aU (by omega)]
      refine al.2 ⟨⟨q+1,j,rfl,by omega,hj,fun p hp=> ?_,h2⟩,by simp only;omega⟩
      by_cases iU:p=q
      · rw[iU];exact c2.1 hc
      · exact HT (DK p q (by omega) (by omega)) (c2.1 hc)
    · simp only[dF hc,aqG,if_false,aqF]
      refine al.2 ⟨⟨i,q,rfl,by omega,by omega,h1,fun p hp lT hb=>hc (c2.2 ?_)⟩,by simp only;omega⟩
      by_cases iU:p=q
      · rw[←iU];exact hb
      · exact HT (DK q p (by omega) lT) hb
  · have hje:j=i:=by omega
    subst hje
    simp only[dF (c:=(j:Int)<(j:Int)) (by omega),aqG,if_false]
    exact al.2 ⟨j,rfl,hj,h1,h2⟩
 obtain⟨r,hr,k,rfl,hk,k1,k2⟩:=qS
 refine⟨k,hk,k1,k2, ?_⟩
 unfold D9
 simp only[hr,aqF]
 by_cases mU:k<l.length
 · obtain⟨c,c1,_,c3⟩:=R0 (vn k mU) UL
   simp only[aQ mU,if_true,az mU,c1,aqF]
   congr 2
   refine ak5 ?_
   rw[beq_iff_eq,c3]
   exact⟨fun e=>⟨mU,e⟩,fun e=>e.2⟩
 · rw[dF (c:=(k:Int)<len l) (by unfold len;omega)]
   simp only[aqG,if_false,aqF]
   rw[fq (fun hh=>mU hh.1)]
theorem acA{l:List Part}{k:Nat}{y:Part}(h:y∈l.take k)(hk:k≤l.length):∃i,i<k∧gt l i=y:=(xr hk).1 h
theorem akW{l:List Part}{k:Nat}{y:Part}(h:y∈l.drop k):∃i,k≤i∧i<l.length∧gt l i=y:=by
 obtain⟨i,hi,e⟩:=kY h
 rw[List.length_drop] at hi
 refine⟨k+i,by omega,by omega, ?_⟩
 rw[←e]
 unfold gt
 rw[arL,arL,List.getElem?_drop]
def tr(l:List Part)(k:Nat)(x:Part):List Part:=l.take k++[x]++l.drop k
def Cw(l:List Part)(k:Nat):List Part:=l.take k++l.drop (k+1)
theorem aoU{l:List Part}(h1:∀x∈l,nk b x)(h2:l.Pairwise before){x:Part}(hx:nk b x){k:Nat}(hk:k≤l.length)(k1:∀i,i<k→before (gt l i) x)(k2:∀i,k≤i→i<l.length→¬before (gt l i) x)(k3:¬(k<l.length∧gt l k=x)):(∀y∈tr l k x,nk b y)∧(tr l k x).Pairwise before:=by
 have tot:∀y:Part,¬before y x→y≠x→before x y:=fun y n1 n2=>by
  unfold before at*
  obtain⟨a,c⟩:=y
  obtain⟨a',c'⟩:=x
  simp only[ne_eq,Part.mk.injEq] at*
  omega
 have DK:∀i j,i<j→j<l.length→before (gt l i) (gt l j):=fun i j iV hj=>by
  have:=asl.1 h2 i j (by omega) hj iV
  rwa[←fx,←fx] at this
 have mn:∀y∈l.drop k,before x y:=fun y hy=>by
  obtain⟨i,i1,i2,rfl⟩:=akW hy
  refine tot _ (k2 i i1 i2) fun e=> ?_
  by_cases c_:i=k
  · subst c_;exact k3 ⟨i2,e⟩
  · have:=DK k i (by omega) i2
    rw[e] at this
    exact k2 k (aqM _) (by omega) this
 have fst:∀y∈l.take k,before y x:=fun y hy=>by
  obtain⟨i,i1,rfl⟩:=acA hy hk
  exact k1 i i1
 refine⟨fun y hy=> ?_, ?_⟩
 · unfold tr at hy
   rw[aqP,aqP] at hy
   rcases hy with(hy|hy)|hy
   · exact h1 y (List.mem_of_mem_take hy)
   · rw[aq1.1 hy];exact hx
   · exact h1 y (List.mem_of_mem_drop hy)
 · unfold tr
   rw[List.append_assoc,List.pairwise_append]
   refine⟨h2.sublist (List.take_sublist _ _), ?_,fun y hy z hz=> ?_⟩
   · rw[List.pairwise_append]
     refine⟨List.pairwise_singleton _ _,h2.sublist (List.drop_sublist _ _),fun y hy z hz=> ?_⟩
     rw[aq1.1 hy]
     exact mn z hz
   · rw[aqP] at hz
     rcases hz with hz|hz
     · rw[aq1.1 hz];exact fst y hy
     · exact HT (fst y hy) (mn z hz)
theorem aoT{l:List Part}(h1:∀x∈l,nk b x)(h2:l.Pairwise before)(k:Nat):(∀y∈Cw l k,nk b y)∧(Cw l k).Pairwise before:=by
 have hs:(Cw l k).Sublist l:=by
  have h3:(l.take k++l.drop (k+1)).Sublist (l.take k++l.drop k):=List.Sublist.append (List.Sublist.refl _) (by rw[show k+1=k+1 from rfl,←List.drop_drop];exact List.drop_sublist _ _)
  rwa[List.take_append_drop] at h3
 exact⟨fun y hy=>h1 y (hs.subset hy),h2.sublist hs⟩
end
end Rx
namespace Rx
open Classical
section
variable {b:aj} {p:ae}
theorem QN(v:en b p){l:List Part}(h:(∀x∈l,nk b x)∧l.Pairwise before)(hl:l.length≤32):en b ⟨p.aq,p.aa,p.aE,l⟩:=by
 obtain⟨hp,h0⟩:=v
 obtain⟨h2,hs,g1,g2,g3⟩:=bM.1 h0
 refine⟨⟨hp.1,hp.2.1,hp.2.2.1,by unfold Sm;simp only;omega⟩,bM.2 ⟨h2,hs,⟨Zp.2 h,hl⟩,g2,fun k hk=> ?_⟩⟩
 obtain⟨f1,f2⟩:=g3 k hk
 refine⟨f1, ?_⟩
 have e:cI b ⟨p.aq,p.aa,p.aE,l⟩ (k:Int) b.ad.length=cI b p (k:Int) b.ad.length:=yH fun i _ _ _=>rfl
 rw[e]
 exact f2
def aad(x:Part)(q:ae):Prop:=x∈q.aA∧(x.Kind=1→(gt q.aa x.Number.toNat).State=3)
theorem aa4(hb:bP b)(v:en b p){t:Int}{x:Part}(hx:nk b x)(br:Bool):Wp (Dm ⟨b,p,t⟩ x br) fun r=>r.1=0→en b (fC r)∧(br=true→aad x (fC r)):=by
 obtain⟨⟨hl,hg⟩,⟨s1,s2,s3⟩,⟨g1,g2⟩,g3,g4⟩:=bM.1 v.2
 obtain⟨b1,b2⟩:=Zp.1 g1
 obtain⟨k,hk,k1,k2,hf⟩:=aaM hl b1 b2 g2 hx
 unfold Dm
 simp only[hf,aqF]
 refine Wp.ite (fun _=>al.2 fun e=>by cases e) fun h1=> ?_
 refine Wp.bind (Q:=fun c=>c=false→br=true→p.aA.length<32) ?_ fun c hc=> ?_
 · refine Wp.ite (fun _=>al.2 fun e _=> ?_) fun h=>al.2 fun _ e=>by rw[e] at h;cases h
   have:=of_decide_eq_false e
   unfold len at this
   omega
 refine Wp.ite (fun _=>al.2 fun e=>by cases e) fun h2=> ?_
 have hc:=hc h2
 refine Wp.bind (Q:=fun y=>en b ⟨p.aq,p.aa,p.aE,y.2.2.2.2.2.2.2⟩∧(br=true→x∈y.2.2.2.2.2.2.2)) ?_ fun y hy=> ?_
 · refine Wp.ite (fun jq=> ?_) fun jq=> ?_
   · have iG:¬(k<p.aA.length∧gt p.aA k=x):=fun hn=>by
      rw[il hn,jq] at h1
      cases h1
     have ah4:DP p.aA (k:Int) [x]=some (tr p.aA k x):=by
      unfold DP A8
      rw[cp (by simp;omega)]
      simp[len,hk,tr]
     rw[ah4]
     refine al.2 ⟨QN v (aoU b1 b2 hx hk k1 k2 iG) ?_,fun _=>by unfold tr;simp⟩
     have:=hc jq
     unfold tr
     simp
     omega
   · have mU:k<p.aA.length∧gt p.aA k=x:=by
      refine aq6 fun hn=> ?_
      rw[fq hn,jq] at h1
      cases h1
     have hd:DY p.aA (k:Int) (W ((k:Int)+1))=some (Cw p.aA k):=by
      rw[aU (by omega)]
      unfold DY B_
      rw[show decide ((0:Int)≤(k:Int))=true from dT (by omega),show decide ((k:Int)≤((k+1:Nat):Int))=true from dT (by omega),show decide (((k+1:Nat):Int)≤len p.aA)=true from dT (by unfold len;omega)]
      rfl
     rw[hd]
     refine al.2 ⟨QN v (aoT b1 b2 k) ?_,fun e=>by rw[jq] at e;cases e⟩
     unfold Cw
     simp
     omega
 · obtain⟨vy,my⟩:=hy
   refine Wp.bind (Q:=fun S=>en b ⟨p.aq,S,p.aE,y.2.2.2.2.2.2.2⟩∧(br=true→x.Kind=1→(gt S x.Number.toNat).State=3)) ?_ fun S hS=>al.2 fun _=>⟨hS.1,fun e=>⟨my e,hS.2 e⟩⟩
   refine Wp.ite (fun cZ=> ?_) fun cZ=>al.2 ⟨vy,fun _ e=>by rw[eh e] at cZ;cases cZ⟩
   have cZ:x.Kind=1:=by simpa using cZ
   obtain⟨n0,n1⟩:=hx
   unfold bsize at n1
   rw[if_pos cZ] at n1
   obtain⟨j,hj⟩:=ara n0
   have hj:x.Number=(j:Int):=hj
   have bW:j<p.aa.length:=by omega
   have pR:∀z,j<(p.aa.set j z).length:=fun z=>by simpa using bW
   have hr:=abg v bW
   simp only[hj,az bW,fg bW,aqF,az (pR _),fg (pR _),dz bW,if_pos,List.set_set,Int.toNat_natCast]
   refine Wp.bind (Q:=fun S=>en b ⟨p.aq,S,p.aE,y.2.2.2.2.2.2.2⟩∧(br=true→(gt S j).State=3)) ?_ fun S hS=>al.2 ⟨hS.1,fun e _=>hS.2 e⟩
   refine Wp.ite (fun jq=>al.2 ⟨Dt vy bW ?_,fun _=>by rw[dz bW,if_pos rfl]⟩) fun jq=>al.2 ⟨Dt vy bW ?_,fun e=>by rw[jq] at e;cases e⟩
   · unfold dq at*;simp only;omega
   · unfold dq at*;simp only;omega
theorem aeN(k n:Int):qB b k n=some (decide (0≤n∧n<bsize b k)):=by
 have key:∀z:Int,(ar_ (if decide (n≥0)=true then some (decide (n<z)) else some false) fun x5=>some x5)=some (decide (0≤n∧n<z)):=fun z=>by
  by_cases h:0≤n
  · simp[h]
  · simp[h]
 unfold qB bsize
 by_cases h1:k=1
 · simp only[h1,beq_self_eq_true,if_true,aqF];exact key _
 by_cases h2:k=2
 · subst h2;exact key _
 by_cases h3:k=3
 · subst h3;exact key _
 by_cases h4:k=4
 · subst h4;exact key _
 rw[bY h1,bY h2,bY h3,bY h4,if_neg h1,if_neg h2,if_neg h3,if_neg h4]
 exact key _
def Iy(b:aj)(a:Act):Prop:=((a.Kind=1∨a.Kind=2)→0≤a.Unit∧a.Unit<(b.ad.length:Int))∧((a.Kind=3∨a.Kind=4∨a.Kind=6)→0≤a.Unit∧a.Unit<(b.aa.length:Int))∧(a.Kind=5→0≤a.Unit∧a.Unit<(b.ai.length:Int))∧(a.Kind=6→0≤a.Value∧a.Value<b.ak)∧((a.Kind=8∨a.Kind=9)→nk b ⟨a.Value,a.Unit⟩)
theorem QE(a:Act):Wp (As b a) fun c=>c=true→Iy b a:=by
 unfold As Iy nk
 simp only[aeN]
 by_cases h1:a.Kind=1∨a.Kind=2
 · have e:(if(a.Kind==1)=true then some (a.Kind==1) else some (a.Kind==2))=some true:=by rcases h1 with h|h<;>rw[h]<;>rfl
   rw[e]
   refine al.2 fun hc=> ?_
   have hc:=of_decide_eq_true hc
   have hz:bsize b 2=(b.ad.length:Int):=rfl
   refine⟨fun _=>by omega,fun _=>by omega,fun _=>by omega,fun _=>by omega,fun _=>by omega⟩
 have e1:(if(a.Kind==1)=true then some (a.Kind==1) else some (a.Kind==2))=some false:=by rw[bY (fun h=>h1 (.inl h)),bY (fun h=>h1 (.inr h))];rfl
 rw[e1]
 simp only[aqF,aqG,if_false]
 by_cases h2:a.Kind=3∨a.Kind=4
 · have e:(if(a.Kind==3)=true then some (a.Kind==3) else some (a.Kind==4))=some true:=by rcases h2 with h|h<;>rw[h]<;>rfl
   rw[e]
   refine al.2 fun hc=> ?_
   have hc:=of_decide_eq_true hc
   have hz:bsize b 1=(b.aa.length:Int):=rfl
   refine⟨fun _=>by omega,fun _=>by omega,fun _=>by omega,fun _=>by omega,fun _=>by omega⟩
 have e2:(if(a.Kind==3)=true then some (a.Kind==3) else some (a.Kind==4))=some false:=by rw[bY (fun h=>h2 (.inl h)),bY (fun h=>h2 (.inr h))];rfl
 rw[e2]
 simp only[aqF,aqG,if_false]
 have z1:bsize b 1=(b.aa.length:Int):=rfl
 have z3:bsize b 3=b.ak:=rfl
 have z4:bsize b 4=(b.ai.length:Int):=rfl
 refine Wp.ite (fun h5=>al.2 fun hc=> ?_) fun h5=> ?_
 · have h5:a.Kind=5:=by simpa using h5
   have hc:=of_decide_eq_true hc
   refine⟨fun _=>by omega,fun _=>by omega,fun _=>by omega,fun _=>by omega,fun _=>by omega⟩
 have h5:a.Kind≠5:=by simpa using h5
 refine Wp.ite (fun h6=> ?_) fun h6=> ?_
 · have h6:a.Kind=6:=by simpa using h6
   refine Wp.bind (Q:=fun c=>c=true→(0≤a.Unit∧a.Unit<bsize b 1)∧0≤a.Value∧a.Value<bsize b 3) ?_ fun c hc=>al.2 fun e=> ?_
   · refine Wp.ite (fun h=>al.2 fun h'=>⟨of_decide_eq_true h,of_decide_eq_true h'⟩) fun _=>al.2 fun e=>by cases e
   · have hc:=hc e
     refine⟨fun _=>by omega,fun _=>by omega,fun _=>by omega,fun _=>by omega,fun _=>by omega⟩
 have h6:a.Kind≠6:=by simpa using h6
 by_cases h8:a.Kind=8∨a.Kind=9
 · have e:(if(a.Kind==8)=true then some (a.Kind==8) else some (a.Kind==9))=some true:=by rcases h8 with h|h<;>rw[h]<;>rfl
   rw[e]
   refine al.2 fun hc=> ?_
   have hc:=of_decide_eq_true hc
   refine⟨fun _=>by omega,fun _=>by omega,fun _=>by omega,fun _=>by omega,fun _=>⟨hc.1,by have:=hc.2;omega⟩⟩
 have e8:(if(a.Kind==8)=true then some (a.Kind==8) else some (a.Kind==9))=some false:=by rw[bY (fun h=>h8 (.inl h)),bY (fun h=>h8 (.inr h))];rfl
 rw[e8]
 refine al.2 fun hc=> ?_
 refine⟨fun _=>by omega,fun _=>by omega,fun _=>by omega,fun _=>by omega,fun h=>(h8 h).elim⟩
def qj(b:aj)(a:Act)(q:ae):Prop:=en b q∧(a.Kind=8→aad ⟨a.Value,a.Unit⟩ q)
theorem aaz(hb:bP b)(v:en b p){t:Int}(t0:0≤t)(t1:t≤2147483648){a:Act}(hk:1≤a.Kind∧a.Kind≤9)(hn:Iy b a):Wp (Dq ⟨b,p,t⟩ a) fun r=>(r.1=0→qj b a (fC r))∧(a.Kind=7→r.1=0∧(cH b p=p.aa→cH b (fC r)=(fC r).aa)):=by
 obtain⟨n1,n2,n3,n4,n5⟩:=hn
 unfold Dq
 refine Wp.bind (Q:=fun(r:WR)=>(r.1=0→qj b a (fC r))∧(a.Kind=7→r.1=0∧(cH b p=p.aa→cH b (fC r)=(fC r).aa))) ?_ fun r h=>al.2 h
 refine Wp.ite (fun h=> ?_) fun h1=> ?_
 · have h:a.Kind=1:=by simpa using h
   obtain⟨i,hi⟩:=ara (n1 (.inl h)).1
   have hi:a.Unit=(i:Int):=hi
   rw[hi]
   exact(aa6 hb v (by have:=(n1 (.inl h)).2;omega)).bind fun r hr=>al.2 ⟨fun e=>⟨hr e,fun h8=>(by omega)⟩,fun h7=>(by omega)⟩
 refine Wp.bind (Q:=fun(r:WR)=>(r.1=0→qj b a (fC r))∧(a.Kind=7→r.1=0∧(cH b p=p.aa→cH b (fC r)=(fC r).aa))) ?_ fun r h=>al.2 h
 refine Wp.ite (fun h=> ?_) fun h2=> ?_
 · have h:a.Kind=2:=by simpa using h
   obtain⟨i,hi⟩:=ara (n1 (.inr h)).1
   have hi:a.Unit=(i:Int):=hi
   rw[hi]
   exact(aaS hb v (by have:=(n1 (.inr h)).2;omega)).bind fun r hr=>al.2 ⟨fun e=>⟨hr e,fun h8=>(by omega)⟩,fun h7=>(by omega)⟩
 refine Wp.bind (Q:=fun(r:WR)=>(r.1=0→qj b a (fC r))∧(a.Kind=7→r.1=0∧(cH b p=p.aa→cH b (fC r)=(fC r).aa))) ?_ fun r h=>al.2 h
 refine Wp.ite (fun h=> ?_) fun h6=> ?_
 · have h:a.Kind=6:=by simpa using h
   obtain⟨u0,u1⟩:=n2 (.inr (.inr h))
   obtain⟨v0,v1⟩:=n4 h
   obtain⟨i,hi⟩:=ara u0
   have hi:a.Unit=(i:Int):=hi
   rw[hi]
   exact(aaX hb v (by omega) v0 v1).bind fun r hr=>al.2 ⟨fun e=>⟨hr e,fun h8=>(by omega)⟩,fun h7=>(by omega)⟩
 refine Wp.bind (Q:=fun(r:WR)=>(r.1=0→qj b a (fC r))∧(a.Kind=7→r.1=0∧(cH b p=p.aa→cH b (fC r)=(fC r).aa))) ?_ fun r h=>al.2 h
 refine Wp.ite (fun h=> ?_) fun h3=> ?_
 · have h:a.Kind=3:=by simpa using h
   obtain⟨u0,u1⟩:=n2 (.inl h)
   obtain⟨i,hi⟩:=ara u0
   have hi:a.Unit=(i:Int):=hi
   rw[hi]
   exact(aaJ hb v t0 t1 (by omega)).bind fun r hr=>al.2 ⟨fun e=>⟨hr e,fun h8=>(by omega)⟩,fun h7=>(by omega)⟩
 refine Wp.bind (Q:=fun(r:WR)=>(r.1=0→qj b a (fC r))∧(a.Kind=7→r.1=0∧(cH b p=p.aa→cH b (fC r)=(fC r).aa))) ?_ fun r h=>al.2 h
 refine Wp.ite (fun h=> ?_) fun h4=> ?_
 · have h:a.Kind=4:=by simpa using h
   obtain⟨u0,u1⟩:=n2 (.inr (.inl h))
   obtain⟨i,hi⟩:=ara u0
   have hi:a.Unit=(i:Int):=hi
   rw[hi]
   exact(aaG hb v (by omega)).bind fun r hr=>al.2 ⟨fun e=>⟨hr e,fun h8=>(by omega)⟩,fun h7=>(by omega)⟩
 refine Wp.bind (Q:=fun(r:WR)=>(r.1=0→qj b a (fC r))∧(a.Kind=7→r.1=0∧(cH b p=p.aa→cH b (fC r)=(fC r).aa))) ?_ fun r h=>al.2 h
 refine Wp.ite (fun h=> ?_) fun h5=> ?_
 · have h:a.Kind=5:=by simpa using h
   obtain⟨u0,u1⟩:=n3 h
   obtain⟨i,hi⟩:=ara u0
   have hi:a.Unit=(i:Int):=hi
   rw[hi]
   exact(aa1 hb v (by omega) _).bind fun r hr=>al.2 ⟨fun e=>⟨hr e,fun h8=>(by omega)⟩,fun h7=>(by omega)⟩
 refine Wp.bind (Q:=fun(r:WR)=>(r.1=0→qj b a (fC r))∧(a.Kind=7→r.1=0∧(cH b p=p.aa→cH b (fC r)=(fC r).aa))) ?_ fun r h=>al.2 h
 refine Wp.ite (fun h=> ?_) fun h7=> ?_
 · have h:a.Kind=7:=by simpa using h
   exact(aaA hb v).bind fun r hr=>al.2 ⟨fun e=>⟨hr.1,fun h8=>(by omega)⟩,fun _=>⟨rfl,hr.2⟩⟩
 have e1:a.Kind≠1:=by simpa using h1
 have e2:a.Kind≠2:=by simpa using h2
 have e3:a.Kind≠3:=by simpa using h3
 have e4:a.Kind≠4:=by simpa using h4
 have e5:a.Kind≠5:=by simpa using h5
 have e6:a.Kind≠6:=by simpa using h6
 have e7:a.Kind≠7:=by simpa using h7
 exact(aa4 hb v (n5 (by omega)) _).bind fun r hr=>al.2 ⟨fun e=>⟨(hr e).1,fun h8=>(hr e).2 (eh h8)⟩,fun h7=>(e7 h7).elim⟩
theorem QI(hb:bP b)(v:en b p){t:Int}(t0:0≤t)(t1:t≤2147483648)(a:Act):Wp (Av b p t a) fun r=>(r.1=0→qj b a ⟨r.2.1,r.2.2.1,r.2.2.2.1,r.2.2.2.2⟩)∧(a=⟨7,0,0⟩→r.1=0∧(cH b p=p.aa→cH b ⟨r.2.1,r.2.2.1,r.2.2.2.1,r.2.2.2.2⟩=r.2.2.1)):=by
 unfold Av
 have e:(aJ b p !=0)=false:=by rw[v.2];rfl
 simp only[mH hb v.1,aqF,e,aqG,if_false,dF (c:=t<0) (by omega),dF (c:=t>2147483648) (by omega),oY v.1]
 refine Wp.bind (Q:=fun c=>c=false↔1≤a.Kind∧a.Kind≤9) ?_ fun c hc=> ?_
 · refine Wp.ite (fun h=>al.2 ?_) fun h=>al.2 ?_
   · have h:=of_decide_eq_true h
     exact⟨fun e=>(by cases e),fun e=>(by omega)⟩
   · have h:=of_decide_eq_false h
     rw[decide_eq_false_iff_not]
     omega
 refine Wp.ite (fun h=>al.2 ⟨fun e=>(by cases e),fun e=> ?_⟩) fun h=> ?_
 · subst e
   have:=hc.2 ⟨by decide,by decide⟩
   rw[h] at this
   cases this
 have hk:=hc.1 h
 refine Wp.bind (Q:=fun c=>(c=true→Iy b a)∧(a=⟨7,0,0⟩→c=true)) ?_ fun c hc=> ?_
 · by_cases hw:a=⟨7,0,0⟩
   · subst hw
     obtain⟨c,h1,h2⟩:=QE (b:=b) ⟨7,0,0⟩
     have u4:As b ⟨7,0,0⟩=some true:=rfl
     rw[u4] at h1
     cases h1
     exact⟨true,u4,h2,fun _=>rfl⟩
   · exact(QE a).mono fun c h=>⟨h,fun e=>(hw e).elim⟩
 refine Wp.ite (fun h=>al.2 ⟨fun e=>(by cases e),fun e=>(by rw[hc.2 e] at h;cases h)⟩) fun h=> ?_
 have hc:=hc.1 (by simpa using h)
 refine(aaz hb v t0 t1 hk hc).bind fun r hr=> ?_
 refine Wp.ite (fun h=>al.2 ⟨fun e=> ?_,fun e=> ?_⟩) fun h=>al.2 ⟨fun _=>hr.1 (by simpa using h),fun e=>⟨rfl,(hr.2 (by rw[e])).2⟩⟩
 · have h:r.1≠0:=by simpa using h
   exact(h e).elim
 · have h:r.1≠0:=by simpa using h
   exact(h (hr.2 (by rw[e])).1).elim
end
end Rx
namespace Rx
open Classical
section
variable {b:aj} {p:ae}
def mx(b:aj)(a:Act):Prop:=(a.Kind=2∧0≤a.Unit∧a.Unit<(b.ad.length:Int))∨(a.Kind=5∧0≤a.Unit∧a.Unit<(b.ai.length:Int))
theorem Gr{α β:Type}{f:β→α→β}{P:β→Prop}:∀{l:List α},(∀s x,x∈l→P s→P (f s x))→∀s,P s→P (l.foldl f s)
 |[],_,s,h=>h
 |x::l,hf,s,h=>Gr (l:=l) (fun s y hy=>hf s y (List.mem_cons_of_mem _ hy)) (f s x) (hf s x (List.mem_cons_self ..) h)
theorem Pk{C:List Bool}{P:Nat→Bool}(hc:C.length=b.ad.length):∀a∈(ef C P).map mq,mx b a:=fun a ha=>by
 obtain⟨k,hk,rfl⟩:=List.mem_map.1 ha
 have:=vw k hk
 exact .inl ⟨rfl,this.1,by show k<_;omega⟩
theorem H2{l m:List Act}(h:∀a∈l,mx b a)(h':∀a∈m,mx b a):∀a∈l++m,mx b a:=fun a ha=>(aqP.1 ha).elim (h a) (h' a)
theorem afD{x:aR}{T o:List Int}(ho:∀c∈o,0≤c∧c<(b.ai.length:Int))(s:List Int×List Act)(hs:∀a∈s.2,mx b a):∀a∈(fv b x T o s).2,mx b a:=
 Gr (P:=fun(s:List Int×List Act)=>∀a∈s.2,mx b a) (fun s c hc hs=>by
  unfold mJ
  split
  · exact H2 hs fun a ha=>by rw[aq1.1 ha];exact .inr ⟨rfl,ho c hc⟩
  · exact hs) s hs
theorem acj(h:aJ b p=0){x:aR}{L o:List Int}(s:List Int×List Act)(hs:∀a∈s.2,mx b a):∀a∈(ix b p x L o s).2,mx b a:=
 Gr (P:=fun(s:List Int×List Act)=>∀a∈s.2,mx b a) (fun s c hc hs=>by
  unfold mG
  split
  · exact H2 hs (Pk (by show(eG p.aq _).length=_;rw[gV];exact(iK h).1))
  · exact hs) s hs
theorem adu(h:aJ b p=0):∀a∈(rM b p).2.2,mx b a:=
 Gr (P:=fun(s:List Int×List Int×List Act)=>∀a∈s.2.2,mx b a) (fun s x hx hs=>by
  unfold Ag
  split
  · exact hs
  · exact acj h _ (afD (KC h hx).2.1 _ hs)) _ (fun a ha=>by cases ha)
theorem alh(h:aJ b p=0):∀a∈rh b p,mx b a:=by
 obtain⟨s1,_⟩:=iK h
 unfold rh
 exact H2 (Pk s1) (Pk (by show(eG p.aq _).length=_;rw[gV];exact s1))
theorem aeB(h:aJ b p=0):∀a∈rT b p,mx b a:=H2 (alh h) (adu (rI h))
theorem aeD(h:aJ b p=0):(rT b p).length≤1000000:=by
 have h1:=VY h
 have h2:=(Ei (rI h) (aT b (iJ b p)).length (aqM _)).2
 rw[List.take_length] at h2
 have ke:=xF (b:=b) (p:=iJ b p)
 have jI:=(bM.1 h).1.1.fe
 unfold rT
 rw[aqY]
 have:(rM b (iJ b p)).2.2.length≤20000*(aT b (iJ b p)).length:=h2
 omega
theorem aeC(h:aJ b p=0):Clean b (iP b p):=alr (rI h) (als h) (J4 (rI h)) _
def Gd(b:aj)(p:ae):Prop:=en b p∧cH b p=p.aa
theorem ajL(v:en b p):Gd b (iP b p):=⟨⟨ada v.1 v.2,acQ v.2⟩,(aeC v.2).gm⟩
theorem akO{a b:List Bool}(ha:Sm a):DU a b=some (dB (a=b)):=by
 unfold DU
 by_cases hl:a.length=b.length
 · have e1:(len a !=len b)=false:=by simp[len,hl]
   have h:=Fo (step:=wM a b) (fun k=>(k:Int)) a.length (fun k=>gt a k≠gt b k) (r:= .inr false) (e:= .inl ())
    (fun k hk hp=>by
      have e2:(!gt a k==gt b k)=false:=by simpa using hp
      simp only[wM,aQ hk,if_true,az hk,az (show k<b.length by omega),aqF,e2,aqG,if_false,aU (cM ha hk)])
    (fun k hk hp=>by
      have e2:(!gt a k==gt b k)=true:=by simpa using hp
      simp only[wM,aQ hk,if_true,az hk,az (show k<b.length by omega),aqF,e2])
    (by simp only[wM,bl,aqG,if_false])
   have h':ay (wM a b) 0=_:=h
   simp only[e1,aqG,if_false,h',aqF]
   by_cases he:a=b
   · subst he
     rw[fq (p:=∃k,k<a.length∧gt a k≠gt a k) (by simp),il rfl]
     rfl
   · have:∃k,k<a.length∧gt a k≠gt b k:=by
      apply aq6
      intro hn
      exact he (fp hl fun k hk=>aq6 fun h=>hn ⟨k,hk,h⟩)
     rw[il this,fq he]
     rfl
 · have e1:(len a !=len b)=true:=by simp[len];omega
   have he:a≠b:=fun e=>hl (e▸rfl)
   rw[fq he]
   simp only[e1,if_true]
theorem akN{a b:List Int}(ha:Sm a):DT a b=some (dB (a=b)):=by
 unfold DT
 by_cases hl:a.length=b.length
 · have e1:(len a !=len b)=false:=by simp[len,hl]
   have h:=Fo (step:=wL a b) (fun k=>(k:Int)) a.length (fun k=>gt a k≠gt b k) (r:= .inr false) (e:= .inl ())
    (fun k hk hp=>by
      simp only[wL,aQ hk,if_true,az hk,az (show k<b.length by omega),aqF,tv (Classical.not_not.1 hp),aqG,if_false,aU (cM ha hk)])
    (fun k hk hp=>by
      simp only[wL,aQ hk,if_true,az hk,az (show k<b.length by omega),aqF,HR hp])
    (by simp only[wL,bl,aqG,if_false])
   have h':ay (wL a b) 0=_:=h
   simp only[e1,aqG,if_false,h',aqF]
   by_cases he:a=b
   · subst he
     rw[fq (p:=∃k,k<a.length∧gt a k≠gt a k) (by simp),il rfl]
     rfl
   · have:∃k,k<a.length∧gt a k≠gt b k:=by
      apply aq6
      intro hn
      exact he (fp hl fun k hk=>aq6 fun h=>hn ⟨k,hk,h⟩)
     rw[il this,fq he]
     rfl
 · have e1:(len a !=len b)=true:=by simp[len];omega
   have he:a≠b:=fun e=>hl (e▸rfl)
   rw[fq he]
   simp only[e1,if_true]
theorem QA{q:ae}(hp:bA p):Wp (zM p q) fun c=>p=q→c=true:=by
 obtain⟨h1,h2,h3,h4⟩:=hp
 unfold zM
 simp only[akO h1,akN h3,akL h2,akM h4,aqF]
 by_cases e:p=q
 · subst e
   simp only[il]
   exact al.2 fun _=>rfl
 · refine Wp.bind (Q:=fun _=>True) ?_ fun c _=>al.2 fun h=>(e h).elim
   refine Wp.ite (fun _=> ?_) fun _=>al.2 trivial
   refine Wp.ite (fun _=> ?_) fun _=>al.2 trivial
   refine Wp.ite (fun _=>al.2 trivial) fun _=>al.2 trivial
section
variable {t:Int} {R:List bf} {E ev:List Event} {st:List ae}
theorem So(h:ev.length≤1000000000)(a:Act)(e:Int):Aj ⟨⟨t,p,R,E⟩,b,ev,st⟩ a e=some (t,p.aq,p.aa,p.aE,p.aA,b.ak,b.aG,b.aB,R,E,b.ad,b.aa,b.ai,st,ev++[⟨t,a,e⟩]):=by
 unfold Aj
 rw[cp (by simp;omega)]
 rfl
theorem Kj(h:st.length≤1000000000){q:ae}(hq:bA q):wZ ⟨⟨t,p,R,E⟩,b,ev,st⟩ q=some (t,p.aq,p.aa,p.aE,p.aA,b.ak,b.aG,b.aB,R,E,b.ad,b.aa,b.ai,ev,q.aq,q.aa,q.aE,q.aA,st++[q]):=by
 unfold wZ
 simp only[oY hq,aqF]
 rw[cp (by simp;omega)]
 rfl
def yC(b:aj)(t:Int)(q:ae)(R:List bf)(E ev:List Event)(st:List ae):Int×List Bool×List aC×List Int×List Part×Int×Int×Int×List bf×List Event×List aO×List Source×List Consumer×List Event×List ae:=(t,q.aq,q.aa,q.aE,q.aA,b.ak,b.aG,b.aB,R,E,b.ad,b.aa,b.ai,ev,st)
def Did(b:aj)(t:Int)(p:ae)(a:Act)(ev:List Event)(st:List ae)(q:ae)(cB:List Event)(dw:List ae):Prop:=
 (q=p∧dw=st∧∃e,e≠0∧cB=ev++[⟨t,a,e⟩])∨∃x S,qj b a x∧q=iP b x∧dw=st++x::S
theorem QG(hb:bP b)(g:Gd b p)(t0:0≤t)(t1:t≤2147483648)(bh:ev.length≤100000000)(bD:st.length≤100000000)(a:Act):Wp (Al ⟨⟨t,p,R,E⟩,b,ev,st⟩ a) fun r=>∃q cB dw,r=yC b t q R E cB dw∧Gd b q∧cB.length≤ev.length+1000001∧dw.length≤st.length+1000002∧Did b t p a ev st q cB dw:=by
 unfold Al
 refine(QI hb g.1 t0 t1 a).bind fun r hr=> ?_
 refine Wp.bind (Q:=fun e=>e=0→r.1=0) ?_ fun e he=> ?_
 · refine Wp.ite (fun _=>al.2 fun h=>by cases h) fun _=>al.2 fun h=>h
 rw[So (by omega)]
 simp only[aqF]
 refine Wp.ite (fun h=>al.2 ?_) fun h=> ?_
 · exact⟨p,_,st,rfl,g,by simp,by omega,.inl ⟨rfl,rfl,e,by simpa using h,rfl⟩⟩
 have ha:=hr.1 (he (by simpa using h))
 obtain⟨x,hx⟩:∃x:ae,x=⟨r.2.1,r.2.2.1,r.2.2.2.1,r.2.2.2.2⟩:=⟨_,rfl⟩
 rw[←hx] at ha
 have nL:(⟨b.ak,b.ad,b.aa,b.ai,b.aG,b.aB⟩:aj)=b:=rfl
 have hxe:(⟨x.aq,x.aa,x.aE,x.aA⟩:ae)=x:=rfl
 rw[←hx,Kj (by omega) ha.1.1]
 simp only[aqF,nL,hxe,aeA hb ha.1.1 ha.1.2]
 have hA:=aeB ha.1.2
 have hAl:=aeD ha.1.2
 obtain⟨l1,l2,_,_,l5,l6⟩:=iK ha.1.2
 have gq:=ajL ha.1
 refine Wp.bind (Q:=fun s=>∃C L cB S,s=(t,p.aq,p.aa,p.aE,p.aA,b.ak,b.aG,b.aB,R,E,b.ad,b.aa,b.ai,C,x.aa,L,x.aA,cB,st++x::S)∧bA ⟨C,x.aa,L,x.aA⟩∧cB.length=ev.length+1+(rT b x).length∧S.length=(rT b x).length) ?_ fun s hs=> ?_
 · refine dO (rT b x).length (fun k s=>∃C L cB S,s=((k:Int),t,p.aq,p.aa,p.aE,p.aA,b.ak,b.aG,b.aB,R,E,b.ad,b.aa,b.ai,C,x.aa,L,x.aA,cB,st++x::S)∧C.length=b.ad.length∧L.length=b.ai.length∧cB.length=ev.length+1+k∧S.length=k) ⟨x.aq,x.aE,_,[],rfl,l1,l6,by simp,rfl⟩ ?_ ?_
   · rintro k s hk ⟨C,L,cB,S,rfl,c1,c2,c3,c4⟩
     unfold Kg
     simp only[aQ hk,if_true,az hk,aqF]
     rw[So (by omega)]
     simp only[aqF]
     have hai:=hA _ (cV hk)
     refine Wp.bind (Q:=fun y=>y.1.length=b.ad.length∧y.2.length=b.ai.length) ?_ fun y hy=> ?_
     · rcases hai with⟨a1,a2,a3⟩|⟨a1,a2,a3⟩
       · rw[a1,if_pos (by decide),fQ a2 (by omega),Rl a2 (by omega)]
         exact al.2 ⟨by simpa using c1,c2⟩
       · rw[a1,if_neg (by decide),fQ a2 (by omega),Rl a2 (by omega)]
         exact al.2 ⟨c1,by simpa using c2⟩
     have df:bA ⟨y.1,x.aa,y.2,x.aA⟩:=⟨by show y.1.length≤_;omega,ha.1.1.2.1,by show y.2.length≤_;omega,ha.1.1.2.2.2⟩
     rw[Kj (by rw[aqY,arz];omega) df]
     refine al.2 ⟨y.1,y.2,cB++[⟨t,gt (rT b x) k,0⟩],S++[⟨y.1,x.aa,y.2,x.aA⟩], ?_,hy.1,hy.2,by rw[aqY];simp only[List.length_singleton];omega,by rw[aqY];simp only[List.length_singleton];omega⟩
     rw[aU (by omega)]
     simp
   · rintro s ⟨C,L,cB,S,rfl,c1,c2,c3,c4⟩
     unfold Kg
     simp only[bl,aqG,if_false]
     exact al.2 ⟨C,L,cB,S,rfl,⟨by show C.length≤_;omega,ha.1.1.2.1,by show L.length≤_;omega,ha.1.1.2.2.2⟩,c3,c4⟩
 obtain⟨C,L,cB,S,rfl,c1,c2,c3⟩:=hs
 simp only
 refine(QA c1).bind fun c _=> ?_
 have hqe:(⟨(iP b x).aq,(iP b x).aa,(iP b x).aE,(iP b x).aA⟩:ae)=iP b x:=rfl
 refine Wp.bind (Q:=fun s=>∃S',S'.length≤S.length+1∧s=(t,p.aq,p.aa,p.aE,p.aA,b.ak,b.aG,b.aB,R,E,b.ad,b.aa,b.ai,(iP b x).aq,(iP b x).aa,(iP b x).aE,(iP b x).aA,cB,st++x::S')) ?_ fun s hs=> ?_
 · refine Wp.ite (fun _=> ?_) fun _=>al.2 ⟨S,by omega,rfl⟩
   rw[hqe,Kj (by rw[aqY,arz];omega) gq.1.1]
   exact al.2 ⟨S++[iP b x],by simp,by simp⟩
 · obtain⟨S',h1,rfl⟩:=hs
   exact al.2 ⟨iP b x,cB,st++x::S',rfl,gq,by omega,by simp;omega,.inr ⟨x,S',ha,rfl,rfl⟩⟩
end
end
end Rx
namespace Rx
open Classical
section
variable {b:aj} {p:ae}
theorem HF(hs:Sm b.ad)(hb:bn b){j:Nat}(hj:j<b.aa.length):uj b (j:Int)=some (bk b j:Int):=by
 obtain⟨h1,h2,h3⟩:=CP hb hj
 have h:=kZ (step:=wJ b.ad (j:Int)) (fun i=>(i:Int)) b.ad.length (fun i=>decide (fw (gt b.ad i) j)) (R:=fun i=> .inr (i:Int)) (e:= .inl ())
  (fun i hi hq=>by
    have hq:¬fw (gt b.ad i) j:=by simpa using hq
    have e:w6 (gt b.ad i) (j:Int)=some false:=by
     unfold w6
     unfold fw at hq
     by_cases hk:(gt b.ad i).Kind=2
     · have hB:¬(gt b.ad i).B=(j:Int):=fun h=>hq ⟨hk,h⟩
       simp[hk,hB]
     · simp[hk]
    simp only[wJ,aQ hi,if_true,az hi,aqF,e,aqG,if_false,aU (cM hs hi)])
  (fun i hi hq=>by
    have hq:fw (gt b.ad i) j:=by simpa using hq
    have e:w6 (gt b.ad i) (j:Int)=some true:=by
     unfold w6
     simp[hq.1,hq.2]
    simp only[wJ,aQ hi,if_true,az hi,aqF,e])
  (by simp only[wJ,bl,aqG,if_false])
 rw[Vr h1 (by simpa using h2) fun i hi hq=>h3 i hi (by simpa using hq)] at h
 have h':ay (wJ b.ad (j:Int)) 0=_:=h
 unfold uj JE
 rw[h']
 rfl
def vT(t:fL):Prop:=(1≤t.Stop∧t.Stop≤99)∧(t.Stop<t.Start∧t.Start≤100)∧0≤t.pb∧t.pb≤600
theorem zE(t:fL):uk t=some (decide (vT t)):=by
 unfold uk
 by_cases h:vT t
 · obtain⟨⟨h1,h2⟩,⟨h3,h4⟩,h5,h6⟩:=h
   rw[dT (show vT t from⟨⟨h1,h2⟩,⟨h3,h4⟩,h5,h6⟩)]
   simp[h1,h2,h3,h4,h5,h6]
 · rw[dF h]
   by_cases h1:t.Stop≥1
   case neg=>simp[h1]
   by_cases h2:t.Stop≤99
   case neg=>simp[h1,h2]
   by_cases h3:t.Start>t.Stop
   case neg=>simp[h1,h2,h3]
   by_cases h4:t.Start≤100
   case neg=>simp[h1,h2,h3,h4]
   by_cases h5:t.pb≥0
   case neg=>simp[h1,h2,h3,h4,h5]
   by_cases h6:t.pb≤600
   case neg=>simp[h1,h2,h3,h4,h5,h6]
   exact absurd ⟨⟨h1,h2⟩,⟨h3,h4⟩,h5,h6⟩ h
theorem aaE{l:List Int}{a:Int}(hs:Sr l a):Wp (If ⟨l,a⟩) fun r=>vT ⟨r.1,r.2.1,r.2.2.1⟩∧Sr r.2.2.2.1 r.2.2.2.2:=by
 unfold If
 refine(h_ hs (w:=[60,80,100]) (by simp) (by simp)).bind fun r hr=> ?_
 refine(h_ hr.2 (w:=[1,30,50]) (by simp) (by simp)).bind fun r2 FI=> ?_
 refine(h_ FI.2 (w:=[0,1,3]) (by simp) (by simp)).bind fun r3 TY=> ?_
 refine al.2 ⟨?_,TY.2⟩
 have h1:=hr.1
 have h2:=FI.1
 have h3:=TY.1
 simp only[List.mem_cons,List.not_mem_nil,or_false] at h1 h2 h3
 unfold vT
 dsimp only
 omega
theorem Td(hl:dS b)(f:Nat):Sm (cn b p f).ak∧Sm (cn b p f).aa∧Sm (cn b p f).ai:=by
 obtain⟨h1,h2,h3⟩:=qJ (b:=b) (p:=p) f
 have:=hl.src
 have:=hl.eL
 have:=hl.fe
 unfold Sm
 omega
def qR(b:aj)(p:ae)(x:aR)(j:Nat):Prop:=(¬(⟨1,(j:Int)⟩:Part)∈p.aA∧¬(⟨2,(bk b j:Int)⟩:Part)∈p.aA∧¬(⟨3,(gt b.ad (bk b j)).A⟩:Part)∈p.aA)∧(gt b.ad (bk b j)).A∈x.ak∧¬(j:Int)∈x.aa∧(gt p.aa j).State≠3
theorem aiw(hb:bP b)(hp:bA p)(h:aJ b p=0){x:aR}(h1:Sm x.ak)(h2:Sm x.aa){j:Nat}(hj:j<b.aa.length):Ap b p x (j:Int)=some (decide (qR b p x j)):=by
 obtain⟨⟨hl,hg⟩,⟨s1,s2,s3⟩,_⟩:=bM.1 h
 obtain⟨k1,k2,k3⟩:=CP hg.1 hj
 unfold Ap
 simp only[HF hb.1 hg.1 hj,aqF,az k1,Cy hp,contains_eq h1,contains_eq h2,az (show j<p.aa.length by omega)]
 unfold qR
 by_cases a1:(⟨1,(j:Int)⟩:Part)∈p.aA
 · simp[a1]
 by_cases a2:(⟨2,(bk b j:Int)⟩:Part)∈p.aA
 · simp[a1,a2]
 by_cases a3:(⟨3,(gt b.ad (bk b j)).A⟩:Part)∈p.aA
 · simp[a1,a2,a3]
 by_cases a4:(gt b.ad (bk b j)).A∈x.ak
 case neg=>simp[a1,a2,a3,a4]
 by_cases a5:(j:Int)∈x.aa
 · simp[a1,a2,a3,a4,a5]
 simp only[a1,a2,a3,a4,a5,decide_true,decide_false,aqG,if_false,if_true,aqF,ard,not_false_eq_true,and_self,true_and]
 congr 1
 by_cases a6:(gt p.aa j).State=3<;>simp[a6]
theorem l3{i:Nat}(h:i<3):((i:Int)<len ([2,1,0]:List Nat))=True:=by
 have:len ([2,1,0]:List Nat)=3:=rfl
 rw[this];simp;omega
def kW(b:aj)(p:ae)(x:aR)(st:Int)(i:Nat):Bool:=decide ((gt p.aa i).State=st∧qR b p x i)
theorem afc(hb:bP b)(hp:bA p)(h:aJ b p=0){x:aR}(h1:Sm x.ak)(h2:Sm x.aa)(c:Bool)(st:Int):ay (w7 b p (x.ak,x.aa,x.ai,c) st) 0=some (match(aqN p.aa.length).find? (kW b p x st) with|some m=> .inr (.inr (.inr ((m:Int),true)))|none=> .inl ()):=by
 obtain⟨⟨hl,hg⟩,⟨s1,s2,s3⟩,_⟩:=bM.1 h
 have df:=hp.2.1
 have key:∀i,i<p.aa.length→(if((gt p.aa i).State==st)=true then ar_ (Ap b p (aR.mk x.ak x.aa x.ai) (i:Int)) fun x6=>some x6 else some false)=some (kW b p x st i):=fun i hi=>by
  unfold kW
  by_cases hs:(gt p.aa i).State=st
  · have e:((gt p.aa i).State==st)=true:=by simpa using hs
    rw[e,if_pos rfl,show(aR.mk x.ak x.aa x.ai)=x from rfl,aiw hb hp h h1 h2 (by omega),aqF]
    simp[hs]
  · have e:((gt p.aa i).State==st)=false:=by simpa using hs
    simp[e,hs]
 have hf:=kZ (step:=w7 b p (x.ak,x.aa,x.ai,c) st) (fun i=>(i:Int)) p.aa.length (kW b p x st) (R:=fun i=> .inr (.inr (.inr ((i:Int),true)))) (e:= .inl ())
  (fun i hi hq=>by simp only[w7,aQ hi,if_true,az hi,aqF,key i hi,hq,aqG,if_false,aU (cM df hi)])
  (fun i hi hq=>by simp only[w7,aQ hi,if_true,az hi,aqF,key i hi,hq])
  (by simp only[w7,bl,aqG,if_false])
 exact hf
def apt(b:aj)(p:ae)(x:aR)(j:Nat):Prop:=j<b.aa.length∧qR b p x j∧∀i,i<b.aa.length→(gt p.aa i).State=2→qR b p x i→(gt p.aa j).State=2∧j≤i
theorem aaT(hb:bP b)(hp:bA p)(h:aJ b p=0){k:Int}(h0:0≤k)(h1:k<b.ak):Wp (Ey b p k) fun r=>r.2=true→∃j:Nat,r.1=(j:Int)∧apt b p (aW b p k) j:=by
 obtain⟨⟨hl,hg⟩,⟨s1,s2,s3⟩,_⟩:=bM.1 h
 obtain⟨m1,m2,_⟩:=Td (p:=p) hl (gt (bu b p) k.toNat).toNat
 have ho:mj b p k=some ((aW b p k).ak,(aW b p k).aa,(aW b p k).ai,true):=by
  rw[of_eq hb hp,ji,rX h h0 h1]
 have dQ:=fun st=>afc hb hp h (x:=aW b p k) m1 m2 true st
 have hf:=kZ (step:=w8 b p ((aW b p k).ak,(aW b p k).aa,(aW b p k).ai,true)) (fun i=>(i:Int)) 3 (fun q=>((aqN p.aa.length).find? (kW b p (aW b p k) (gt [2,1,0] q))).isSome)
  (R:=fun q=> .inr ((((aqN p.aa.length).find? (kW b p (aW b p k) (gt [2,1,0] q))).getD 0:Nat),true)) (e:= .inl ())
  (fun i hi hq=>by
    have hn:(aqN p.aa.length).find? (kW b p (aW b p k) (gt [2,1,0] i))=none:=by simpa using hq
    simp only[w8,l3 hi,decide_true,if_true,az (l:=([2,1,0]:List Int)) hi,aqF,dQ,hn,aqI,aU (show i<1000000000000000000 by omega)])
  (fun i hi hq=>by
    obtain⟨m,hm⟩:=Option.isSome_iff_exists.1 hq
    simp only[w8,l3 hi,decide_true,if_true,az (l:=([2,1,0]:List Int)) hi,aqF,dQ,hm,aqJ,Option.getD_some])
  (by simp only[w8,show decide (((3:Nat):Int)<len ([2,1,0]:List Nat))=false from rfl,aqG,if_false])
 have UE:ay (w8 b p ((aW b p k).ak,(aW b p k).aa,(aW b p k).ai,true)) 0=_:=hf
 unfold Ey
 rw[ho]
 simp only[aqF,aqW,aqG,if_false]
 rw[UE]
 cases hc:(aqN 3).find? (fun q=>((aqN p.aa.length).find? (kW b p (aW b p k) (gt [2,1,0] q))).isSome) with
 |none=>exact al.2 (fun h=>by cases h)
 |some q=>
  refine al.2 fun _=> ?_
  have hq:=arN (p:=fun q=>((aqN p.aa.length).find? (kW b p (aW b p k) (gt [2,1,0] q))).isSome) hc
  obtain⟨m,hm⟩:=Option.isSome_iff_exists.1 hq
  have m1:=aqV.1 (arH hm)
  have m2:kW b p (aW b p k) (gt [2,1,0] q) m=true:=arN (p:=kW b p (aW b p k) (gt [2,1,0] q)) hm
  unfold kW at m2
  have m2:=of_decide_eq_true m2
  rw[hm]
  refine⟨m,rfl,by omega,m2.2,fun i hi hs hh=> ?_⟩
  have ck:i<p.aa.length:=by omega
  have h0:((aqN p.aa.length).find? (kW b p (aW b p k) (gt [2,1,0] 0))).isSome=true:=by
   rw[List.find?_isSome]
   exact⟨i,aqV.2 ck,by unfold kW;exact decide_eq_true ⟨hs,hh⟩⟩
  have hq0:q=0:=by
   have hr:(aqN 3)=[0,1,2]:=rfl
   rw[hr,List.find?_cons,h0] at hc
   exact(are hc).symm
  subst hq0
  refine⟨m2.1, ?_⟩
  apply aq6
  intro aK
  have:=List.find?_range_eq_some.1 hm
  have h5:=this.2.2 i (by omega)
  unfold kW at h5
  simp[hs,hh] at h5
  exact h5 rfl
theorem Te(h:aJ b p=0){k:Int}(h0:0≤k)(h1:k<b.ak):(0≤jk p (aW b p k)∧jk p (aW b p k)≤800000)∧0≤fa b (aW b p k)∧fa b (aW b p k)≤400000:=by
 obtain⟨⟨hl,hg⟩,_⟩:=bM.1 h
 have hx:=(xE (p:=p) hg.1 h0 h1).1
 have ln:=afO h hx
 have hr:=aet h hx
 have:=acM hr.2
 rw[aer] at this
 have h8:=hr.1
 refine⟨⟨ln.1,ln.2.1⟩, ?_, ?_⟩<;>omega
def Z_(b:aj)(p:ae)(t:fL)(x:aR)(j:Nat):Prop:=j<b.aa.length∧(j:Int)∈x.aa∧¬(⟨2,(bk b j:Int)⟩:Part)∈p.aA∧100*jk p x≤t.Stop*(fa b x-(gt b.aa j).dg)
theorem aaY(hb:bP b)(hp:bA p)(h:aJ b p=0)(t:fL){k:Int}(h0:0≤k)(h1:k<b.ak):Wp (Ez b t p k) fun r=>r.2=true→(vT t∧2≤(aW b p k).aa.length)∧∃j:Nat,r.1=(j:Int)∧Z_ b p t (aW b p k) j:=by
 obtain⟨⟨hl,hg⟩,⟨s1,s2,s3⟩,_⟩:=bM.1 h
 obtain⟨m1,m2,_⟩:=Td (p:=p) hl (gt (bu b p) k.toNat).toNat
 have m2:Sm (aW b p k).aa:=m2
 have ho:mj b p k=some ((aW b p k).ak,(aW b p k).aa,(aW b p k).ai,true):=by
  rw[of_eq hb hp,ji,rX h h0 h1]
 have lV:rq b p k=some (jk p (aW b p k)):=by rw[Lk hb hp,rX h h0 h1]
 have Md:rn b p k=some (fa b (aW b p k)):=by rw[Ks hb hp,rX h h0 h1]
 obtain⟨⟨l1,l2⟩,l3,l4⟩:=Te h h0 h1
 have dQ:=(qK hg.1 (xE (p:=p) hg.1 h0 h1).1).2.1
 unfold Ez
 rw[ho]
 simp only[aqF,zE,JR]
 by_cases hv:vT t
 case neg=>simp only[dF hv,ard,if_true,aqF];exact al.2 (fun h=>by cases h)
 simp only[dT hv,aqW,aqG,if_false,aqF]
 by_cases hlen:len (aW b p k).aa<2
 · simp only[dT hlen,if_true];exact al.2 (fun h=>by cases h)
 simp only[dF hlen,aqG,if_false]
 have Mw:2≤(aW b p k).aa.length:=by unfold len at hlen;omega
 refine(wl (step:=Ki b t p k (aW b p k).aa) (fun s=>(s.1+1).toNat) (fun s=> -1≤s.1∧s.1<(aW b p k).aa.length) (Q:=fun r=>match r with| .inl _=>True| .inr r=>r.2=true→∃j:Nat,r.1=(j:Int)∧Z_ b p t (aW b p k) j) (fun s hs=> ?_) ⟨by unfold len;omega,by unfold len;omega⟩ (by unfold len;unfold Sm at m2;omega)).bind fun r hr=> ?_
 · obtain⟨i,c0,c1⟩:=s
   dsimp only at hs⊢
   unfold Ki
   dsimp only
   by_cases hi:i<0
   · simp only[dT hi,if_true]
     exact al.2 trivial
   simp only[dF hi,aqG,if_false]
   obtain⟨q,rfl⟩:=ara (show 0≤i by omega)
   have hq:q<(aW b p k).aa.length:=by omega
   have hm:=cV hq
   obtain⟨n0,n1⟩:=dQ _ hm
   obtain⟨j,hj⟩:=ara n0
   have hj:gt (aW b p k).aa q=(j:Int):=hj
   have bW:j<b.aa.length:=by omega
   rw[az hq,hj]
   simp only[aqF,HF hb.1 hg.1 bW,Cy hp]
   by_cases sL:(⟨2,(bk b j:Int)⟩:Part)∈p.aA
   · simp only[dT sL,if_true,aqF,aqI]
     exact al.2 ⟨⟨by dsimp only;omega,by dsimp only;omega⟩,by dsimp only;omega⟩
   simp only[dF sL,aqG,if_false,Md,lV,aqF,az bW]
   obtain⟨r1,r2⟩:=AL h bW
   obtain⟨⟨v1,v2⟩,⟨v3,v4⟩,_⟩:=hv
   have e1:W (fa b (aW b p k)-(gt b.aa j).dg)=fa b (aW b p k)-(gt b.aa j).dg:=be (by omega) (by omega)
   have b1: -5000000≤t.Stop*(fa b (aW b p k)-(gt b.aa j).dg)∧t.Stop*(fa b (aW b p k)-(gt b.aa j).dg)≤40000000:=by
    constructor
    · have:t.Stop*(-50000)≤t.Stop*(fa b (aW b p k)-(gt b.aa j).dg):=asm (by omega) (by omega)
      omega
    · have:t.Stop*(fa b (aW b p k)-(gt b.aa j).dg)≤t.Stop*400000:=asm (by omega) (by omega)
      omega
   have e2:W (t.Stop*(fa b (aW b p k)-(gt b.aa j).dg))=t.Stop*(fa b (aW b p k)-(gt b.aa j).dg):=be (by omega) (by omega)
   have e3:W (100*jk p (aW b p k))=100*jk p (aW b p k):=be (by omega) (by omega)
   rw[e1,e2,e3]
   by_cases hle:100*jk p (aW b p k)≤t.Stop*(fa b (aW b p k)-(gt b.aa j).dg)
   · simp only[dT hle,if_true,aqF,aqJ]
     refine al.2 fun _=>⟨j,rfl,bW,by rw[←hj];exact hm,sL,hle⟩
   · simp only[dF hle,aqG,if_false,aqF,aqI]
     exact al.2 ⟨⟨by dsimp only;omega,by dsimp only;omega⟩,by dsimp only;omega⟩
 · cases r with
   |inl r=>exact al.2 (fun h=>by cases h)
   |inr r=>exact al.2 fun h=>⟨⟨hv,Mw⟩,hr h⟩
def Hi(b:aj)(p:ae)(t:fL)(x:aR):Prop:=vT t∧x.aa≠[]∧t.Start*fa b x<100*jk p x
theorem ah7(hb:bP b)(hp:bA p)(h:aJ b p=0)(t:fL){k:Int}(h0:0≤k)(h1:k<b.ak):EA b t p k=some (decide (Hi b p t (aW b p k))):=by
 obtain⟨⟨l1,l2⟩,l3,l4⟩:=Te h h0 h1
 have lV:rq b p k=some (jk p (aW b p k)):=by rw[Lk hb hp,rX h h0 h1]
 have Md:rn b p k=some (fa b (aW b p k)):=by rw[Ks hb hp,rX h h0 h1]
 unfold EA Hi
 by_cases hv:vT t
 case neg=>simp[zE,hv]
 simp only[zE,dT hv,aqF,if_true,Ln hb hp,rX h h0 h1,lV,Md]
 obtain⟨⟨v1,v2⟩,⟨v3,v4⟩,_⟩:=hv
 have b1:0≤t.Start*fa b (aW b p k)∧t.Start*fa b (aW b p k)≤40000000:=by
  constructor
  · exact ase (by omega) l3
  · have:t.Start*fa b (aW b p k)≤t.Start*400000:=asm l4 (by omega)
    omega
 have e2:W (t.Start*fa b (aW b p k))=t.Start*fa b (aW b p k):=be (by omega) (by omega)
 have e3:W (100*jk p (aW b p k))=100*jk p (aW b p k):=be (by omega) (by omega)
 rw[e2,e3]
 have hv:vT t:=⟨⟨v1,v2⟩,⟨v3,v4⟩,by assumption⟩
 by_cases hs:0<(aW b p k).aa.length
 · have lS:(aW b p k).aa≠[]:=arR.1 hs
   simp only[dT hs,if_true,aqF]
   congr 1
   rw[decide_eq_decide]
   exact⟨fun h=>⟨hv,lS,h⟩,fun h=>h.2.2⟩
 · have lS:(aW b p k).aa=[]:=List.length_eq_zero_iff.1 (by omega)
   simp[lS]
theorem ads(a:Int)(c:Bool)(tm:Int):Ao a c tm=some (if c=true then(if a= -1 then tm else a) else-1):=by
 unfold Ao
 cases c with
 |false=>rfl
 |true=>by_cases h:a= -1<;>simp[h]
def DJ(b:aj)(p:ae)(k:Int)(j:Nat):List Act:=if(gt p.aa j).State=0 then [⟨3,j,0⟩] else if(gt p.aa j).State=2 then [⟨6,j,(re b p (lead b p k).1).1⟩,⟨1,bk b j,0⟩] else []
theorem start_eq(hb:bP b)(hp:bA p)(h:aJ b p=0)(k:Int){j:Nat}(hj:j<b.aa.length):∃c,Ew b p k (j:Int)=some (c,DJ b p k j):=by
 obtain⟨⟨hl,hg⟩,⟨s1,s2,s3⟩,_⟩:=bM.1 h
 unfold Ew DJ
 simp only[az (show j<p.aa.length by omega),aqF]
 by_cases h1:(gt p.aa j).State=0
 · exact⟨false,by simp[h1]⟩
 by_cases h2:(gt p.aa j).State=2
 · refine⟨true, ?_⟩
   have e1:((gt p.aa j).State==0)=false:=by simpa using h1
   have e2:((gt p.aa j).State==2)=true:=by simpa using h2
   rw[if_neg h1,if_pos h2]
   simp only[e1,e2,aqG,if_false,if_true,Lx hb hp,VT hb hp,aqF,HF hb.1 hg.1 hj]
 · refine⟨false, ?_⟩
   have e1:((gt p.aa j).State==0)=false:=by simpa using h1
   have e2:((gt p.aa j).State==2)=false:=by simpa using h2
   rw[if_neg h1,if_neg h2]
   simp only[e1,e2,aqG,if_false]
def zg(tm:Int)(r:bf):Prop:=(-1≤r.eD∧r.eD≤tm)∧-1≤r.eY∧r.eY≤tm
theorem aaH(hb:bP b)(v:en b p){t:fL}(hv:vT t){k:Int}(h0:0≤k)(h1:k<b.ak){tm:Int}(t0:0≤tm)(t1:tm≤2147483648){r:bf}(hr:zg tm r):Wp (Ex b t p k tm r) fun x=>zg tm ⟨x.1,x.2.1⟩∧x.2.2.2.length≤2:=by
 obtain⟨hp,h⟩:=v
 obtain⟨⟨hl,hg⟩,⟨s1,s2,s3⟩,_⟩:=bM.1 h
 obtain⟨⟨hh1,hh2⟩,hh3,hh4⟩:=hr
 unfold Ex
 have q1:ul r.eD tm=some true:=by unfold ul;simp[hh1,hh2]
 have q2:ul r.eY tm=some true:=by unfold ul;simp[hh3,hh4]
 simp only[mH hb hp,h,aqF,bne_self_eq_false,aqG,if_false,zE,dT hv,aqW,dF (show ¬tm<0 by omega),dF (show ¬tm>2147483648 by omega),q1,q2,dF (show ¬k<0 by omega),dF (show ¬k≥b.ak by omega)]
 refine(aaY hb hp h t h0 h1).bind fun x7 h7=> ?_
 rw[ah7 hb hp h t h0 h1]
 simp only[aqF,ads]
 refine(aaT hb hp h h0 h1).bind fun aN h11=> ?_
 obtain⟨A,hA,eA⟩:∃A:Int,(-1≤A∧A≤tm)∧(if decide (Hi b p t (aW b p k))=true then(if r.eD= -1 then tm else r.eD) else-1)=A:=⟨_,by split<;>(try split)<;>omega,rfl⟩
 obtain⟨B,hB,eB⟩:∃B:Int,(-1≤B∧B≤tm)∧(if x7.2=true then(if r.eY= -1 then tm else r.eY) else-1)=B:=⟨_,by split<;>(try split)<;>omega,rfl⟩
 have hB1:B≠-1→x7.2=true:=fun hn=>by
  cases hx:x7.2 with
  |true=>rfl
  |false=>rw[hx] at eB;exact(hn eB.symm).elim
 simp only[eA,eB]
 refine Wp.bind (Q:=fun c=>c=true→aN.2=true) ?_ fun c hc=> ?_
 · refine Wp.ite (fun hx=> ?_) fun _=>al.2 fun e=>by cases e
   refine Wp.ite (fun _=>al.2 fun _=>hx) fun _=>al.2 fun _=>hx
 refine Wp.ite (fun hh=> ?_) fun _=> ?_
 · obtain⟨j,ej,hj⟩:=h11 (hc hh)
   obtain⟨cl,hs⟩:=start_eq hb hp h k hj.1
   rw[ej,hs]
   simp only[aqF]
   refine Wp.bind (Q:=fun y=>zg tm ⟨y.1,y.2⟩) ?_ fun y hy=>al.2 ⟨hy, ?_⟩
   · refine Wp.ite (fun _=>al.2 ⟨⟨by show(-1:Int)≤-1;omega,by show(-1:Int)≤tm;omega⟩,hB⟩) fun _=>al.2 ⟨hA,hB⟩
   · show(DJ b p k j).length≤2
     unfold DJ
     split
     · exact Nat.le_succ 1
     · split
       · exact aqM 2
       · exact arj 2
 · refine Wp.bind (Q:=fun c=>c=true→x7.2=true) ?_ fun c hc=> ?_
   · refine Wp.ite (fun hn=>al.2 fun _=>hB1 (by simpa using hn)) fun _=>al.2 fun e=>by cases e
   refine Wp.ite (fun hh=> ?_) fun _=>al.2 ⟨⟨hA,hB⟩,arj _⟩
   obtain⟨_,j,ej,hj⟩:=h7 (hc hh)
   rw[ej,HF hb.1 hg.1 hj.1]
   exact al.2 ⟨⟨hA,by show(-1:Int)≤-1;omega,by show(-1:Int)≤tm;omega⟩,aqM 2⟩
theorem agH{n:Int}(h1:1≤n)(h2:n≤6):Kw n=some (aqS n.toNat ⟨-1,-1⟩):=by
 rcases(show n=1∨n=2∨n=3∨n=4∨n=5∨n=6 by omega) with rfl|rfl|rfl|rfl|rfl|rfl<;>kernel_rfl
end
end Rx
namespace Rx
open Classical
section
variable {b:aj} {p:ae} {t:fL} {tm:Int} {R:List bf} {E ev:List Event} {st:List ae}
theorem aba(hb:bP b)(g:Gd b p)(t0:0≤tm)(t1:tm≤2147483648)(bh:ev.length≤50000000)(bD:st.length≤50000000){x9:Int×Int×Int×List Act}(hl:x9.2.2.2.length≤2):Wp (ay (Ep x9) (0,yC b tm p R E ev st)) fun r=>∃q cB dw,r=yC b tm q R E cB dw∧Gd b q∧cB.length≤ev.length+2000002∧dw.length≤st.length+2000004:=by
 refine dO x9.2.2.2.length (fun k s=>∃q cB dw,s=((k:Int),yC b tm q R E cB dw)∧Gd b q∧cB.length≤ev.length+1000001*k∧dw.length≤st.length+1000002*k) ⟨p,ev,st,rfl,g,ar7 _ _,ar7 _ _⟩ ?_ ?_
 · rintro k s hk ⟨q,cB,dw,rfl,g',h1,h2⟩
   unfold Ep yC
   simp only[aQ hk,if_true,az hk,aqF]
   refine(QG hb g' t0 t1 (by omega) (by omega) _).bind fun r hr=> ?_
   obtain⟨q2,da,jy,rfl,g2,e1,e2,_⟩:=hr
   have z1:da.length≤ev.length+1000001*(k+1):=aq' e1 (by rw[asf,←ar3];exact asg h1 _)
   have z2:jy.length≤st.length+1000002*(k+1):=aq' e2 (by rw[asf,←ar3];exact asg h2 _)
   exact al.2 ⟨q2,da,jy,by rw[aU (by omega)];rfl,g2,z1,z2⟩
 · rintro s ⟨q,cB,dw,rfl,g',h1,h2⟩
   unfold Ep yC
   simp only[bl,aqG,if_false]
   exact al.2 ⟨q,cB,dw,rfl,g',by omega,by omega⟩
def uh(b:aj)(tm:Int)(q:ae)(R:List bf)(E:List Event)(RR:List bf)(ev:List Event)(st:List ae):Int×List Bool×List aC×List Int×List Part×Int×Int×Int×List bf×List Event×List aO×List Source×List Consumer×List bf×List Event×List ae:=(tm,q.aq,q.aa,q.aE,q.aA,b.ak,b.aG,b.aB,R,E,b.ad,b.aa,b.ai,RR,ev,st)
def nj(b:aj)(tm:Int)(R:List bf):Prop:=(R.length:Int)=b.ak∧∀r∈R,zg tm r
theorem aaN(hb:bP b)(hv:vT t)(g:Gd b p)(t0:0≤tm)(t1:tm≤2147483648)(hR:nj b tm R)(bh:ev.length≤10000000)(bD:st.length≤10000000):Wp (Er ⟨⟨tm,p,R,E⟩,b,ev,st⟩ t) fun r=>∃q RR cB dw,r=uh b tm q R E RR cB dw∧Gd b q∧nj b tm RR∧cB.length≤30000000∧dw.length≤30000000:=by
 obtain⟨⟨hl,hg⟩,_⟩:=bM.1 g.1.2
 have jI:=hl.fe
 have ke:=xF (b:=b) (p:=p)
 unfold Er
 simp only[agH jI.1 jI.2,Fy hb g.1.1 g.1.2,aqF]
 refine Wp.bind (Q:=fun r=>∃q RR cB dw,r=uh b tm q R E RR cB dw∧Gd b q∧nj b tm RR∧cB.length≤30000000∧dw.length≤30000000) ?_ fun r hr=>al.2 hr
 refine dO (aT b p).length (fun k s=>∃q RR cB dw,s=((k:Int),uh b tm q R E RR cB dw)∧Gd b q∧nj b tm RR∧cB.length≤10000000+2000002*k∧dw.length≤10000000+2000004*k) ⟨p,_,ev,st,rfl,g,⟨by rw[List.length_replicate];omega,fun r hr=> ?_⟩,aq' bh (ar7 _ _),aq' bD (ar7 _ _)⟩ ?_ ?_
 · rw[List.eq_of_mem_replicate hr]
   exact⟨⟨by show(-1:Int)≤-1;omega,by show(-1:Int)≤tm;omega⟩,by show(-1:Int)≤-1;omega,by show(-1:Int)≤tm;omega⟩
 · rintro k s hk ⟨q,RR,cB,dw,rfl,g',vq,h1,h2⟩
   have hx:=cV hk
   obtain⟨p1,p2,p3,p4,p5⟩:=qK hg.1 hx
   have hbm:=cV p5
   obtain⟨b0,b1,_⟩:=LC hx hbm
   obtain⟨j,hj⟩:=ara b0
   have hj:gt (gt (aT b p) k).ak 0=(j:Int):=hj
   rw[hj] at b0 b1
   have Nb:=hR.1
   have ai':=vq.1
   unfold Kf uh
   simp only[aQ hk,if_true,az hk,aqF,show idx (gt (aT b p) k).ak 0=some (j:Int) by rw[←hj];exact az p5]
   refine Wp.bind (Q:=fun s=>∃q RR da jy,s=uh b tm q R E RR da jy∧Gd b q∧nj b tm RR∧da.length≤cB.length+2000002∧jy.length≤dw.length+2000004) ?_ fun s hs=> ?_
   · refine Wp.bind (Q:=fun _=>True) ?_ fun c _=> ?_
     · refine Wp.ite (fun _=>al.2 trivial) fun _=> ?_
       rw[Ln hb g'.1.1]
       exact al.2 trivial
     refine Wp.ite (fun _=>al.2 ⟨q,RR,cB,dw,rfl,g',vq,by omega,by omega⟩) fun _=> ?_
     simp only[az (show j<R.length by omega),az (show j<RR.length by omega),fg (show j<RR.length by omega),aqF]
     refine(aaH hb g'.1 hv b0 (show(j:Int)<b.ak by omega) t0 t1 (hR.2 _ (cV (show j<R.length by omega)))).bind fun x9 h9=> ?_
     refine(aba hb g' t0 t1 (by omega) (by omega) h9.2).bind fun r hr=> ?_
     obtain⟨q2,da,jy,rfl,g2,e1,e2⟩:=hr
     refine al.2 ⟨q2,RR.set j ⟨x9.1,x9.2.1⟩,da,jy,rfl,g2,⟨by rw[arZ];exact ai',fun r hr=> ?_⟩,e1,e2⟩
     obtain⟨i,hi,rfl⟩:=kY hr
     rw[dz (show j<RR.length by omega)]
     split
     · exact h9.1
     · exact vq.2 _ (cV (by simpa using hi))
   · obtain⟨q2,RR2,da,jy,rfl,g2,hR2,e1,e2⟩:=hs
     have z1:da.length≤10000000+2000002*(k+1):=aq' e1 (by rw[asf,←ar3];exact asg h1 _)
     have z2:jy.length≤10000000+2000004*(k+1):=aq' e2 (by rw[asf,←ar3];exact asg h2 _)
     exact al.2 ⟨q2,RR2,da,jy,by rw[aU (by omega)];rfl,g2,hR2,z1,z2⟩
 · rintro s ⟨q,RR,cB,dw,rfl,g',vq,h1,h2⟩
   unfold Kf uh
   simp only[bl,aqG,if_false]
   exact al.2 ⟨q,RR,cB,dw,rfl,g',vq,by omega,by omega⟩
theorem agx{r:bf}(hr:zg tm r)(a2:List Bool)(a3:List aC)(a4:List Int)(a5:List Part)(a6:List bf)(a7:List Event):ER r tm a2 a3 a4 a5 a6 a7=some (false,tm,a2,a3,a4,a5,a6,a7):=by
 obtain⟨⟨h1,h2⟩,h3,h4⟩:=hr
 unfold ER ES
 simp only[dT (show r.eD≥-1 from h1),dT h2,dT (show r.eY≥-1 from h3),dT h4,if_true,aqF,aqW,aqG,if_false]
theorem aeL(hb:bP b)(hv:vT t)(g:Gd b p)(t0:0≤tm)(t1:tm≤2147483648)(hR:nj b tm R):ET b t ⟨tm,p,R,E⟩=some 0:=by
 obtain⟨⟨hl,hg⟩,_⟩:=bM.1 g.1.2
 have jI:=hl.fe
 have Nb:=hR.1
 unfold ET
 obtain⟨c,h1,h2⟩:=QA (p:=p) (q:=p) g.1.1
 have hc:=h2 rfl
 subst hc
 have lj:(⟨p.aq,p.aa,p.aE,p.aA⟩:ae)=p:=rfl
 have l7:D7 R tm p.aq p.aa p.aE p.aA R E=some (false,tm,p.aq,p.aa,p.aE,p.aA,R,E):=by
  have h:=dE (step:=zX R) (r:= .inl (tm,p.aq,p.aa,p.aE,p.aA,R,E)) (fun k=>((k:Int),tm,p.aq,p.aa,p.aE,p.aA,R,E)) R.length (fun k hk=>by
   unfold zX
   simp only[aQ hk,if_true,az hk,aqF,agx (hR.2 _ (cV hk)),aqG,if_false]
   rw[aU (by omega)]) (by
   unfold zX
   simp only[bl,aqG,if_false]) (by omega)
  have h':ay (zX R) (0,tm,p.aq,p.aa,p.aE,p.aA,R,E)=_:=h
  unfold D7 JB
  rw[h']
  rfl
 simp only[follow_eq hb g.1.1 g.1.2,g.2,aqF,bne_self_eq_false,aqG,if_false,zE,dT hv,aqW,dF (show ¬tm<0 by omega),dF (show ¬tm>2147483648 by omega),tv (show len R=b.ak from Nb),lj,h1,l7]
theorem N7{α:Type}{l:List α}(h:l.length≤1000000000):bq [] l=some l:=cp (by simp;omega)
theorem af_(h:st.length≤1000000000){q:ae}(hq:bA q):Es ⟨⟨tm,p,R,E⟩,b,ev,st⟩ q=some (tm,b.ak,b.aG,b.aB,p.aq,p.aa,p.aE,p.aA,R,E,b.ad,b.aa,b.ai,ev,q.aq,q.aa,q.aE,q.aA,st++[q]):=by
 unfold Es
 simp only[oY hq,aqF]
 rw[cp (by simp;omega)]
 rfl
theorem af'(h:st.length≤1000000000){q:ae}(hq:bA q):Ak ⟨⟨tm,p,R,E⟩,b,ev,st⟩ q=some (tm,p.aq,p.aa,p.aE,p.aA,b.ak,b.aG,b.aB,R,E,b.ad,b.aa,b.ai,ev,st++[q]):=by
 unfold Ak
 simp only[oY hq,aqF]
 rw[cp (by simp;omega)]
 rfl
theorem ao7(hp:bA p)(hR:R.length≤1000)(hE:E.length≤1000):EP b ⟨tm,p,R,E⟩=some (b.ad,b.aa,b.ai,p.aq,p.aa,p.aE,p.aA,R,tm,b.ak,b.aG,b.aB,p.aq,p.aa,p.aE,p.aA,R,E):=by
 unfold EP JN z_
 simp only[oY hp,aqF,N7 (show R.length≤1000000000 by omega),N7 (show E.length≤1000000000 by omega)]
def zF(b:aj)(tm:Int)(q:ae)(R:List bf)(E ev:List Event)(st:List ae):List aO×List Source×List Consumer×Int×List Bool×List aC×List Int×List Part×Int×Int×Int×List bf×List Event×List Event×List ae:=(b.ad,b.aa,b.ai,tm,q.aq,q.aa,q.aE,q.aA,b.ak,b.aG,b.aB,R,E,ev,st)
theorem aaC(hb:bP b)(g:Gd b p)(t0:0≤tm)(t1:tm≤2147483648){l:List Act}(hl:l.length≤8)(bD:st.length≤10)(bh:ev.length≤10):Wp (ay (EO l) (0,zF b tm p R E ev st)) fun r=>∃q cB dw,r=zF b tm q R E cB dw∧Gd b q∧cB.length≤9000000∧dw.length≤9000000:=by
 refine dO l.length (fun k s=>∃q cB dw,s=((k:Int),zF b tm q R E cB dw)∧Gd b q∧cB.length≤10+1000001*k∧dw.length≤10+1000002*k) ⟨p,ev,st,rfl,g,aq' bh (ar7 _ _),aq' bD (ar7 _ _)⟩ ?_ ?_
 · rintro k s hk ⟨q,cB,dw,rfl,g',h1,h2⟩
   unfold EO zF
   simp only[aQ hk,if_true,az hk,aqF]
   refine(QG hb g' t0 t1 (by omega) (by omega) _).bind fun r hr=> ?_
   obtain⟨q2,da,jy,rfl,g2,e1,e2,_⟩:=hr
   have z1:da.length≤10+1000001*(k+1):=aq' e1 (by rw[asf,←ar3];exact asg h1 _)
   have z2:jy.length≤10+1000002*(k+1):=aq' e2 (by rw[asf,←ar3];exact asg h2 _)
   exact al.2 ⟨q2,da,jy,by rw[aU (by omega)];rfl,g2,z1,z2⟩
 · rintro s ⟨q,cB,dw,rfl,g',h1,h2⟩
   unfold EO zF
   simp only[bl,aqG,if_false]
   exact al.2 ⟨q,cB,dw,rfl,g',by omega,by omega⟩
theorem nj.af6{QU:Int}(h:nj b tm R)(hle:tm≤QU):nj b QU R:=⟨h.1,fun r hr=>by
 obtain⟨⟨h1,h2⟩,h3,h4⟩:=h.2 r hr
 exact⟨⟨h1,by omega⟩,h3,by omega⟩⟩
theorem aaI(hb:bP b)(hv:vT t)(g:Gd b p)(t0:0≤tm)(t1:tm≤1000000)(hR:nj b tm R)(hE:E.length≤200){l:List Act}(hl:l.length≤8):Wp (EQ b t ⟨tm,p,R,E⟩ l) fun r=>∃tm q z,r=(tm,q.aq,q.aa,q.aE,q.aA,0,b.ad,b.aa,b.ai,z)∧Gd b q:=by
 obtain⟨⟨Bz,hg⟩,_⟩:=bM.1 g.1.2
 have jI:=Bz.fe
 have Nb:=hR.1
 unfold EQ
 refine Wp.bind (Q:=fun r=>∃q RR E' x1 x2 x3 x4 x5 y z w,r=(0,b.ad,b.aa,b.ai,x1,x2,x3,x4,x5,y,tm+1,q.aq,q.aa,q.aE,q.aA,b.ak,b.aG,b.aB,RR,E',z,w)∧Gd b q∧nj b (tm+1) RR∧E'.length≤200) ?_ fun r hr=> ?_
 case refine_2=>
  obtain⟨q,RR,E',x1,x2,x3,x4,x5,y,z,w,rfl,h1,h2,h3⟩:=hr
  exact al.2 ⟨_,q,_,rfl,h1⟩
 unfold Kv
 have nL:(⟨b.ak,b.ad,b.aa,b.ai,b.aG,b.aB⟩:aj)=b:=rfl
 simp only[aeL hb hv g t0 (by omega) hR,aqF,bne_self_eq_false,aqG,if_false,dF (show ¬len l>200 by unfold len;omega),bY (show tm≠2147483648 by omega),ao7 g.1.1 (show R.length≤1000 by omega) (show E.length≤1000 by omega)]
 rw[af_ (by simp) g.1.1]
 simp only[aqF]
 refine(aaC (ev:=[]) (st:=[]++[p]) hb g t0 (by omega) hl (by simp) (by simp)).bind fun r hr=> ?_
 obtain⟨q,cB,dw,rfl,g1,e1,e2⟩:=hr
 refine(aaN (p:=q) (R:=R) (E:=E) (ev:=cB) (st:=dw) hb hv g1 t0 (by omega) hR (by omega) (by omega)).bind fun r hr=> ?_
 obtain⟨q2,RR,da,jy,rfl,g2,vq,e3,e4⟩:=hr
 refine(QI (p:=q2) hb g2.1 t0 (show tm≤2147483648 by omega) ⟨7,0,0⟩).bind fun r hr=> ?_
 obtain⟨r0,r1⟩:=hr.2 rfl
 obtain⟨q3,Mi⟩:∃q:ae,q=⟨r.2.1,r.2.2.1,r.2.2.2.1,r.2.2.2.2⟩:=⟨_,rfl⟩
 have a3:=(hr.1 r0).1
 have f3:=r1 g2.2
 rw[←Mi] at a3 f3
 have f4:cH b q3=q3.aa:=by rw[f3,Mi]
 have k16:=af' (tm:=tm) (p:=q3) (R:=RR) (E:=E) (b:=b) (ev:=da) (st:=jy) (by omega) a3.1
 have agd:Ak ⟨⟨(uh b tm q2 R E RR da jy).1,⟨r.2.1,r.2.2.1,r.2.2.2.1,r.2.2.2.2⟩,RR,E⟩,⟨b.ak,b.ad,b.aa,b.ai,b.aG,b.aB⟩,da,jy⟩ ⟨r.2.1,r.2.2.1,r.2.2.2.1,r.2.2.2.2⟩=some (tm,q3.aq,q3.aa,q3.aE,q3.aA,b.ak,b.aG,b.aB,RR,E,b.ad,b.aa,b.ai,da,jy++[q3]):=by rw[←Mi];exact k16
 refine Wp.tx agd ?_
 simp only
 rw[cp (by omega)]
 simp only[aqF]
 have hL:(E++da).length=E.length+da.length:=aqY
 obtain⟨n,hn,Mp,hn3⟩:∃n:Nat,imax 0 (W (len (E++da)-200))=(n:Int)∧n≤(E++da).length∧(E++da).length-n≤200:=by
  rw[be (by unfold len;omega) (by unfold len;omega)]
  refine⟨(imax 0 (len (E++da)-200)).toNat, ?_, ?_, ?_⟩<;>(unfold imax len;split<;>omega)
 rw[hn,Rg Mp]
 simp only[aqF,z_]
 rw[N7 (by rw[List.length_drop];omega)]
 rw[aqF,be (show-1000000000000000000≤tm+1 by omega) (by omega)]
 exact al.2 ⟨q3,RR,(E++da).drop n,_,_,_,_,_,l,_,_,rfl,⟨a3,f4⟩,vq.af6 (by omega),by rw[List.length_drop];omega⟩
end
end Rx
namespace Rx
section
variable {b:aj} {p:ae} {x:aR} {l:List Int} {a e:Int} {A:List Act}
end
section
open Classical
variable {b:aj} {p q:ae} {l:List Int} {a:Int}
theorem aaR(hs:Sr l a)(hb:nX b):Wp (Ij ⟨l,a⟩ b) fun r=>∃tm l a q R,r=(tm,l,a,b.ad,b.aa,b.ai,q.aq,q.aa,q.aE,q.aA,R)∧Sr l a∧Gd b q∧(5≤tm∧tm≤20)∧nj b tm R:=by
 have jI:=hb.dt.fe
 unfold Ij
 refine(oc hs (by omega) (by omega) (by omega) (by omega)).bind fun r1 h1=> ?_
 refine(aa3 h1.2 hb).bind fun r2 h2=> ?_
 obtain⟨l2,a2,q,rfl,k1,k2,k3,k4⟩:=h2
 refine Wp.bind (Q:=fun r=>∃l a R,r=(l,a,r1.1,R)∧Sr l a∧nj b r1.1 R) ?_ fun r hr=> ?_
 · refine dO b.ak.toNat (fun k s=>∃l a R,s=((k:Int),l,a,r1.1,R)∧Sr l a∧R.length=k∧∀r∈R,zg r1.1 r) ⟨l2,a2,[],rfl,k1,rfl,fun r hr=>(by cases hr)⟩ ?_ ?_
   · rintro k s hk ⟨l,a,R,rfl,e1,e2,e3⟩
     unfold Px
     simp only[dT (show(k:Int)<b.ak by omega),if_true]
     refine(oc e1 (by omega) (by omega) (by omega) (by omega)).bind fun r4 h4=> ?_
     refine(oc h4.2 (by omega) (by omega) (by omega) (by omega)).bind fun r5 h5=> ?_
     rw[cp (by simp;omega)]
     simp only[aqF]
     refine al.2 ⟨_,_,R++[⟨r4.1,r5.1⟩],by rw[aU (by omega)],h5.2,by rw[aqY,e2];rfl,fun r hr=> ?_⟩
     rcases aqP.1 hr with hr|hr
     · exact e3 r hr
     · rw[aq1.1 hr]
       have:=h1.1
       exact⟨⟨h4.1.1,by have:=h4.1.2;show r4.1≤_;omega⟩,h5.1.1,by have:=h5.1.2;show r5.1≤_;omega⟩
   · rintro s ⟨l,a,R,rfl,e1,e2,e3⟩
     unfold Px
     simp only[dF (show ¬((b.ak.toNat:Nat):Int)<b.ak by omega),aqG,if_false]
     exact al.2 ⟨l,a,R,rfl,e1,by omega,e3⟩
 · obtain⟨l,a,R,rfl,e1,e2⟩:=hr
   exact al.2 ⟨r1.1,l,a,q,R,rfl,e1,⟨⟨k2,k3⟩,k4⟩,h1.1,e2⟩
theorem abb(hs:Sr l a)(hb:dS b):Wp (Iq ⟨l,a⟩ b) fun r=>Sr r.2.2.2.1 r.2.2.2.2.1∧r.2.2.2.2.2=(b.ad,b.aa,b.ai):=by
 have h1:=hb.bV
 have h2:=hb.src
 have h3:=hb.eL
 have h4:=hb.fe
 have w1:W (len b.ad+1)=len b.ad+1:=be (by unfold len;omega) (by unfold len;omega)
 have w2:W (len b.aa+1)=len b.aa+1:=be (by unfold len;omega) (by unfold len;omega)
 have w3:W (len b.ai+1)=len b.ai+1:=be (by unfold len;omega) (by unfold len;omega)
 have w4:W (b.ak+1)=b.ak+1:=be (by omega) (by omega)
 have n1:∀{l:List Int} {a:Int},Sr l a→∀{n:Int},1≤n→n≤1000→Wp (eX ⟨l,a⟩ n) fun r=>Sr r.2.1 r.2.2:=fun hs n h h'=>(ia hs h (by omega)).mono fun _ h=>h.2
 unfold Iq
 simp only[w1,w2,w3,w4]
 refine(oc hs (by omega) (by omega) (by omega) (by omega)).bind fun x1 g1=> ?_
 have g1:=g1.2
 have lb:(1:Int)≤len b.ad+1∧len b.ad+1≤1000:=by unfold len;omega
 have ls:(1:Int)≤len b.aa+1∧len b.aa+1≤1000:=by unfold len;omega
 have lc:(1:Int)≤len b.ai+1∧len b.ai+1≤1000:=by unfold len;omega
 refine Wp.bind (Q:=fun _=>True) ?_ fun c _=> ?_
 · exact Wp.ite (fun _=>al.2 trivial) fun _=>al.2 trivial
 refine Wp.bind (Q:=fun(r:List Int×Int×Int×Int×Int)=>Sr r.1 r.2.1) ?_ fun r hr=>al.2 ⟨hr,rfl⟩
 refine Wp.ite (fun _=>(n1 g1 lb.1 lb.2).bind fun x h=>al.2 h) fun _=> ?_
 refine Wp.bind (Q:=fun _=>True) ?_ fun c _=> ?_
 · exact Wp.ite (fun _=>al.2 trivial) fun _=>al.2 trivial
 refine Wp.bind (Q:=fun(r:List Int×Int×Int×Int×Int)=>Sr r.1 r.2.1) ?_ fun r hr=>al.2 hr
 refine Wp.ite (fun _=>(n1 g1 ls.1 ls.2).bind fun x h=>al.2 h) fun _=> ?_
 refine Wp.bind (Q:=fun(r:List Int×Int×Int×Int×Int)=>Sr r.1 r.2.1) ?_ fun r hr=>al.2 hr
 refine Wp.ite (fun _=>(n1 g1 lc.1 lc.2).bind fun x h=>(h_ h (w:=[0,5,20,41]) (by simp) (by simp)).bind fun y hy=>al.2 hy.2) fun _=> ?_
 refine Wp.bind (Q:=fun(r:List Int×Int×Int×Int×Int)=>Sr r.1 r.2.1) ?_ fun r hr=>al.2 hr
 refine Wp.ite (fun _=>(n1 g1 ls.1 ls.2).bind fun x h=>(n1 h (by omega) (by omega)).bind fun y hy=>al.2 hy) fun _=> ?_
 refine Wp.bind (Q:=fun _=>True) ?_ fun c _=> ?_
 · exact Wp.ite (fun _=>al.2 trivial) fun _=>al.2 trivial
 refine Wp.bind (Q:=fun(r:List Int×Int×Int×Int×Int)=>Sr r.1 r.2.1) ?_ fun r hr=>al.2 hr
 refine Wp.ite (fun _=>(oc g1 (by omega) (by omega) (by omega) (by omega)).bind fun x h=>(n1 h.2 (by omega) (by omega)).bind fun y hy=>al.2 hy) fun _=>al.2 g1
theorem aa'(hs:Sr l a)(hb:dS b){m:Int}(m0:0≤m)(m1:m≤7):Wp (Ip ⟨l,a⟩ b m) fun r=>∃l a A,r=(l,a,b.ad,b.aa,b.ai,A)∧Sr l a∧A.length≤8:=by
 unfold Ip
 rw[be (x:=m+1) (by omega) (by omega)]
 refine(ia hs (by omega) (by omega)).bind fun x1 h1=> ?_
 obtain⟨⟨h0,h5⟩,uM⟩:=h1
 obtain⟨n,hn⟩:=ara h0
 have hn:x1.1=(n:Int):=hn
 rw[hn]
 refine Wp.bind (Q:=fun r=>∃A l a,r=(A,l,a,b.ad,b.aa,b.ai)∧Sr l a∧A.length≤8) ?_ fun r hr=> ?_
 · refine dO n (fun k s=>∃A l a,s=(((n-k:Nat):Int),A,l,a,b.ad,b.aa,b.ai)∧Sr l a∧A.length≤k) ⟨[],_,_,rfl,uM,arj _⟩ ?_ ?_
   · rintro k s hk ⟨A,l,a,rfl,e1,e2⟩
     unfold PB
     simp only[dT (show((n-k:Nat):Int)>0 by omega),if_true]
     refine(abb (b:=b) e1 hb).bind fun r hr=> ?_
     obtain⟨r1,r2⟩:=hr
     rw[cp (by simp;omega)]
     simp only[aqF,r2]
     refine al.2 ⟨A++[⟨r.1,r.2.1,r.2.2.1⟩],_,_, ?_,r1,by rw[aqY];exact Nat.succ_le_succ e2⟩
     rw[o0 (show n-k<1000000000000000000 by omega) (by omega),Nat.sub_sub]
   · rintro s ⟨A,l,a,rfl,e1,e2⟩
     unfold PB
     simp only[dF (show ¬((n-n:Nat):Int)>0 by omega),aqG,if_false]
     exact al.2 ⟨A,l,a,rfl,e1,by omega⟩
 · obtain⟨A,l,a,rfl,e1,e2⟩:=hr
   exact al.2 ⟨l,a,A,rfl,e1,e2⟩
end
end Rx
namespace Rx
section
theorem NA(n d:Int)(h:0<d):(if n.tmod d<0 then n.tdiv d-1 else n.tdiv d)=n/d:=by
 rw[Int.tdiv_eq_ediv,Int.tmod_eq_emod]
 by_cases h0:0≤n∨d∣n
 · simp[h0]
   have:=Int.emod_nonneg n (show d≠0 by omega)
   omega
 · simp[h0]
   have:=Int.emod_lt_of_pos n h
   have e:d.sign=1:=Int.sign_eq_one_of_pos h
   have e2:(d.natAbs:Int)=d:=by omega
   rw[e,if_pos (by omega)]
   omega
theorem QY{n d:Int}(h:0<d)(h1: -1000000000000000000≤n)(h2:n≤1000000000000000000): -1000000000000000001≤n.tdiv d∧n.tdiv d≤1000000000000000001:=by
 have e:=NA n d h
 have a1:n/d≤1000000000000000000:=by
  refine Int.ediv_le_of_le_mul h ?_
  have:=asm (show 1≤d by omega) (show(0:Int)≤1000000000000000000 by decide)
  omega
 have a2: -1000000000000000000≤n/d:=by
  refine Int.le_ediv_of_mul_le h ?_
  have:=Int.mul_le_mul_of_nonpos_left (show(-1000000000000000000:Int)≤0 by decide) (show 1≤d by omega)
  omega
 split at e<;>omega
theorem Vm{n d:Int}(h:0<d)(h1: -1000000000000000000≤n)(h2:n≤1000000000000000000):tz n d=some (n/d):=by
 obtain⟨b1,b2⟩:=QY h h1 h2
 have e:=NA n d h
 unfold tz ny jh
 rw[if_neg (by omega),if_neg (by omega)]
 simp only[aqF]
 rw[qe (x:=n.tdiv d) (by omega) (by omega)]
 by_cases hm:n.tmod d<0
 · rw[if_pos hm] at e
   rw[dT hm,if_pos rfl,aqF,qe (by omega) (by omega),e]
 · rw[if_neg hm] at e
   rw[dF hm,if_neg (by decide),aqF,e]
theorem Vl{n d:Int}(h:d≠0):Wp (tz n d) fun _=>True:=by
 unfold tz ny jh
 rw[if_neg h,if_neg h]
 simp only[aqF]
 refine Wp.bind (Q:=fun _=>True) ?_ fun _ _=>al.2 trivial
 exact Wp.ite (fun _=>al.2 trivial) fun _=>al.2 trivial
theorem VI{n d:Int}:Wp (if decide (n<(-1000000000000000000))=true then some true else if decide (n>1000000000000000000)=true then some true else if decide (d<1)=true then some true else some (decide (d>1000000000))) fun c=>c=false→(-1000000000000000000≤n∧n≤1000000000000000000)∧1≤d∧d≤1000000000:=by
 refine Wp.ite (fun _=>al.2 fun e=>by cases e) fun h1=> ?_
 refine Wp.ite (fun _=>al.2 fun e=>by cases e) fun h2=> ?_
 refine Wp.ite (fun _=>al.2 fun e=>by cases e) fun h3=>al.2 fun h4=> ?_
 have h1:=of_decide_eq_false h1
 have h2:=of_decide_eq_false h2
 have h3:=of_decide_eq_false h3
 have h4:=of_decide_eq_false h4
 omega
theorem VJ{n d:Int}(h1: -1000000000000000000≤n)(h2:n≤1000000000000000000)(h3:1≤d)(h4:d≤1000000000):(if decide (n<(-1000000000000000000))=true then some true else if decide (n>1000000000000000000)=true then some true else if decide (d<1)=true then some true else some (decide (d>1000000000)))=some false:=by
 rw[dF (show ¬n< -1000000000000000000 by omega),dF (show ¬n>1000000000000000000 by omega),dF (show ¬d<1 by omega),dF (show ¬d>1000000000 by omega)]
 rfl
theorem apw(n d:Int):Wp (vW n d) fun _=>True:=by
 unfold vW HW
 refine Wp.bind (Q:=fun _=>True) ?_ fun _ _=>al.2 trivial
 refine VI.bind fun c hc=>Wp.ite (fun _=>al.2 trivial) fun h=> ?_
 exact(Vl (by have:=hc h;omega)).bind fun _ _=>al.2 trivial
theorem apx{n d:Int}(h1: -1000000000000000000≤n)(h2:n≤1000000000000000000)(h3:1≤d)(h4:d≤1000000000):vW n d=some (n/d,0):=by
 unfold vW HW
 rw[VJ h1 h2 h3 h4]
 simp only[aqF,aqG,if_false,Vm (show 0<d by omega) h1 h2]
theorem apu(n d:Int):Wp (HZ n d) fun _=>True:=by
 unfold HZ O9
 refine Wp.bind (Q:=fun _=>True) ?_ fun _ _=>al.2 trivial
 refine VI.bind fun c hc=>Wp.ite (fun _=>al.2 trivial) fun h=> ?_
 obtain⟨_,d1,d2⟩:=hc h
 unfold Pa
 rw[be (x:=2*d) (by omega) (by omega)]
 refine Wp.bind (Q:=fun _=>True) ?_ fun _ _=>al.2 trivial
 exact(Vl (by omega)).bind fun _ _=>al.2 trivial
theorem apm{n d:Int}(h1: -1000000000000000000≤n)(h2:n≤1000000000000000000)(h3:1≤d)(h4:d≤1000000000):HX n d=some (-((-n)/d),0):=by
 unfold HX O_
 rw[VJ h1 h2 h3 h4]
 have hf:=Vm (n:= -n) (d:=d) (by omega) (by omega) (by omega)
 have e:=NA (-n) d (by omega)
 obtain⟨b1,b2⟩:=QY (n:= -n) (d:=d) (by omega) (by omega) (by omega)
 have hb: -1000000000000000002≤(-n)/d∧(-n)/d≤1000000000000000001:=by split at e<;>omega
 simp only[aqF,aqG,if_false,O']
 rw[qe (x:= -n) (by omega) (by omega),hf]
 simp only[aqF]
 rw[qe (by omega) (by omega)]
theorem KM(a:Int):Wp (nV a) fun x=>0≤x∧x<3600:=by
 unfold nV jh
 obtain⟨e,b1,b2⟩:=QT a
 rw[if_neg (by omega)]
 simp only[aqF]
 refine Wp.bind (Q:=fun x=>0≤x∧x<3600) ?_ fun x hx=>al.2 hx
 refine Wp.ite (fun h=>al.2 ?_) fun h=>al.2 ?_
 · have h:=of_decide_eq_true h
   rw[be (by omega) (by omega)]
   omega
 · have h:=of_decide_eq_false h
   omega
theorem JU(a:Int):Wp (zb a) fun _=>True:=by
 unfold zb
 refine(KM a).bind fun x _=> ?_
 refine Wp.bind (Q:=fun _=>True) ?_ fun y _=>(apu _ _).bind fun _ _=>al.2 trivial
 exact Wp.ite (fun _=>al.2 trivial) fun _=>al.2 trivial
theorem VO(a:Int):Wp (CU a) fun _=>True:=by
 unfold CU
 refine(KM a).bind fun x _=>(JU _).bind fun _ _=>al.2 trivial
theorem Jo(a b:Int):Wp (y_ a b) fun _=>True:=by
 unfold y_
 refine Wp.bind (Q:=fun _=>True) ?_ fun _ _=>al.2 trivial
 exact Wp.ite (fun _=>al.2 trivial) fun _=>al.2 trivial
theorem VN(a x y:Int):Wp (CT a x y) fun _=>True:=by
 unfold CT
 refine(Jo x y).bind fun c _=>Wp.ite (fun _=>al.2 trivial) fun _=> ?_
 exact(VO a).bind fun _ _=>(JU a).bind fun _ _=>al.2 trivial
theorem QL(a:Int):Wp (za a) fun c=>c=true↔0≤a∧a<3600:=by
 unfold za
 by_cases h:a≥0
 · rw[dT h]
   exact al.2 (by rw[decide_eq_true_iff];omega)
 · rw[dF h]
   exact al.2 ⟨fun e=>(by cases e),fun e=>(by omega)⟩
theorem ao9(x:eO):Wp (qd x) fun _=>True:=by
 unfold qd
 refine Wp.bind (Q:=fun _=>True) ?_ fun _ _=>al.2 trivial
 refine(QL _).bind fun c _=>Wp.ite (fun _=> ?_) fun _=>al.2 trivial
 refine(QL _).bind fun c _=>Wp.ite (fun _=> ?_) fun _=>al.2 trivial
 unfold H5
 exact Wp.bind (Q:=fun _=>True) ((KM _).bind fun _ _=>al.2 trivial) fun _ _=>al.2 trivial
theorem abd(x:eO)(a b:Int):Wp (H4 x a b) fun _=>True:=by
 unfold H4
 refine Wp.bind (Q:=fun _=>True) ?_ fun c _=>Wp.ite (fun _=>al.2 trivial) fun _=> ?_
 · refine(ao9 x).bind fun c _=>Wp.ite (fun _=>al.2 trivial) fun _=> ?_
   refine Wp.ite (fun _=>Wp.ite (fun _=>al.2 trivial) fun _=> ?_) fun _=> ?_
   · exact(Jo a b).bind fun _ _=>al.2 trivial
   · exact(Jo a b).bind fun _ _=>al.2 trivial
 refine(VN _ _ _).bind fun z _=> ?_
 refine Wp.bind (Q:=fun _=>True) ?_ fun _ _=> ?_
 · refine Wp.ite (fun _=>al.2 trivial) fun _=> ?_
   exact(VO _).bind fun _ _=>(JU _).bind fun _ _=>al.2 trivial
 refine Wp.bind (Q:=fun _=>True) ?_ fun _ _=>al.2 trivial
 refine Wp.ite (fun _=> ?_) fun _=>al.2 trivial
 refine(VN _ _ _).bind fun w _=> ?_
 exact Wp.ite (fun _=>al.2 trivial) fun _=>al.2 trivial
theorem St{a b c:Int}:imax a b≤c↔a≤c∧b≤c:=by unfold imax;split<;>omega
theorem Sz{a b c:Int}:c≤dx a b↔c≤a∧c≤b:=by unfold dx;split<;>omega
def gw(m x y:Int):Prop:=(-m≤x∧x≤m)∧(-m≤y∧y≤m)∧x*x+y*y≤m*m
theorem wA{x:Int}(h1: -10001≤x)(h2:x≤10001):0≤x*x∧x*x≤100020001:=by
 rcases Int.le_total 0 x with h|h
 · refine⟨ase h h, ?_⟩
   have:=ar4 h2 h2 h (by omega)
   omega
 · have e:x*x=(-x)*(-x):=by rw[Int.neg_mul_neg]
   rw[e]
   refine⟨ase (by omega) (by omega), ?_⟩
   have:=ar4 (show-x≤10001 by omega) (show-x≤10001 by omega) (show 0≤-x by omega) (by omega)
   omega
theorem QH{t:bm}(m0:0≤t.Max)(m1:t.Max≤5000)(hf:t.km.length≤1000){x y:Int}(x0: -10001≤x)(x1:x≤10001)(y0: -10001≤y)(y1:y≤10001):Wp (Ah t x y) fun c=>c=true→gw t.Max x y:=by
 obtain⟨q1,q2⟩:=wA x0 x1
 obtain⟨q3,q4⟩:=wA y0 y1
 obtain⟨q5,q6⟩:=wA (x:=t.Max) (by omega) (by omega)
 unfold Ah
 rw[be (x:= -t.Max) (by omega) (by omega),be (x:=x*x) (by omega) (by omega),be (x:=y*y) (by omega) (by omega),be (x:=x*x+y*y) (by omega) (by omega),be (x:=t.Max*t.Max) (by omega) (by omega)]
 refine Wp.bind (Q:=fun c=>c=false→gw t.Max x y) ?_ fun c hc=>Wp.ite (fun _=>al.2 fun e=>by cases e) fun h=> ?_
 · refine Wp.ite (fun _=>al.2 fun e=>by cases e) fun h1=> ?_
   refine Wp.ite (fun _=>al.2 fun e=>by cases e) fun h2=> ?_
   refine Wp.ite (fun _=>al.2 fun e=>by cases e) fun h3=> ?_
   have h1:=St.1 (Int.not_lt.1 (of_decide_eq_false h1))
   have h2:=Sz.1 (Int.not_lt.1 (of_decide_eq_false h2))
   have h3:=Int.not_lt.1 (of_decide_eq_false h3)
   have dQ:gw t.Max x y:=⟨⟨h2.1,h1.1⟩,⟨h2.2,h1.2⟩,h3⟩
   refine Wp.ite (fun _=> ?_) fun _=> ?_
   · refine Wp.ite (fun _=>al.2 fun e=>by cases e) fun _=> ?_
     exact Wp.ite (fun _=>al.2 fun _=>dQ) fun _=>al.2 fun _=>dQ
   · exact Wp.ite (fun _=>al.2 fun _=>dQ) fun _=>al.2 fun _=>dQ
 · refine Wp.bind (Q:=fun _=>True) ?_ fun _ _=>al.2 fun _=>hc h
   unfold JK JG
   refine Wp.bind (Q:=fun _=>True) ?_ fun _ _=>al.2 trivial
   refine Wp.bind (Q:=fun _=>True) ?_ fun r _=>by cases r<;>exact al.2 trivial
   refine dO t.km.length (fun k s=>s=(k:Int)) rfl ?_ ?_
   · rintro k s hk rfl
     unfold JF J_
     simp only[aQ hk,if_true,az hk,aqF]
     refine Wp.bind (Q:=fun _=>True) ((abd _ _ _).bind fun _ _=>al.2 trivial) fun c _=> ?_
     exact Wp.ite (fun _=>al.2 trivial) fun _=>al.2 (by show W _=_;rw[aU (by omega)])
   · rintro s rfl
     unfold JF
     simp only[bl,aqG,if_false]
     exact al.2 trivial
def tE(P:Int→Prop)(l h:Int):Prop:=(l≤0∧0≤h)∧((l=0∧h=0)∨∀z,l≤z→z≤h→P z)
theorem QF{step:Int→Option (Int⊕Int)}{P:Int→Prop}{m:Int}(m0:0≤m)(m1:m≤5000)(hp:∀z,P z→-m≤z)(h0:P 0)(hs:∀z,-5000≤z→z≤0→Wp (step z) fun r=>(r= .inl (z-1)∧P (z-1))∨r= .inr z):Wp (ay step 0) fun l=>l≤0∧∀z,l≤z→z≤0→P z:=by
 refine wl (fun z=>(z+5000).toNat) (fun z=>(-m≤z∧z≤0)∧∀w,z≤w→w≤0→P w) (fun z hz=> ?_) ⟨⟨by omega,by omega⟩,fun w w1 w2=>by have:w=0:=(by omega);rw[this];exact h0⟩ (by omega)
 refine(hs z (by omega) hz.1.2).mono fun r hr=> ?_
 rcases hr with⟨rfl,hP⟩|rfl
 · have:=hp _ hP
   refine⟨⟨⟨this,by omega⟩,fun w w1 w2=> ?_⟩,by omega⟩
   by_cases hw:w=z-1
   · rw[hw];exact hP
   · exact hz.2 w (by omega) w2
 · exact⟨hz.1.2,hz.2⟩
theorem Qz{step:Int→Option (Int⊕Int)}{P:Int→Prop}{m:Int}(m0:0≤m)(m1:m≤5000)(hp:∀z,P z→z≤m)(h0:P 0)(hs:∀z,0≤z→z≤5000→Wp (step z) fun r=>(r= .inl (z+1)∧P (z+1))∨r= .inr z):Wp (ay step 0) fun l=>0≤l∧∀z,0≤z→z≤l→P z:=by
 refine wl (fun z=>(5000-z).toNat) (fun z=>(0≤z∧z≤m)∧∀w,0≤w→w≤z→P w) (fun z hz=> ?_) ⟨⟨by omega,by omega⟩,fun w w1 w2=>by have:w=0:=(by omega);rw[this];exact h0⟩ (by omega)
 refine(hs z hz.1.1 (by omega)).mono fun r hr=> ?_
 rcases hr with⟨rfl,hP⟩|rfl
 · have:=hp _ hP
   refine⟨⟨⟨by omega,this⟩,fun w w1 w2=> ?_⟩,by omega⟩
   by_cases hw:w=z+1
   · rw[hw];exact hP
   · exact hz.2 w w1 (by omega)
 · exact⟨hz.1.1,hz.2⟩
def mr(t:bm):Prop:=(((1≤t.Kind∧t.Kind≤3)∧(0≤t.nW∧t.nW≤1)∧(0≤t.Max∧t.Max≤5000)∧(0≤t.qg∧t.qg≤5000)∧1≤t.cY∧t.cY≤100)∧t.km.length≤4)∧∀x∈t.km,qd x=some true
theorem Aa{a b c:Int}(h1:b≤a)(h2:a≤c):rO a b c=some true:=by
 unfold rO
 rw[dT (show a≥b from h1),if_pos rfl,aqF,dT h2]
theorem Ds{t:bm}(h:mr t):ug t=some true:=by
 obtain⟨⟨⟨⟨a1,a2⟩,⟨a3,a4⟩,⟨a5,a6⟩,⟨a7,a8⟩,a9,Ia⟩,hl⟩,hf⟩:=h
 have hc:D8 t.km=some false:=by
  have h:=dE (step:=zZ t.km) (r:= .inl ()) (fun k=>(k:Int)) t.km.length (fun k hk=>by
   unfold zZ J'
   simp only[aQ hk,if_true,az hk,aqF,hf _ (cV hk),aqW,aqG,if_false]
   rw[aU (by omega)]) (by
   unfold zZ
   simp only[bl,aqG,if_false]) (by omega)
  have h':ay (zZ t.km) 0=_:=h
  unfold D8 JH
  rw[h']
  rfl
 unfold ug
 simp only[Aa a1 a2,Aa a3 a4,Aa a5 a6,Aa a7 a8,Aa a9 Ia,aqF,if_true,dT (show len t.km≤4 by unfold len;omega),hc,ard]
theorem aa2{t:bm}(h:mr t):Wp (Eo t) fun r=>tE (fun y=>gw t.Max 0 y) r.1 r.2:=by
 have hm:=h.1.1.2.2.1
 have ha:∀z,-10001≤z→z≤10001→Wp (wW z t) fun c=>c=true→gw t.Max 0 z:=fun z z0 z1=>by
  unfold wW
  exact(QH hm.1 hm.2 (by have:=h.1.2;omega) (by omega) (by omega) z0 z1).bind fun c hc=>al.2 hc
 unfold Eo J9
 rw[Ds h]
 simp only[aqF,aqW,aqG,if_false]
 refine Wp.bind (Q:=fun r=>tE (fun y=>gw t.Max 0 y) r.1 r.2) ?_ fun r hr=>al.2 hr
 refine(ha 0 (by omega) (by omega)).bind fun c hc=>Wp.ite (fun _=>al.2 ⟨⟨arm _,arm _⟩,.inl ⟨rfl,rfl⟩⟩) fun hn=> ?_
 have h0:=hc (by simpa using hn)
 refine(QF (P:=fun y=>gw t.Max 0 y) (m:=t.Max) hm.1 hm.2 (fun z hz=>hz.2.1.1) h0 fun z z0 z1=> ?_).bind fun l hl=> ?_
 · unfold Rr
   rw[be (by omega) (by omega)]
   refine(ha _ (by omega) (by omega)).bind fun c hc=>Wp.ite (fun h=>al.2 (.inl ⟨rfl,hc h⟩)) fun _=>al.2 (.inr rfl)
 refine(Qz (P:=fun y=>gw t.Max 0 y) (m:=t.Max) hm.1 hm.2 (fun z hz=>hz.2.1.2) h0 fun z z0 z1=> ?_).bind fun u hu=> ?_
 · unfold Rq
   rw[be (by omega) (by omega)]
   refine(ha _ (by omega) (by omega)).bind fun c hc=>Wp.ite (fun h=>al.2 (.inl ⟨rfl,hc h⟩)) fun _=>al.2 (.inr rfl)
 refine al.2 ⟨⟨hl.1,hu.1⟩,.inr fun z z1 z2=> ?_⟩
 by_cases hz:z≤0
 · exact hl.2 z z1 hz
 · exact hu.2 z (by omega) z2
theorem aa0{t:bm}(h:mr t){y:Int}(y0: -10001≤y)(y1:y≤10001):Wp (En t y) fun r=>tE (fun x=>gw t.Max x y) r.1 r.2:=by
 have hm:=h.1.1.2.2.1
 have ha:∀z,-10001≤z→z≤10001→Wp (wV z t y) fun c=>c=true→gw t.Max z y:=fun z z0 z1=>by
  unfold wV
  exact(QH hm.1 hm.2 (by have:=h.1.2;omega) z0 z1 y0 y1).bind fun c hc=>al.2 hc
 unfold En J8
 rw[Ds h]
 simp only[aqF,aqW,aqG,if_false]
 refine Wp.bind (Q:=fun r=>tE (fun x=>gw t.Max x y) r.1 r.2) ?_ fun r hr=>al.2 hr
 refine(ha 0 (by omega) (by omega)).bind fun c hc=>Wp.ite (fun _=>al.2 ⟨⟨arm _,arm _⟩,.inl ⟨rfl,rfl⟩⟩) fun hn=> ?_
 have h0:=hc (by simpa using hn)
 refine(QF (P:=fun x=>gw t.Max x y) (m:=t.Max) hm.1 hm.2 (fun z hz=>hz.1.1) h0 fun z z0 z1=> ?_).bind fun l hl=> ?_
 · unfold Rp
   rw[be (by omega) (by omega)]
   refine(ha _ (by omega) (by omega)).bind fun c hc=>Wp.ite (fun h=>al.2 (.inl ⟨rfl,hc h⟩)) fun _=>al.2 (.inr rfl)
 refine(Qz (P:=fun x=>gw t.Max x y) (m:=t.Max) hm.1 hm.2 (fun z hz=>hz.1.2) h0 fun z z0 z1=> ?_).bind fun u hu=> ?_
 · unfold Ro
   rw[be (by omega) (by omega)]
   refine(ha _ (by omega) (by omega)).bind fun c hc=>Wp.ite (fun h=>al.2 (.inl ⟨rfl,hc h⟩)) fun _=>al.2 (.inr rfl)
 refine al.2 ⟨⟨hl.1,hu.1⟩,.inr fun z z1 z2=> ?_⟩
 by_cases hz:z≤0
 · exact hl.2 z z1 hz
 · exact hu.2 z (by omega) z2
end
end Rx
namespace Rx
section
def Ir(s:dH):Prop:=((-5000≤s.eY∧s.eY≤s.eD)∧s.eD≤5000)∧1≤s.cY∧s.cY≤100
def Ic(l:List dH):Prop:=l.length≤8∧∀i,i<l.length→Ir (gt l i)
def zh(l:List dH)(x:List Int):Prop:=x.length=l.length∧∀i,i<l.length→(gt l i).eY≤gt x i∧gt x i≤(gt l i).eD
theorem adv{l:List dH}(h:Ic l):Eg l=some 0:=by
 have hl:=h.1
 have hp:=dE (step:=Af l) (r:= .inl ()) (fun k=>(k:Int)) l.length (fun k hk=>by
  obtain⟨⟨⟨h1,h2⟩,h3⟩,h4,h5⟩:=h.2 k hk
  unfold Af
  simp only[aQ hk,if_true,az hk,aqF,dF (show ¬(gt l k).eY< -5000 by omega),dF (show ¬(gt l k).eY>(gt l k).eD by omega),dF (show ¬(gt l k).eD>5000 by omega),dF (show ¬(gt l k).cY<1 by omega),dF (show ¬(gt l k).cY>100 by omega),aqG,if_false]
  rw[aU (by omega)]) (by
  unfold Af
  simp only[bl,aqG,if_false]) (by omega)
 have h':ay (Af l) 0=_:=hp
 unfold Eg
 rw[dF (show ¬len l>8 by unfold len;omega),if_neg (by decide),h']
 rfl
theorem aaP{l:List dH}(h:Ic l):Wp (Eh l) fun r=>r.2.2=0:=by
 have hl:=h.1
 unfold Eh
 rw[adv h]
 simp only[aqF,bne_self_eq_false,aqG,if_false]
 refine Wp.bind (Q:=fun _=>True) ?_ fun r _=>al.2 rfl
 refine dO l.length (fun k s=>∃a c,s=(a,c,(k:Int))) ⟨0,0,rfl⟩ ?_ ?_
 · rintro k s hk ⟨a,c,rfl⟩
   unfold J2
   simp only[aQ hk,if_true,az hk,aqF]
   exact al.2 ⟨_,_,by rw[aU (by omega)]⟩
 · rintro s ⟨a,c,rfl⟩
   unfold J2
   simp only[bl,aqG,if_false]
   exact al.2 trivial
theorem alt{a lo hi:Int}(h:lo≤hi):lo≤imax lo (dx a hi)∧imax lo (dx a hi)≤hi:=by
 unfold imax dx
 split<;>split<;>omega
theorem QB{l:List dH}(h:Ic l)(aeE:Int):Wp (Ae l aeE) fun r=>zh l r.2:=by
 have hl:=h.1
 unfold Ae
 refine Wp.bind (Q:=fun(r:Int×List Int)=>zh l r.2) ?_ fun r hr=>al.2 hr
 refine dO l.length (fun k s=>∃n x,s=(n,(k:Int),x)∧x.length=k∧∀i,i<k→(gt l i).eY≤gt x i∧gt x i≤(gt l i).eD) ⟨0,[],rfl,rfl,fun i hi=>by omega⟩ ?_ ?_
 · rintro k s hk ⟨n,x,rfl,e1,e2⟩
   unfold J0
   simp only[aQ hk,if_true,az hk,aqF]
   refine(apw _ _).bind fun f _=> ?_
   unfold CS
   simp only[aqF]
   rw[cp (by simp;omega)]
   simp only[aqF]
   have hc:=alt (a:=f.1) (h.2 k hk).1.1.2
   refine al.2 ⟨_,x++[imax (gt l k).eY (dx f.1 (gt l k).eD)],by rw[aU (by omega)],by rw[aqY,e1];rfl,fun i hi=> ?_⟩
   rw[mY (show i<x.length+1 by omega)]
   by_cases c_:i<x.length
   · rw[if_pos c_];exact e2 i (by omega)
   · rw[if_neg c_,show i=k by omega];exact hc
 · rintro s ⟨n,x,rfl,e1,e2⟩
   unfold J0
   simp only[bl,aqG,if_false]
   exact al.2 ⟨e1,e2⟩
theorem I8{l:List dH}(h:Ic l){total:Int}(t0: -500000≤total)(t1:total≤500000):Wp (wS l total) fun r=>zh l r.2.2:=by
 have hl:=h.1
 unfold wS
 refine(aaP h).bind fun r hr=> ?_
 rw[hr]
 simp only[bne_self_eq_false,aqG,if_false,dF (show ¬total< -500000 by omega),dF (show ¬total>500000 by omega),aqF,CS]
 refine Wp.bind (Q:=fun _=>True) ?_ fun p _=> ?_
 · refine wl (fun s=>(s.2-s.1).toNat) (fun s=>(-1000200≤s.1∧s.1≤s.2)∧s.2≤1000200) (fun s hs=> ?_) ⟨⟨by decide,by decide⟩,by decide⟩ (by decide)
   obtain⟨a,c⟩:=s
   simp only at hs
   unfold Rh
   by_cases aK:a<c
   · simp only[dT aK,if_true]
     rw[be (x:=a+c) (by omega) (by omega),apx (by omega) (by omega) (by omega) (by omega)]
     simp only[aqF]
     refine(QB h _).bind fun x _=> ?_
     refine Wp.bind (Q:=fun s=>((-1000200≤s.1∧s.1≤s.2)∧s.2≤1000200)∧s.2-s.1<c-a) ?_ fun s hs=>al.2 ⟨hs.1,by simp only;omega⟩
     refine Wp.ite (fun _=>al.2 ⟨⟨⟨by simp only;omega,by simp only;omega⟩,by simp only;omega⟩,by simp only;omega⟩) fun _=>al.2 ?_
     rw[be (by omega) (by omega)]
     exact⟨⟨⟨by simp only;omega,by simp only;omega⟩,by simp only;omega⟩,by simp only;omega⟩
   · simp only[dF aK,aqG,if_false]
     exact al.2 trivial
 refine(QB h _).bind fun x hx=> ?_
 refine Wp.bind (Q:=fun x=>zh l x) ?_ fun x hx=>al.2 hx
 refine dO l.length (fun k s=>∃n x,s=(n,(k:Int),x)∧zh l x) ⟨_,x.2,rfl,hx⟩ ?_ ?_
 · rintro k s hk ⟨n,x,rfl,e1,e2⟩
   have BB:k<x.length:=by omega
   unfold J3
   simp only[aQ hk,if_true,az hk,az BB,aqF,fg BB]
   refine Wp.bind (Q:=fun c=>c=true→gt x k<(gt l k).eD) ?_ fun c hc=> ?_
   · refine Wp.ite (fun _=> ?_) fun _=>al.2 fun e=>by cases e
     refine Wp.ite (fun hh=> ?_) fun _=>al.2 fun e=>by cases e
     unfold J1
     exact al.2 fun _=>of_decide_eq_true hh
   refine Wp.bind (Q:=fun s=>zh l s.2) ?_ fun s hs=>al.2 ⟨_,s.2,by rw[aU (by omega)],hs⟩
   refine Wp.ite (fun hh=>al.2 ⟨by simpa using e1,fun i hi=> ?_⟩) fun _=>al.2 ⟨e1,e2⟩
   have h1:=hc hh
   have h2:=e2 k hk
   have h3:=h.2 k hk
   show(gt l i).eY≤gt (x.set k (W (gt x k+1))) i∧gt (x.set k (W (gt x k+1))) i≤(gt l i).eD
   rw[dz BB]
   by_cases c_:i=k
   · rw[if_pos c_,c_,be (by have:=h3.1;omega) (by have:=h3.1;omega)]
     omega
   · rw[if_neg c_]
     exact e2 i hi
 · rintro s ⟨n,x,rfl,e⟩
   unfold J3
   simp only[bl,aqG,if_false]
   exact al.2 e
def Ib(M:List bm):Prop:=M.length≤8∧∀i,i<M.length→mr (gt M i)
theorem RH{t:bm}{P:Int→Prop}(h:mr t){l u:Int}(hr:tE P l u)(hp:∀z,P z→-t.Max≤z∧z≤t.Max):Ir ⟨l,u,t.cY⟩:=by
 have hm:=h.1.1.2.2.1
 have hc:=h.1.1.2.2.2.2
 obtain⟨⟨h1,h2⟩,h3⟩:=hr
 rcases h3 with⟨rfl,rfl⟩|h3
 · exact⟨⟨⟨by show(-5000:Int)≤0;omega,by show(0:Int)≤0;omega⟩,by show(0:Int)≤5000;omega⟩,hc⟩
 · have a1:=hp l (h3 l (arm _) (by omega))
   have a2:=hp u (h3 u (by omega) (arm _))
   exact⟨⟨⟨by show-5000≤l;omega,by show l≤u;omega⟩,by show u≤5000;omega⟩,hc⟩
def Iw(s:Int)(t:bm)(x:dH):Prop:=Ir x∧(if t.nW≠s then x.eY=0∧x.eD=0 else tE (fun y=>gw t.Max 0 y) x.eY x.eD)
theorem QD{M:List bm}(h:Ib M)(s:Int):Wp (AU ⟨M,[]⟩ s) fun l=>l.length=M.length∧∀i,i<M.length→Iw s (gt M i) (gt l i):=by
 have hl:=h.1
 unfold AU
 refine Wp.bind (Q:=fun(l:List dH)=>l.length=M.length∧∀i,i<M.length→Iw s (gt M i) (gt l i)) ?_ fun r hr=>al.2 hr
 refine dO M.length (fun k st=>∃l,st=((k:Int),l)∧l.length=k∧∀i,i<k→Iw s (gt M i) (gt l i)) ⟨[],rfl,rfl,fun i hi=>by omega⟩ ?_ ?_
 · rintro k st hk ⟨l,rfl,e1,e2⟩
   have ht:=h.2 k hk
   unfold KU
   simp only[aQ hk,if_true,az hk,aqF]
   refine Wp.bind (Q:=fun r=>∃x,r=l++[x]∧Iw s (gt M k) x) ?_ fun r hr=> ?_
   · refine Wp.ite (fun hs=> ?_) fun hs=> ?_
     · rw[cp (by simp;omega)]
       refine al.2 ⟨⟨0,0,(gt M k).cY⟩,rfl,⟨⟨⟨by show(-5000:Int)≤0;omega,by show(0:Int)≤0;omega⟩,by show(0:Int)≤5000;omega⟩,ht.1.1.2.2.2.2⟩, ?_⟩
       rw[if_pos (by simpa using hs)]
       exact⟨rfl,rfl⟩
     · refine(aa2 ht).bind fun r hr=> ?_
       unfold KT
       simp only[az hk,aqF,show decide (len ([]:List du)>0)=false from rfl,aqG,if_false]
       rw[cp (by simp;omega)]
       refine al.2 ⟨⟨r.1,r.2,(gt M k).cY⟩,rfl,RH ht hr fun z hz=>hz.2.1, ?_⟩
       rw[if_neg (by simpa using hs)]
       exact hr
   · obtain⟨x,rfl,hx⟩:=hr
     refine al.2 ⟨l++[x],by rw[aU (by omega)],by rw[aqY,e1];rfl,fun i hi=> ?_⟩
     rw[mY (show i<l.length+1 by omega)]
     by_cases c_:i<l.length
     · rw[if_pos c_];exact e2 i (by omega)
     · rw[if_neg c_,show i=k by omega];exact hx
 · rintro st ⟨l,rfl,e1,e2⟩
   unfold KU
   simp only[bl,aqG,if_false]
   exact al.2 ⟨e1,e2⟩
def PF(t:bm)(y:Int)(x:dH):Prop:=Ir x∧tE (fun z=>gw t.Max z y) x.eY x.eD
theorem aaZ{M:List bm}(h:Ib M){y:List Int}(hy:y.length=M.length)(hb:∀i,i<M.length→-5000≤gt y i∧gt y i≤5000):Wp (E9 ⟨M,[]⟩ y) fun l=>l.length=M.length∧∀i,i<M.length→PF (gt M i) (gt y i) (gt l i):=by
 have hl:=h.1
 unfold E9
 refine Wp.bind (Q:=fun(l:List dH)=>l.length=M.length∧∀i,i<M.length→PF (gt M i) (gt y i) (gt l i)) ?_ fun r hr=>al.2 hr
 refine dO M.length (fun k st=>∃l,st=((k:Int),l)∧l.length=k∧∀i,i<k→PF (gt M i) (gt y i) (gt l i)) ⟨[],rfl,rfl,fun i hi=>by omega⟩ ?_ ?_
 · rintro k st hk ⟨l,rfl,e1,e2⟩
   have ht:=h.2 k hk
   unfold KR
   simp only[aQ hk,if_true,az hk,az (show k<y.length by omega),aqF]
   refine(aa0 ht (by have:=hb k hk;omega) (by have:=hb k hk;omega)).bind fun r hr=> ?_
   unfold KS
   simp only[az hk,aqF,show decide (len ([]:List du)>0)=false from rfl,aqG,if_false]
   rw[cp (by simp;omega)]
   refine al.2 ⟨l++[⟨r.1,r.2,(gt M k).cY⟩],by rw[aU (by omega)],by rw[aqY,e1];rfl,fun i hi=> ?_⟩
   rw[mY (show i<l.length+1 by omega)]
   by_cases c_:i<l.length
   · rw[if_pos c_];exact e2 i (by omega)
   · rw[if_neg c_,show i=k by omega];exact⟨RH ht hr fun z hz=>hz.1,hr⟩
 · rintro st ⟨l,rfl,e1,e2⟩
   unfold KR
   simp only[bl,aqG,if_false]
   exact al.2 ⟨e1,e2⟩
def v7(x:gu):Prop:=((0≤x.gz∧x.gz≤200)∧1≤x.fZ∧x.fZ≤200)∧Ib x.bN
theorem N8{x:gu}(h:v7 x):rE x=some 0:=by
 obtain⟨⟨⟨h1,h2⟩,h3,h4⟩,hl,ht⟩:=h
 have hc:D5 x.bN=some false:=by
  have h:=dE (step:=zW x.bN) (r:= .inl ()) (fun k=>(k:Int)) x.bN.length (fun k hk=>by
   unfold zW Jd
   simp only[aQ hk,if_true,az hk,aqF,Ds (ht k hk),aqW,aqG,if_false]
   rw[aU (by omega)]) (by
   unfold zW
   simp only[bl,aqG,if_false]) (by omega)
  have h':ay (zW x.bN) 0=_:=h
  unfold D5 Jz
  rw[h']
  rfl
 unfold rE
 rw[dF (show ¬len x.bN>8 by unfold len;omega),dF (show ¬dx x.gz x.fZ<0 by unfold dx;split<;>omega),dF (show ¬imax x.gz x.fZ>200 by unfold imax;split<;>omega)]
 simp only[aqG,if_false,bY (show x.fZ≠0 by omega),ite_self,aqF,hc]
theorem aaB{x:gu}(h:v7 x){l:List du}(hl:l.length=x.bN.length):Wp (Dx x l) fun _=>True:=by
 have h8:=h.2.1
 unfold Dx
 rw[N8 h]
 simp only[aqF,bne_self_eq_false,aqG,if_false,tv (show len l=len x.bN by unfold len;omega)]
 refine Wp.bind (Q:=fun _=>True) ?_ fun r _=>by cases r<;>exact al.2 trivial
 refine dO l.length (fun k s=>∃z,s=((k:Int),z)) ⟨_,rfl⟩ ?_ ?_
 · rintro k s hk ⟨z,rfl⟩
   unfold Jc
   simp only[aQ hk,if_true,az hk,aqF,az (show k<x.bN.length by omega)]
   refine Wp.bind (Q:=fun _=>True) ?_ fun c _=>Wp.ite (fun _=>al.2 trivial) fun _=> ?_
   · unfold zG
     refine Wp.bind (Q:=fun _=>True) ?_ fun _ _=>al.2 trivial
     exact Wp.ite (fun _=>al.2 trivial) fun _=>al.2 trivial
   refine Wp.bind (Q:=fun _=>True) ?_ fun c _=>al.2 ⟨_,by rw[aU (by omega)]⟩
   exact Wp.ite (fun _=>al.2 trivial) fun _=>al.2 trivial
 · rintro s ⟨z,rfl⟩
   unfold Jc
   simp only[bl,aqG,if_false]
   exact al.2 trivial
theorem I_{l:List Int}{a c:Int}(hl:l.length≤1000)(h:∀i,i<l.length→a≤gt l i∧gt l i≤c):tB l a c=some true:=by
 have hp:=dE (step:=zU l a c) (r:= .inl ()) (fun k=>(k:Int)) l.length (fun k hk=>by
  have:=h k hk
  unfold zU Pc
  simp only[aQ hk,if_true,az hk,aqF,dF (show ¬gt l k<a by omega),dF (show ¬gt l k>c by omega),aqG,if_false]
  rw[aU (by omega)]) (by
  unfold zU
  simp only[bl,aqG,if_false]) (by omega)
 have h':ay (zU l a c) 0=_:=hp
 unfold tB JI Jv
 rw[h']
 rfl
def pD(t:bm)(m:Int):bm:=⟨t.Kind,t.nW,dx t.Max (imax m 0),t.qg,t.cY,t.km⟩
theorem Ls{t:bm}(h:mr t){m:Int}(m0:0≤m):mr (pD t m)∧(pD t m).Max≤m:=by
 obtain⟨⟨⟨a1,a2,a3,a4⟩,hl⟩,hf⟩:=h
 have e:0≤dx t.Max (imax m 0)∧dx t.Max (imax m 0)≤5000∧dx t.Max (imax m 0)≤m:=by
  unfold dx imax
  split<;>split<;>omega
 exact⟨⟨⟨⟨a1,a2,⟨e.1,e.2.1⟩,a4⟩,hl⟩,hf⟩,e.2.2⟩
theorem aa8{x:gu}(h:v7 x){A:List Int}(hA:A.length=x.bN.length)(hb:∀i,i<A.length→0≤gt A i∧gt A i≤5000){Z:List Int}(hZ:Z.length=x.bN.length)(hz:∀i,i<Z.length→-5000≤gt Z i∧gt Z i≤5000):Wp (H7 x A [] Z) fun r=>(r.1=[]∧r.2.1=0)∧r.2.2.2.length=x.bN.length∧∀i,i<x.bN.length→gt r.2.2.2 i=pD (gt x.bN i) (gt A i):=by
 have h8:=h.2.1
 unfold H7
 rw[N8 h]
 simp only[aqF,bne_self_eq_false,aqG,if_false,tv (show len A=len x.bN by unfold len;omega),tv (show len Z=len x.bN by unfold len;omega),show decide (len ([]:List du)>0)=false from rfl,I_ (show A.length≤1000 by omega) hb,I_ (show Z.length≤1000 by omega) hz,aqW]
 refine Wp.bind (Q:=fun r=>r.1=[]∧r.2.length=x.bN.length∧∀i,i<x.bN.length→gt r.2 i=pD (gt x.bN i) (gt A i)) ?_ fun r hr=> ?_
 · refine dO x.bN.length (fun k s=>∃M,s=((k:Int),[],M)∧M.length=k∧∀i,i<k→gt M i=pD (gt x.bN i) (gt A i)) ⟨[],rfl,rfl,fun i hi=>by omega⟩ ?_ ?_
   · rintro k s hk ⟨M,rfl,e1,e2⟩
     unfold Pg Jb JP
     have dG:=(h.2.2 k hk).1.2
     simp only[aQ hk,if_true,az hk,az (show k<A.length by omega),aqF]
     rw[cp (by simp;omega)]
     simp only[aqF]
     rw[cp (by simp;omega)]
     refine al.2 ⟨M++[pD (gt x.bN k) (gt A k)],by rw[aU (by omega)];rfl,by rw[aqY,e1];rfl,fun i hi=> ?_⟩
     rw[mY (show i<M.length+1 by omega)]
     by_cases c_:i<M.length
     · rw[if_pos c_];exact e2 i (by omega)
     · rw[if_neg c_,show i=k by omega]
   · rintro s ⟨M,rfl,e1,e2⟩
     unfold Pg
     simp only[bl,aqG,if_false]
     exact al.2 ⟨rfl,e1,e2⟩
 · have hL:ay (Pf [] Z) 0=some (.inl ()):=lO (.done (by unfold Pf;rfl)) (by omega)
   rw[hL]
   exact al.2 ⟨⟨hr.1,rfl⟩,hr.2⟩
theorem aa_{x:gu}(h:v7 x){A:List Int}(hA:A.length=x.bN.length)(hb:∀i,i<A.length→0≤gt A i∧gt A i≤5000){d:ja}(d1: -500000≤d.ms∧d.ms≤500000)(d2: -500000≤d.gz∧d.gz≤500000)(d3: -500000≤d.fZ∧d.fZ≤500000):Wp (H8 x A [] d) fun r=>r.2.2.2.2.2.2.1=0∧r.2.2.2.2.2.2.2.length=x.bN.length∧∀i,i<x.bN.length→gw (pD (gt x.bN i) (gt A i)).Max (gt r.2.2.2.2.2.2.2 i).X (gt r.2.2.2.2.2.2.2 i).Y:=by
 have h8:=h.2.1
 unfold H8
 refine Wp.bind (Q:=fun r=>(r.1=[]∧r.2.1=0)∧r.2.2.length=x.bN.length∧∀i,i<x.bN.length→gt r.2.2 i=pD (gt x.bN i) (gt A i)) ?_ fun r hr=> ?_
 · unfold Pd
   rw[show len x.bN=((x.bN.length:Nat):Int) from rfl,ur (by omega)]
   simp only[aqF]
   refine(aa8 h hA hb (Z:=aqS x.bN.length 0) (by simp) fun i hi=>by rw[sO (by simpa using hi)];omega).bind fun r hr=> ?_
   rw[hr.1.2]
   have hw:tB [d.ms,d.gz,d.fZ] (-500000) 500000=some true:=I_ (by simp) fun i hi=>by
    match i,hi with
    |0,_=>exact d1
    |1,_=>exact d2
    |2,_=>exact d3
   simp only[beq_self_eq_true,if_true,hw,aqF,aqW,aqG,if_false]
   exact al.2 ⟨⟨hr.1.1,rfl⟩,hr.2⟩
 obtain⟨⟨e1,e2⟩,e3,e4⟩:=hr
 obtain⟨r1,r2,M⟩:=r
 simp only at e1 e2 e3 e4
 subst e1 e2
 have hM:Ib M:=⟨by omega,fun i hi=>by rw[e4 i (by omega)];exact(Ls (h.2.2 i (by omega)) (hb i (by omega)).1).1⟩
 simp only[bne_self_eq_false,aqG,if_false]
 refine(QD hM 0).bind fun l0 FV=> ?_
 refine(I8 ⟨by omega,fun i hi=>(FV.2 i (by omega)).1⟩ d2.1 d2.2).bind fun x3 h3=> ?_
 refine(QD hM 1).bind fun l1 kb=> ?_
 refine(I8 ⟨by omega,fun i hi=>(kb.2 i (by omega)).1⟩ d3.1 d3.2).bind fun x5 h5=> ?_
 have n3:=h3.1
 have n5:=h5.1
 have Bv:∀i,i<M.length→0≤(gt M i).Max∧(gt M i).Max≤5000:=fun i hi=>(hM.2 i hi).1.1.2.2.1
 have aas:∀i,i<M.length→gw (gt M i).Max 0 0:=fun i hi=>by
  have:=Bv i hi
  refine⟨⟨by omega,by omega⟩,⟨by omega,by omega⟩, ?_⟩
  have:=ase this.1 this.1
  omega
 have hy:∀i,i<M.length→gw (gt M i).Max 0 (gt x5.2.2 i+gt x3.2.2 i):=fun i hi=>by
  obtain⟨_,q0⟩:=FV.2 i hi
  obtain⟨_,q1⟩:=kb.2 i hi
  have b0:=h3.2 i (by omega)
  have b1:=h5.2 i (by omega)
  have bD:=(hM.2 i hi).1.1.2.1
  have key:∀{l u z:Int},tE (fun y=>gw (gt M i).Max 0 y) l u→l≤z→z≤u→gw (gt M i).Max 0 z:=fun hr z1 z2=>by
   rcases hr.2 with⟨rfl,rfl⟩|hr
   · rw[show _=(0:Int) from Int.le_antisymm z2 z1];exact aas i hi
   · exact hr _ z1 z2
  by_cases hs:(gt M i).nW=0
  · rw[if_neg (fun hn=>hn hs)] at q0
    rw[if_pos (by omega)] at q1
    rw[show gt x5.2.2 i=0 by omega,Int.zero_add]
    exact key q0 b0.1 b0.2
  · rw[if_pos hs] at q0
    rw[if_neg (fun hn=>hn (by omega))] at q1
    rw[show gt x3.2.2 i=0 by omega,Int.add_zero]
    exact key q1 b1.1 b1.2
 refine Wp.bind (Q:=fun y=>y.length=M.length∧∀i,i<M.length→gw (gt M i).Max 0 (gt y i)) ?_ fun y qP=> ?_
 · refine dO x5.2.2.length (fun k s=>∃y,s=((k:Int),y)∧y.length=M.length∧(∀i,i<k→gw (gt M i).Max 0 (gt y i))∧∀i,k≤i→gt y i=gt x5.2.2 i) ⟨x5.2.2,rfl,by omega,fun i hi=>by omega,fun i _=>rfl⟩ ?_ ?_
   · rintro k s hk ⟨y,rfl,f1,f2,f3⟩
     have FW:k<y.length:=by omega
     unfold Pj
     simp only[aQ hk,if_true,az FW,az (show k<x3.2.2.length by omega),aqF,fg FW]
     have dQ:=hy k (by omega)
     have q9:=Bv k (by omega)
     rw[f3 k (aqM _),be (x:=gt x5.2.2 k+gt x3.2.2 k) (by have:=dQ.2.1;omega) (by have:=dQ.2.1;omega)]
     refine al.2 ⟨y.set k (gt x5.2.2 k+gt x3.2.2 k),by rw[aU (by omega)],by simpa using f1,fun i hi=> ?_,fun i hi=> ?_⟩
     · rw[dz FW]
       by_cases c_:i=k
       · rw[if_pos c_,c_];exact dQ
       · rw[if_neg c_];exact f2 i (by omega)
     · rw[dz FW,if_neg (by omega)]
       exact f3 i (by omega)
   · rintro s ⟨y,rfl,f1,f2,f3⟩
     unfold Pj
     simp only[bl,aqG,if_false]
     exact al.2 ⟨f1,fun i hi=>f2 i (by omega)⟩
 have hyb:∀i,i<M.length→-5000≤gt y i∧gt y i≤5000:=fun i hi=>by
  have:=(qP.2 i hi).2.1
  have:=Bv i hi
  omega
 refine(aaZ hM qP.1 hyb).bind fun l2 ln=> ?_
 refine(I8 ⟨by omega,fun i hi=>(ln.2 i (by omega)).1⟩ d1.1 d1.2).bind fun bO U9=> ?_
 have n14:=U9.1
 have xI:∀i,i<M.length→gw (gt M i).Max (gt bO.2.2 i) (gt y i):=fun i hi=>by
  have b1:=U9.2 i (by omega)
  rcases(ln.2 i hi).2.2 with⟨e1,e2⟩|hr
  · rw[show gt bO.2.2 i=0 by omega];exact qP.2 i hi
  · exact hr _ b1.1 b1.2
 have TD:=qP.1
 refine Wp.bind (Q:=fun s=>s.2.2.2.2.2.2.length=M.length∧∀i,i<M.length→gt s.2.2.2.2.2.2 i=⟨gt bO.2.2 i,gt y i⟩) ?_ fun s hs=> ?_
 · refine dO y.length (fun k s=>∃z1 z2 z3 z4 z5 z6 T,s=((k:Int),z1,z2,z3,z4,z5,z6,T)∧T.length=k∧∀i,i<k→gt T i=⟨gt bO.2.2 i,gt y i⟩) ⟨0,0,0,0,0,0,[],rfl,rfl,fun i hi=>by omega⟩ ?_ ?_
   · rintro k s hk ⟨z1,z2,z3,z4,z5,z6,T,rfl,f1,f2⟩
     unfold Ph
     simp only[aQ hk,if_true,az hk,az (show k<bO.2.2.length by omega),aqF]
     rw[cp (by simp;omega)]
     refine al.2 ⟨z1,z2,z3,z4,z5,z6,T++[⟨gt bO.2.2 k,gt y k⟩],by rw[aU (by omega)],by rw[aqY,f1];rfl,fun i hi=> ?_⟩
     rw[mY (show i<T.length+1 by omega)]
     by_cases c_:i<T.length
     · rw[if_pos c_];exact f2 i (by omega)
     · rw[if_neg c_,show i=k by omega]
   · rintro s ⟨z1,z2,z3,z4,z5,z6,T,rfl,f1,f2⟩
     unfold Ph
     simp only[bl,aqG,if_false]
     exact al.2 ⟨by simp only;omega,fun i hi=>f2 i (by omega)⟩
 refine(aaB h (by rw[hs.1,e3])).bind fun z _=> ?_
 unfold Pe
 simp only[aqF]
 refine al.2 ⟨rfl,by rw[hs.1,e3],fun i hi=> ?_⟩
 rw[hs.2 i (by omega),←e4 i hi]
 exact xI i (by omega)
end
end Rx
namespace Rx
section
variable {b:aj} {p:ae} {l:List Int} {a:Int}
def pw(S c:Int):Int:= -((-(S*c))/1000)
theorem R4{S c n:Int}(h:S*c≤1000*n):pw S c≤n:=by unfold pw;omega
theorem aey{S c n:Int}(h:n<pw S c):1000*n<S*c:=by unfold pw at h;omega
theorem QC{t:bm}(h:mr t){x y:Int}(x0: -5000≤x)(x1:x≤5000)(y0: -5000≤y)(y1:y≤5000):ww t ⟨x,y⟩=some (pw (x*x+y*y) t.cY,0):=by
 obtain⟨q1,q2⟩:=wA (x:=x) (by omega) (by omega)
 obtain⟨q3,q4⟩:=wA (x:=y) (by omega) (by omega)
 obtain⟨c1,c2⟩:=h.1.1.2.2.2.2
 have hm:0≤(x*x+y*y)*t.cY:=ase (by omega) (by omega)
 have Mu:(x*x+y*y)*t.cY≤200040002*100:=ar4 (by omega) c2 (by omega) (by decide)
 unfold ww zG
 simp only[Ds h,aqF,aqW,aqG,if_false]
 rw[dT (show imax x y≤5000 from St.2 ⟨x1,y1⟩),if_pos rfl,dT (show dx x y≥-5000 from Sz.2 ⟨x0,y0⟩)]
 simp only[aqF,aqW,aqG,if_false]
 rw[be (x:=x*x) (by omega) (by omega),be (x:=y*y) (by omega) (by omega),be (x:=x*x+y*y) (by omega) (by omega),be (x:=(x*x+y*y)*t.cY) (by omega) (by omega),apm (by omega) (by omega) (by omega) (by omega)]
 rfl
theorem aaO{n:Int}(h0:0≤n)(h1:n≤1000000000000000000):Wp (HY n) fun r=>0≤r.1∧r.1*r.1≤n:=by
 unfold HY
 rw[dF (show ¬n<0 by omega),if_neg (by decide),dF (show ¬n>1000000000000000000 by omega)]
 simp only[aqF,aqG,if_false]
 refine Wp.bind (Q:=fun r=>0≤r∧r*r≤n) ?_ fun r hr=>al.2 hr
 refine wl (fun s=>(s.2-s.1).toNat) (fun s=>((0≤s.1∧s.1≤s.2)∧s.2≤1000000000)∧s.1*s.1≤n) (fun s hs=> ?_) ⟨⟨⟨by decide,by decide⟩,by decide⟩,by simp;omega⟩ (by decide)
 obtain⟨c,d⟩:=s
 simp only at hs
 obtain⟨⟨⟨a0,a1⟩,a2⟩,a3⟩:=hs
 unfold ZE
 by_cases aK:c<d
 · simp only[dT aK,if_true]
   rw[be (x:=c+d) (by omega) (by omega),be (x:=c+d+1) (by omega) (by omega),EN (by omega) (by omega) (by omega)]
   obtain⟨m,hm⟩:∃m,(c+d+1)/2=m:=⟨_,rfl⟩
   rw[hm]
   have m0:c<m∧m≤d:=by omega
   have mm:0≤m*m∧m*m≤1000000000*1000000000:=⟨ase (by omega) (by omega),ar4 (by omega) (by omega) (by omega) (by decide)⟩
   rw[aqF,be (x:=m*m) (by omega) (by omega)]
   refine Wp.bind (Q:=fun s=>(((0≤s.1∧s.1≤s.2)∧s.2≤1000000000)∧s.1*s.1≤n)∧s.2-s.1<d-c) ?_ fun s hs=>al.2 ⟨hs.1,by simp only;omega⟩
   refine Wp.ite (fun hh=>al.2 ⟨⟨⟨⟨by simp only;omega,by simp only;omega⟩,by simp only;omega⟩,of_decide_eq_true hh⟩,by simp only;omega⟩) fun _=>al.2 ?_
   rw[be (by omega) (by omega)]
   exact⟨⟨⟨⟨by simp only;omega,by simp only;omega⟩,by simp only;omega⟩,a3⟩,by simp only;omega⟩
 · simp only[dF aK,aqG,if_false]
   exact al.2 ⟨a0,a3⟩
theorem ac6{x y:Int}(hy:0≤y)(h:x*x<y*y):x≤y:=by
 apply aq6
 intro hn
 have:=ar4 (show y≤x by omega) (show y≤x by omega) hy (by omega)
 omega
def Z7(t:bm)(dt r:Int):Prop:=(0≤r∧r≤t.Max)∧∀S:Int,S≤r*r→pw S t.cY≤dt
theorem aaV{t:bm}(h:mr t){dt:Int}(l0:0≤dt)(l1:dt≤100000):Wp (Dy t dt) (Z7 t dt):=by
 obtain⟨m0,m1⟩:=h.1.1.2.2.1
 obtain⟨c1,c2⟩:=h.1.1.2.2.2.2
 unfold Dy
 rw[QC h (by omega) (by omega) (by omega) (by omega)]
 simp only[aqF,bne_self_eq_false,aqG,if_false,dF (show ¬dt<0 by omega)]
 have Su:∀{S r:Int},S≤r→S*t.cY≤r*t.cY:=fun h=>Int.mul_le_mul_of_nonneg_right h (by omega)
 refine Wp.ite (fun hh=>al.2 ⟨⟨m0,arm _⟩,fun S hS=> ?_⟩) fun hh=> ?_
 · have hh:dt≥pw (t.Max*t.Max+0*0) t.cY:=of_decide_eq_true hh
   have e:=Su hS
   rw[show t.Max*t.Max+0*0=t.Max*t.Max by omega] at hh
   unfold pw at*
   omega
 · have hh:¬dt≥pw (t.Max*t.Max+0*0) t.cY:=of_decide_eq_false hh
   rw[show t.Max*t.Max+0*0=t.Max*t.Max by omega] at hh
   have aK:=aey (Int.not_le.1 hh)
   rw[be (x:=1000*dt) (by omega) (by omega),EN (by omega) (by omega) (by omega)]
   simp only[aqF]
   have q1:1000*dt/t.cY<t.Max*t.Max:=Int.ediv_lt_of_lt_mul (by omega) aK
   have q0:0≤1000*dt/t.cY:=Int.ediv_nonneg (by omega) (by omega)
   have q2:1000*dt/t.cY*t.cY≤1000*dt:=Int.ediv_mul_le _ (by omega)
   have q3:=(wA (x:=t.Max) (by omega) (by omega)).2
   refine(aaO q0 (by omega)).bind fun r hr=>al.2 ⟨⟨hr.1,ac6 m0 (by omega)⟩,fun S hS=> ?_⟩
   have e:=Su (Int.le_trans hS hr.2)
   exact R4 (by omega)
def C6(b:aj)(i c:Nat):Prop:=(c<b.ai.length∧(gt b.ai c).bm=(i:Int))∧∀d,d<c→(gt b.ai d).bm≠(i:Int)
def pf(b:aj)(p:ae)(x:gu)(A:List Int)(i:Nat):Prop:=(0≤gt A i∧gt A i≤5000)∧(gt A i=0∨∃c,C6 b i c∧qx b p 64 (c:Int)=true∧Z7 (gt x.bN i) (gt p.aE c) (gt A i))
theorem agu(hb:Sm b.ai)(i:Nat):(zY b.ai (i:Int)=some (-1))∨∃c:Nat,zY b.ai (i:Int)=some (c:Int)∧C6 b i c:=by
 have h:=dO (step:=DS b.ai (i:Int)) (s:=(0:Int)) b.ai.length (fun k s=>s=(k:Int)∧∀d,d<k→(gt b.ai d).bm≠(i:Int)) (Q:=fun r=>r= .inl ()∨∃c:Nat,r= .inr (c:Int)∧C6 b i c) ⟨rfl,fun d hd=>by omega⟩ (fun k s hk hi=>by
  obtain⟨rfl,hi⟩:=hi
  unfold DS Ky
  simp only[aQ hk,if_true,az hk,aqF]
  refine Wp.ite (fun hh=>al.2 (.inr ⟨k,rfl,⟨hk,by simpa using hh⟩,hi⟩)) fun hh=>al.2 ⟨by rw[aU (cM hb hk)],fun d hd=> ?_⟩
  by_cases MU:d=k
  · rw[MU];simpa using hh
  · exact hi d (by omega)) (fun s hi=>by
  obtain⟨rfl,hi⟩:=hi
  unfold DS
  simp only[bl,aqG,if_false]
  exact al.2 (.inl rfl)) (by have:=hb;unfold Sm at this;omega)
 obtain⟨r,h1,h2⟩:=h
 unfold zY
 rw[h1]
 rcases h2 with rfl|⟨c,rfl,hc⟩
 · exact .inl rfl
 · exact .inr ⟨c,rfl,hc⟩
theorem abc(hb:bP b)(v:en b p){x:gu}(hx:v7 x):Wp (EU x b p) fun r=>r.1=0∧r.2.length=x.bN.length∧∀i,i<x.bN.length→pf b p x r.2 i:=by
 obtain⟨⟨hl,hg⟩,⟨s1,s2,s3⟩,_,_,g3⟩:=bM.1 v.2
 have h8:=hx.2.1
 unfold EU
 rw[N8 hx,mH hb v.1,v.2,show len x.bN=((x.bN.length:Nat):Int) from rfl,ur (by omega)]
 simp only[aqF,bne_self_eq_false,aqG,if_false]
 refine Wp.bind (Q:=fun A=>A.length=x.bN.length∧∀i,i<x.bN.length→pf b p x A i) ?_ fun A hA=>al.2 ⟨rfl,hA⟩
 refine dO x.bN.length (fun k s=>∃A,s=((k:Int),A)∧A.length=x.bN.length∧(∀i,k≤i→i<A.length→gt A i=0)∧∀i,i<x.bN.length→pf b p x A i) ⟨_,rfl,by simp,fun i _ hi=>sO (by simpa using hi),fun i hi=> ?_⟩ ?_ ?_
 · have e:gt (aqS x.bN.length (0:Int)) i=0:=sO hi
   unfold pf
   rw[e]
   exact⟨⟨by decide,by decide⟩,.inl rfl⟩
 · rintro k s hk ⟨A,rfl,e1,e2,e3⟩
   have FY:k<A.length:=by omega
   unfold Kx
   simp only[aQ hk,if_true,az hk,aqF]
   have fin:∀A:List Int,(A.length=x.bN.length∧(∀i,k+1≤i→i<A.length→gt A i=0)∧∀i,i<x.bN.length→pf b p x A i)→∃A',(W ((k:Int)+1),A)=(((k+1:Nat):Int),A')∧A'.length=x.bN.length∧(∀i,k+1≤i→i<A'.length→gt A' i=0)∧∀i,i<x.bN.length→pf b p x A' i:=fun A hA=>⟨A,by rw[aU (by omega)],hA⟩
   have pK:A.length=x.bN.length∧(∀i,k+1≤i→i<A.length→gt A i=0)∧∀i,i<x.bN.length→pf b p x A i:=⟨e1,fun i hi hl=>e2 i (by omega) hl,e3⟩
   rcases agu hb.2.2.1 k with e|⟨c,e,hc⟩
   · rw[e]
     exact al.2 (fin A pK)
   · rw[e]
     have iW:=hc.1.1
     simp only[aqF,dT (show(c:Int)≥0 by omega),if_true,Rn hb v.1 v.2 (c:=(c:Int)) (by omega)]
     refine Wp.bind (Q:=fun A=>A.length=x.bN.length∧(∀i,k+1≤i→i<A.length→gt A i=0)∧∀i,i<x.bN.length→pf b p x A i) ?_ fun A hA=>al.2 (fin A hA)
     refine Wp.ite (fun hs=> ?_) fun _=>al.2 pK
     have Bz:=(g3 c (by omega)).1
     have fm:=(hg.2.2.2.2 c iW).2.1
     rw[az (show c<p.aE.length by omega)]
     refine(aaV (hx.2.2 k hk) Bz.1 (by omega)).bind fun r hr=> ?_
     simp only[az FY,fg FY,aqF]
     refine al.2 ⟨by simpa using e1,fun i hi hl=> ?_,fun i hi=> ?_⟩
     · rw[dz FY,if_neg (by omega)]
       exact e2 i (by omega) (by simpa using hl)
     · unfold pf
       rw[dz FY]
       by_cases c_:i=k
       · rw[if_pos c_,c_]
         have:=hr.1
         have hm:=(hx.2.2 k hk).1.1.2.2.1
         exact⟨⟨by omega,by omega⟩,.inr ⟨c,hc,hs,hr⟩⟩
       · rw[if_neg c_]
         exact e3 i hi
 · rintro s ⟨A,rfl,e1,e2,e3⟩
   unfold Kx
   simp only[bl,aqG,if_false]
   exact al.2 ⟨e1,e3⟩
end
end Rx
end Go.Proofs.YtncbfgppjfcijaaGreat
