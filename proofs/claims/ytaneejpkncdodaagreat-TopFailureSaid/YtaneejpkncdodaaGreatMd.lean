import Derived.Test.YtaneejpkncdodaaGreatMc
import Derived.KernelRfl
set_option linter.unusedVariables false
set_option linter.unusedSimpArgs false
noncomputable section
namespace Go.Proofs.YtaneejpkncdodaaGreat
open Go Go.RowKit Dp
namespace Rx
open Classical
section
variable {b:ak} {p:ah}
theorem YA{l:List Int}{a:Int}(hs:Sr l a)(hb:m9 b):Wp (HF ⟨l,a⟩ b) fun r=>∃l a q,r=(l,a,b.ab,b.aa,b.ae,q.al,q.aa,q.ar,q.ax)∧Sr l a∧bf q∧aH b q=0∧cE b q=q.aa:=by
 unfold HF
 refine(Yr hs hb).bind fun r hr=> ?_
 obtain⟨l,a,cl,run,fO,b_,rfl,hs,hp⟩:=hr
 have mK:=hp.sm hb
 have h0:=hp.aH hb
 have hf:=aa7 hb.sm mK h0
 obtain⟨nb,br,S,C,ph,fr⟩:=b
 simp only at hf⊢
 rw[hf]
 simp only[Option.bind_some]
 exact ay.2 ⟨_,_,mR ⟨nb,br,S,C,ph,fr⟩ ⟨cl,run,fO,b_⟩,rfl,hs,IF mK,Ix h0,TQ h0⟩
theorem yA(hp:bf p)(k n:Int):jl p k n=some (decide ((⟨k,n⟩:Part)∈p.ax)):=by
 have de:=hp.2.2.2
 have h:=km (step:=nV p.ax ⟨k,n⟩) (fun i=>(i:Int)) p.ax.length (fun i=>(k==(gt p.ax i).Kind&&n==(gt p.ax i).Number)) (R:=fun i=> .inr (i:Int)) (e:= .inl ())
  (fun i hi hq=>by simp only[nV,aU hi,if_true,aD hi,Option.bind_some,hq,Bool.false_eq_true,if_false,aX (cN de hi)])
  (fun i hi hq=>by simp only[nV,aU hi,if_true,aD hi,Option.bind_some,hq])
  (by simp only[nV,bA,Bool.false_eq_true,if_false])
 have h':aC (nV p.ax ⟨k,n⟩) 0=_:=h
 have hz:∀i,(k==(gt p.ax i).Kind&&n==(gt p.ax i).Number)=true↔(⟨k,n⟩:Part)=gt p.ax i:=fun i=>Ju ⟨k,n⟩ (gt p.ax i)
 unfold jl DC Du
 rw[h']
 cases hf:(List.range p.ax.length).find? (fun i=>(k==(gt p.ax i).Kind&&n==(gt p.ax i).Number)) with
 |none=>
  have:¬(⟨k,n⟩:Part)∈p.ax:=fun hm=>by
   obtain⟨i,hi,e⟩:=jO hm
   have:=List.find?_eq_none.1 hf i (List.mem_range.2 hi)
   exact this ((hz i).2 e.symm)
  rw[dF this]
  rfl
 |some i=>
  have hi:=List.mem_range.1 (List.mem_of_find?_eq_some hf)
  have hq:=(hz i).1 (List.find?_some (p:=fun i=>(k==(gt p.ax i).Kind&&n==(gt p.ax i).Number)) hf)
  have:(⟨k,n⟩:Part)∈p.ax:=by rw[hq];exact cr hi
  rw[dT this]
  simp
theorem Yo(hb:bL b)(hp:bf p)(h:aH b p=0){i:Nat}(hi:i<b.ab.length):Wp (C_ b p (i:Int)) fun r=>r=true→gt p.al i=false∧¬(⟨2,(i:Int)⟩:Part)∈p.ax∧((gt b.ab i).Kind≠1→(gt b.ab i).Kind≠2→(cB b p 3 (gt b.ab i).B).2=false):=by
 obtain⟨⟨hl,hg⟩,⟨s1,s2,s3⟩,_⟩:=bG.1 h
 have dz:=(hg.1.1 i hi).2
 have afB:∀j,iS b p j=cB b p 3 j:=fun j=>by unfold iS;rw[if_pos h]
 unfold C_
 simp only[aD hi,aD (show i<p.al.length by omega),Option.bind_some,Option.bind_fun_some,yA hp,T6 hb hp,afB]
 cases hc:gt p.al i with
 |true=>simp only[if_true,Option.bind_some];exact ay.2 (fun h=>by cases h)
 |false=>
  simp only[Bool.false_eq_true,if_false,Option.bind_some]
  by_cases h2:(⟨2,(i:Int)⟩:Part)∈p.ax
  · simp only[dT h2,if_true,Option.bind_some];exact ay.2 (fun h=>by cases h)
  simp only[dF h2,Bool.false_eq_true,if_false,Option.bind_some]
  refine Wp.ite (fun _=>ay.2 (fun h=>by cases h)) fun _=> ?_
  refine Wp.ite (fun k1=>ay.2 fun _=>⟨by trivial,h2,fun n1=>absurd (by simpa using k1) n1⟩) fun k1=> ?_
  have k1:(gt b.ab i).Kind≠1:=by simpa using k1
  refine Wp.ite (fun k2=> ?_) fun k2=> ?_
  · have k2:(gt b.ab i).Kind=2:=by simpa using k2
    have hB:0≤(gt b.ab i).B∧(gt b.ab i).B≤(b.aa.length:Int)-1:=by
     rcases dz with h|h|h
     · exact absurd h.1 k1
     · exact h.2.1
     · have:=h.1;omega
    rw[eU hB.1 (by omega)]
    refine Wp.ite (fun _=>ay.2 fun _=>⟨by trivial,h2,fun _ n2=>absurd k2 n2⟩) fun _=>ay.2 (fun h=>by cases h)
  · refine Wp.ite (fun _=>ay.2 fun hr=>⟨by trivial,h2,fun _ _=>by simpa using hr⟩) fun _=>ay.2 (fun h=>by cases h)
theorem Yj(hb:bL b)(hp:bf p)(h:aH b p=0){i:Nat}(hi:i<b.ab.length):Wp (C9 b p (gt b.ab i)) fun r=>(gt b.ab i).Kind=3→r=true:=by
 obtain⟨⟨hl,hg⟩,⟨s1,s2,s3⟩,g1,g2,g3⟩:=bG.1 h
 have dz:=(hg.1.1 i hi).2
 have lU:∀k,(lead b p k).2=true→∃j:Nat,(lead b p k).1=(j:Int)∧j<p.aa.length:=fun k hk=>by
  unfold lead at hk⊢
  by_cases h1:(bM b p k).1.aa=[]
  · rw[if_pos h1] at hk;cases hk
  · rw[if_neg h1]
    unfold bM at h1⊢
    by_cases h2:aH b p=0∧0≤k∧k<b.ai
    · rw[if_pos h2] at h1⊢
      obtain⟨j,e,hj,_⟩:=nr (ud (p:=p) hg.1 h2.2.1 h2.2.2).1 (cr (List.length_pos_iff.2 h1))
      exact⟨j,e,by omega⟩
    · rw[if_neg h2] at h1;exact(h1 rfl).elim
 unfold C9
 simp only[J4 hb hp,Option.bind_some,Option.bind_fun_some]
 refine Wp.ite (fun _=>ay.2 fun _=>rfl) fun hv=> ?_
 obtain⟨j,e1,hj⟩:=lU (gt b.ab i).A (by simpa using hv)
 refine Wp.ite (fun k1=> ?_) fun k1=> ?_
 · have k1:(gt b.ab i).Kind=1:=by simpa using k1
   refine Wp.ite (fun _=>ay.2 fun _=>rfl) fun iM=> ?_
   obtain⟨j2,e2,Fw⟩:=lU (gt b.ab i).B (by simpa using iM)
   rw[e1,e2,aD hj,aD Fw]
   simp only[Option.bind_some,XD (sV.of (g2 j hj)) (sV.of (g2 j2 Fw))]
   exact ay.2 fun k3=>by omega
 · refine Wp.ite (fun k2=> ?_) fun _=>ay.2 fun _=>rfl
   have k1:(gt b.ab i).Kind≠1:=by simpa using k1
   have k2:(gt b.ab i).Kind=2:=by simpa using k2
   have hB:0≤(gt b.ab i).B∧(gt b.ab i).B≤(b.aa.length:Int)-1:=by
    rcases dz with h|h|h
    · exact absurd h.1 k1
    · exact h.2.1
    · have:=h.1;omega
   rw[e1,aD hj,eU hB.1 (show(gt b.ab i).B<(p.aa.length:Int) by omega)]
   simp only[Option.bind_some,XD (sV.of (g2 j hj)) (sV.of (g2 _ (show(gt b.ab i).B.toNat<p.aa.length by omega)))]
   exact ay.2 fun k3=>by omega
theorem Yw(hb:bL b)(hp:bf p)(h:aH b p=0){i:Nat}(hi:i<b.ab.length):Wp (vU b p (i:Int)) fun m=>((gt b.ab i).Kind=3→m≠12)∧(m=0→gt p.al i=false∧¬(⟨2,(i:Int)⟩:Part)∈p.ax∧((gt b.ab i).Kind≠1→(gt b.ab i).Kind≠2→(cB b p 3 (gt b.ab i).B).2=false)):=by
 obtain⟨⟨hl,hg⟩,⟨s1,s2,s3⟩,g1,g2,g3⟩:=bG.1 h
 unfold vU
 have e:(aH b p !=0)=false:=by rw[h];rfl
 simp only[kR hb hp,Option.bind_some,e,Bool.false_eq_true,if_false,dF (c:=(i:Int)<0) (by omega),dF (c:=(i:Int)≥len b.ab) (by unfold len;omega)]
 refine(Yo hb hp h hi).bind fun r hr=> ?_
 refine Wp.ite (fun _=>ay.2 ⟨fun _=>by decide,fun h=>by cases h⟩) fun hv=> ?_
 have KK:=hr (by simpa using hv)
 simp only[aD hi,Option.bind_some,of_eq hb hp,Option.bind_fun_some]
 refine Wp.bind (Q:=fun _=>True) ?_ fun w _=> ?_
 · refine Wp.ite (fun _=> ?_) fun _=>ay.2 trivial
   have de:Sm (i_ b p (gt b.ab i).A).1:=by
    show Sm (bM b p (gt b.ab i).A).1.ai
    unfold bM
    split
    · have:=(pw (b:=b) (p:=p) (gt (bl b p) (gt b.ab i).A.toNat).toNat).1
      have h4:(aT b p (gt b.ab i).A).ai.length≤b.ai.toNat:=this
      have:=hl.ew
      unfold Sm;simp only;omega
    · unfold Sm;simp
   rw[contains_eq de]
   exact ay.2 trivial
 · refine Wp.bind (Q:=fun r=>(gt b.ab i).Kind=3→r=false) ?_ fun u hu=> ?_
   · refine Wp.ite (fun _=> ?_) fun _=>ay.2 fun _=>rfl
     refine(Yj hb hp h hi).bind fun y hy=>ay.2 fun k3=>by rw[hy k3];rfl
   · refine Wp.ite (fun hv=>ay.2 ⟨fun k3=>(by rw[hu k3] at hv;exact absurd hv (by decide)),fun h=>(by cases h)⟩) fun _=>ay.2 ⟨fun _=>by decide,fun _=>KK⟩
def sK(p:ah)(i:Nat):ah:=⟨p.al.set i true,p.aa,p.ar,p.ax⟩
theorem UC{i:Nat}(hi:i<p.al.length)(hc:gt p.al i=false)(j:Int):∀n,cK b (sK p i) j n=cK b p j n+if i<n∧(gt b.ab i).Kind=3∧(gt b.ab i).B=j then 1 else 0
 |0=>by rw[if_neg (by omega)];rfl
 |n+1=>by
  show cK b (sK p i) j n+(if(gt b.ab n).Kind=3∧(gt b.ab n).B=j∧gt (p.al.set i true) n=true then 1 else 0)=cK b p j n+(if(gt b.ab n).Kind=3∧(gt b.ab n).B=j∧gt p.al n=true then 1 else 0)+_
  rw[UC hi hc j n,dI hi]
  by_cases hn:n=i
  · subst hn
    rw[if_pos rfl,hc]
    by_cases hk:(gt b.ab n).Kind=3∧(gt b.ab n).B=j
    · simp[hk.1,hk.2]
    · have a1:¬((gt b.ab n).Kind=3∧(gt b.ab n).B=j∧true=true):=fun h=>hk ⟨h.1,h.2.1⟩
      have a2:¬((gt b.ab n).Kind=3∧(gt b.ab n).B=j∧false=true):=fun h=>hk ⟨h.1,h.2.1⟩
      have a3:∀m,¬(n<m∧(gt b.ab n).Kind=3∧(gt b.ab n).B=j):=fun m h=>hk h.2
      rw[if_neg a1,if_neg a2,if_neg (a3 _),if_neg (a3 _)]
  · rw[if_neg hn]
    by_cases fS:i<n
    · by_cases hk:(gt b.ab i).Kind=3∧(gt b.ab i).B=j
      · have a1:i<n∧(gt b.ab i).Kind=3∧(gt b.ab i).B=j:=⟨fS,hk⟩
        have a2:i<n+1∧(gt b.ab i).Kind=3∧(gt b.ab i).B=j:=⟨by omega,hk⟩
        rw[if_pos a1,if_pos a2];omega
      · have a3:∀m,¬(i<m∧(gt b.ab i).Kind=3∧(gt b.ab i).B=j):=fun m h=>hk h.2
        rw[if_neg (a3 n),if_neg (a3 (n+1))]
        omega
    · have a1:¬(i<n∧(gt b.ab i).Kind=3∧(gt b.ab i).B=j):=fun h=>fS h.1
      have a2:¬(i<n+1∧(gt b.ab i).Kind=3∧(gt b.ab i).B=j):=fun h=>by have:=h.1;omega
      rw[if_neg a1,if_neg a2]
      omega
theorem UA{j:Int}(h:(cB b p 3 j).2=false):∀n,n≤b.ab.length→cK b p j n=0
 |0,_=>rfl
 |n+1,hn=>by
  show cK b p j n+_=0
  rw[UA h n (by omega),if_neg]
  rintro⟨h1,h2,h3⟩
  unfold cB at h
  cases hf:(List.range b.ab.length).find? (gb b p 3 j) with
  |some k=>rw[hf] at h;cases h
  |none=>
   have:=List.find?_eq_none.1 hf n (List.mem_range.2 (by omega))
   unfold gb at this
   simp[h1,h2,h3] at this
theorem Z'(h:aH b p=0){i:Nat}(hi:i<b.ab.length)(hc:gt p.al i=false)(qM:(gt b.ab i).Kind≠1→(gt b.ab i).Kind≠2→(cB b p 3 (gt b.ab i).B).2=false):aH b (sK p i)=0:=by
 obtain⟨h1,⟨s1,s2,s3⟩,g1,g2,g3⟩:=bG.1 h
 refine bG.2 ⟨h1,⟨by show(p.al.set i true).length=_;rw[List.length_set];exact s1,s2,s3⟩,g1,g2,fun k hk=> ?_⟩
 obtain⟨f1,f2⟩:=g3 k hk
 refine⟨f1, ?_⟩
 rw[UC (by omega) hc]
 by_cases Lh:(gt b.ab i).Kind=3∧(gt b.ab i).B=(k:Int)
 · have:=UA (b:=b) (p:=p) (by have:=qM (by omega) (by omega);rw[Lh.2] at this;exact this) b.ab.length (Nat.le_refl _)
   rw[this,if_pos ⟨hi,Lh⟩]
   exact Nat.le_refl _
 · rw[if_neg (fun h=>Lh h.2)]
   exact f2
theorem aij(hb:bL b)(hp:bf p)(h:aH b p=0){i:Nat}(hi:i<b.ab.length)(hm:vU b p (i:Int)=some 0)(hc:aH b (sK p i)=0):tE b p (i:Int)=some (0,p.al.set i true,cE b (sK p i),p.ar,p.ax):=by
 obtain⟨_,⟨s1,s2,s3⟩,_⟩:=bG.1 h
 have xE:i<p.al.length:=by omega
 have fu:bf (sK p i):=⟨by show Sm (p.al.set i true);have:=hp.1;unfold Sm at*;rw[List.length_set];exact this,hp.2.1,hp.2.2.1,hp.2.2.2⟩
 have hf:rm b ⟨p.al.set i true,p.aa,p.ar,p.ax⟩=some (0,p.al.set i true,cE b (sK p i),p.ar,p.ax):=follow_eq hb fu hc
 unfold tE
 simp only[hm,Option.bind_some,bne_self_eq_false,Bool.false_eq_true,if_false,nK hp,aD xE,fM xE,hf]
theorem aik{i m:Int}(hm:vU b p i=some m)(h:m≠0):tE b p i=some (m,[],[],[],[]):=by
 unfold tE
 simp only[hm,Option.bind_some,Cr h,if_true]
theorem ada(h:aH b p=0){k:Int}(hk:(lead b p k).2=true):∃j:Nat,(lead b p k).1=(j:Int)∧j<p.aa.length:=by
 obtain⟨⟨hl,hg⟩,⟨s1,s2,s3⟩,g1,g2,g3⟩:=bG.1 h
 unfold lead at hk⊢
 by_cases h1:(bM b p k).1.aa=[]
 · rw[if_pos h1] at hk;cases hk
 · rw[if_neg h1]
   unfold bM at h1⊢
   by_cases h2:aH b p=0∧0≤k∧k<b.ai
   · rw[if_pos h2] at h1⊢
     obtain⟨j,e,hj,_⟩:=nr (ud (p:=p) hg.1 h2.2.1 h2.2.2).1 (cr (List.length_pos_iff.2 h1))
     exact⟨j,e,by omega⟩
   · rw[if_neg h2] at h1;exact(h1 rfl).elim
def qz(b:ak)(p:ah)(s:Nat):List Int:=if(conn b p (s:Int)).2=true then(aT b p (conn b p (s:Int)).1).aa else [(s:Int)]
def EJ(b:ak)(p:ah)(s:Nat)(m:Nat):ah:=⟨p.al,gp p.aa (gt p.aa m) (qz b p s),p.ar,p.ax⟩
theorem JI(h:aH b p=0){s:Nat}(hs:s<p.aa.length):(∀k∈qz b p s,0≤k∧k<p.aa.length)∧Sm (qz b p s):=by
 obtain⟨⟨hl,hg⟩,⟨s1,s2,s3⟩,_⟩:=bG.1 h
 unfold qz
 by_cases hc:(conn b p (s:Int)).2=true
 · rw[if_pos hc]
   constructor
   · intro k hk
     obtain⟨j,e,hj,_⟩:=nr (Dl hg.1 (show s<b.aa.length by omega) hc).1 hk
     omega
   · have h4:(aT b p (conn b p (s:Int)).1).aa.length≤b.aa.length:=(pw (b:=b) (p:=p) (gt (bl b p) (conn b p (s:Int)).1.toNat).toNat).2.1
     have:=hl.src
     unfold Sm;omega
 · rw[if_neg hc]
   exact⟨fun k hk=>by rw[List.mem_singleton.1 hk];omega,by unfold Sm;simp⟩
theorem acr(h:aH b p=0){s m:Nat}(hs:s<p.aa.length)(x:Nat):gt (EJ b p s m).aa x=if(x:Int)∈qz b p s then oj (gt p.aa x) (gt p.aa m) else gt p.aa x:=DS _ _ _ x (JI h hs).1
theorem JK{s m:Nat}:(EJ b p s m).aa.length=p.aa.length:=wx _ _ _
theorem Z_(h:aH b p=0){s m:Nat}(hs:s<p.aa.length)(hm:m<p.aa.length):aH b (EJ b p s m)=0:=by
 obtain⟨_,_,_,g2,_⟩:=bG.1 h
 refine De h rfl JK rfl rfl fun k hk=> ?_
 rw[JK] at hk
 rw[acr h hs]
 split
 · exact PV (g2 k hk) (g2 m hm)
 · exact g2 k hk
theorem aat{s m:Nat}(hp:bf p):bf (EJ b p s m):=⟨hp.1,by have:=hp.2.1;unfold Sm at*;rw[JK];exact this,hp.2.2.1,hp.2.2.2⟩
theorem Pw{i:Nat}{v:Bool}(hp:bf p):bf ⟨p.al.set i v,p.aa,p.ar,p.ax⟩:=⟨by have:=hp.1;unfold Sm at*;show(p.al.set i v).length≤_;rw[List.length_set];exact this,hp.2.1,hp.2.2.1,hp.2.2.2⟩
end
end Rx
namespace Rx
open Classical
section
variable {b:ak} {p:ah}
theorem Xj(hb:bj b){j:Nat}(hj:j<b.aa.length):∃k,k<b.ab.length∧ft (gt b.ab k) j∧∀i,i<b.ab.length→ft (gt b.ab i) j→i=k:=by
 have h:=(wN.1 hb).2.1 j hj
 obtain⟨⟨k,hk,hp⟩,hu⟩:=Al.1 h
 refine⟨k,hk,sE.1 hp,fun i hi hs=> ?_⟩
 have nv:=sE.2 hs
 rcases Nat.lt_trichotomy i k with h1|h1|h1
 · exact(hu i k h1 hk nv hp).elim
 · exact h1
 · exact(hu k i h1 hi hp nv).elim
def bk(b:ak)(j:Nat):Nat:=if h:∃k,k<b.ab.length∧ft (gt b.ab k) j∧∀i,i<b.ab.length→ft (gt b.ab i) j→i=k then h.choose else 0
theorem Cs(hb:bj b){j:Nat}(hj:j<b.aa.length):bk b j<b.ab.length∧ft (gt b.ab (bk b j)) j∧∀i,i<b.ab.length→ft (gt b.ab i) j→i=bk b j:=by
 unfold bk
 rw[dif_pos (Xj hb hj)]
 exact(Xj hb hj).choose_spec
theorem T2{n k:Nat}{q:Nat→Bool}(hk:k<n)(hq:q k=true)(hu:∀i,i<n→q i=true→i=k):(List.range n).find? q=some k:=by
 cases hf:(List.range n).find? q with
 |none=>
  have:=List.find?_eq_none.1 hf k (List.mem_range.2 hk)
  exact(this hq).elim
 |some i=>
  have h1:=List.mem_range.1 (List.mem_of_find?_eq_some hf)
  have h2:q i=true:=List.find?_some (p:=q) hf
  rw[hu i h1 h2]
theorem ak8(hs:Sm b.ab)(hb:bj b){j:Nat}(hj:j<b.aa.length):D8 b (j:Int)=some (bk b j:Int):=by
 obtain⟨h1,h2,h3⟩:=Cs hb hj
 have h:=km (step:=wb b.ab (j:Int)) (fun i=>(i:Int)) b.ab.length (fun i=>decide (ft (gt b.ab i) j)) (R:=fun i=> .inr (i:Int)) (e:= .inl ())
  (fun i hi hq=>by
    have hq:¬ft (gt b.ab i) j:=by simpa using hq
    have e:wI (gt b.ab i) (j:Int)=some false:=by
     unfold wI
     unfold ft at hq
     by_cases hk:(gt b.ab i).Kind=2
     · have hB:¬(gt b.ab i).B=(j:Int):=fun h=>hq ⟨hk,h⟩
       simp[hk,hB]
     · simp[hk]
    simp only[wb,aU hi,if_true,aD hi,Option.bind_some,e,Bool.false_eq_true,if_false,aX (cN hs hi)])
  (fun i hi hq=>by
    have hq:ft (gt b.ab i) j:=by simpa using hq
    have e:wI (gt b.ab i) (j:Int)=some true:=by
     unfold wI
     simp[hq.1,hq.2]
    simp only[wb,aU hi,if_true,aD hi,Option.bind_some,e])
  (by simp only[wb,bA,Bool.false_eq_true,if_false])
 rw[T2 h1 (by simpa using h2) fun i hi hq=>h3 i hi (by simpa using hq)] at h
 have h':aC (wb b.ab (j:Int)) 0=_:=h
 unfold D8 IT
 rw[h']
 rfl
def eO(b:ak)(q:ah):Prop:=bf q∧aH b q=0
theorem O8(v:eO b p){S:List az}(hl:S.length=p.aa.length)(hr:∀k,k<S.length→dq (gt S k)):eO b ⟨p.al,S,p.ar,p.ax⟩:=
 ⟨⟨v.1.1,by have:=v.1.2.1;unfold Sm at*;simp only;omega,v.1.2.2.1,v.1.2.2.2⟩,De v.2 rfl hl rfl rfl hr⟩
theorem C4(v:eO b p){j:Nat}(hj:j<p.aa.length){x:az}(hx:dq x):eO b ⟨p.al,p.aa.set j x,p.ar,p.ax⟩:=by
 refine O8 v (by simp) fun k hk=> ?_
 rw[dI hj]
 split
 · exact hx
 · exact(bG.1 v.2).2.2.2.1 k (by simpa using hk)
theorem YJ(v:eO b p){j:Nat}(hj:j<p.aa.length):dq (gt p.aa j):=(bG.1 v.2).2.2.2.1 j hj
theorem YK(v:eO b p){j:Nat}(hj:j<p.ar.length){n:Int}(h0:0≤n)(h1:n≤(gt b.ae j).cX):eO b ⟨p.al,p.aa,p.ar.set j n,p.ax⟩:=by
 obtain⟨hp,h⟩:=v
 obtain⟨h2,⟨s1,s2,s3⟩,g1,g2,g3⟩:=bG.1 h
 refine⟨⟨hp.1,hp.2.1,by have:=hp.2.2.1;unfold Sm at*;simpa using this,hp.2.2.2⟩,bG.2 ⟨h2,⟨s1,s2,by simpa using s3⟩,g1,g2,fun k hk=> ?_⟩⟩
 obtain⟨f1,f2⟩:=g3 k (by simpa using hk)
 refine⟨?_, ?_⟩
 · show 0≤gt (p.ar.set j n) k∧gt (p.ar.set j n) k≤_
   rw[dI hj]
   by_cases e:k=j
   · rw[if_pos e,e];exact⟨h0,h1⟩
   · rw[if_neg e];exact f1
 · have e:cK b ⟨p.al,p.aa,p.ar.set j n,p.ax⟩ (k:Int) b.ab.length=cK b p (k:Int) b.ab.length:=yj fun i _ _ _=>rfl
   rw[e]
   exact f2
def Oc(b:ak)(r:Int×List Bool×List az×List Int×List Part):Prop:=r.1=0→eO b ⟨r.2.1,r.2.2.1,r.2.2.2.1,r.2.2.2.2⟩
theorem YD(hb:bL b)(v:eO b p){i:Nat}(hi:i<b.ab.length):Wp (tE b p (i:Int)) (Oc b):=by
 obtain⟨hp,h⟩:=v
 obtain⟨m,hm,_,h2⟩:=Yw hb hp h hi
 by_cases h0:m=0
 · subst h0
   obtain⟨c1,_,c3⟩:=h2 rfl
   have hc:=Z' h hi c1 c3
   rw[aij hb hp h hi hm hc]
   exact ay.2 fun _=>⟨IF (p:=sK p i) (Pw hp),Ix hc⟩
 · rw[aik hm h0]
   exact ay.2 fun e=>(h0 e).elim
theorem Yt(hb:bL b)(v:eO b p){i:Nat}(hi:i<b.ab.length):Wp (Db b p (i:Int)) (Oc b):=by
 obtain⟨hp,h⟩:=v
 obtain⟨_,⟨s1,s2,s3⟩,_⟩:=bG.1 h
 have xE:i<p.al.length:=by omega
 unfold Db
 have e:(aH b p !=0)=false:=by rw[h];rfl
 simp only[kR hb hp,Option.bind_some,e,Bool.false_eq_true,if_false,dF (c:=(i:Int)<0) (by omega),dF (c:=(i:Int)≥len b.ab) (by unfold len;omega),aD xE,yA hp,Option.bind_fun_some,nK hp,fM xE]
 refine Wp.bind (Q:=fun _=>True) ?_ fun c _=> ?_
 · refine Wp.ite (fun _=>ay.2 trivial) fun _=>ay.2 trivial
 · refine Wp.ite (fun _=>ay.2 fun e=>by cases e) fun _=>ay.2 fun _=>⟨Pw hp, ?_⟩
   refine Dg h (by simp) rfl rfl rfl fun k hk=> ?_
   have hk:gt (p.al.set i false) k=true:=hk
   rw[dI xE] at hk
   split at hk
   · cases hk
   · exact hk
theorem Yx(hb:bL b)(v:eO b p){j:Nat}(hj:j<b.aa.length){k:Int}(k0:0≤k)(k1:k<b.ai):Wp (Dc b p (j:Int) k) (Oc b):=by
 obtain⟨hp,h⟩:=v
 obtain⟨⟨hl,hg⟩,⟨s1,s2,s3⟩,g1,g2,g3⟩:=bG.1 h
 have eo:j<p.aa.length:=by omega
 unfold Dc
 have e:(aH b p !=0)=false:=by rw[h];rfl
 simp only[kR hb hp,Option.bind_some,e,Bool.false_eq_true,if_false,dF (c:=(j:Int)<0) (by omega),dF (c:=(j:Int)≥len b.aa) (by unfold len;omega),dF (c:=k<0) (by omega),dF (c:=k≥b.ai) (by omega),J4 hb hp,aD eo]
 have qT:qZ b p (j:Int)=conn b p (j:Int):=by unfold qZ;rw[if_pos h]
 have gi:(if(conn b p (j:Int)).2=true then Option.bind (mh b p (conn b p (j:Int)).1) fun x8=>some x8.2.1 else some [(j:Int)])=some (qz b p j):=by
  unfold qz
  by_cases hc:(conn b p (j:Int)).2=true
  · have c:=Gy hg.1 hc
    rw[if_pos hc,if_pos hc,of_eq hb hp]
    simp only[Option.bind_some]
    show some (bM b p (conn b p (j:Int)).1).1.aa=_
    rw[rH h c.1 c.2]
  · rw[if_neg hc,if_neg hc]
 cases hv:(lead b p k).2 with
 |false=>
  simp only[Bool.not_false,if_true,Option.bind_some]
  exact ay.2 fun e=>by cases e
 |true=>
  obtain⟨m,em,hm⟩:=ada h hv
  have pA:vS ⟨p.al,p.aa,p.ar,p.ax⟩ (qz b p j) (gt p.aa m)=some (gp p.aa (gt p.aa m) (qz b p j)):=PM (JI h eo).2 (JI h eo).1
  simp only[Bool.not_true,Bool.false_eq_true,if_false,Option.bind_some,nK hp,Uu hb hp,qT,gi,em,aD hm,pA]
  refine Wp.ite (fun _=>ay.2 fun e=>by cases e) fun _=>ay.2 fun _=>⟨aat hp,Z_ h eo hm⟩
abbrev WR:=Int×Int×List aI×List Source×List Consumer×Int×Int×Int×List Bool×List az×List Int×List Part
def fB(r:WR):ah:=⟨r.2.2.2.2.2.2.2.2.1,r.2.2.2.2.2.2.2.2.2.1,r.2.2.2.2.2.2.2.2.2.2.1,r.2.2.2.2.2.2.2.2.2.2.2⟩
def NV(b:ak)(r:WR):Prop:=r.1=0→eO b (fB r)
theorem Jy(hb:bL b)(hg:bj b){j:Nat}(hj:j<b.aa.length){q:ah}(hc:q.al.length=b.ab.length)(t:Int):tB ⟨b,q,t⟩ (j:Int)=some (!gt q.al (bk b j)):=by
 obtain⟨k1,_⟩:=Cs hg hj
 unfold tB
 simp only[ak8 hb.1 hg hj,Option.bind_some,aD (show bk b j<q.al.length by omega)]
theorem Yn(hb:bL b)(v:eO b p){t:Int}(t0:0≤t)(t1:t≤2147483648){j:Nat}(hj:j<b.aa.length):Wp (C0 ⟨b,p,t⟩ (j:Int)) (NV b):=by
 obtain⟨⟨hl,hg⟩,⟨s1,s2,s3⟩,g1,g2,g3⟩:=bG.1 v.2
 have eo:j<p.aa.length:=by omega
 unfold C0
 simp only[aD eo,aD hj,Option.bind_some,yA v.1,Jy hb hg.1 hj s1,fM eo]
 refine Wp.bind (Q:=fun _=>True) ?_ fun c _=> ?_
 · refine Wp.ite (fun _=>ay.2 trivial) fun _=>ay.2 trivial
 refine Wp.ite (fun _=>ay.2 fun e=>by cases e) fun _=> ?_
 refine Wp.bind (Q:=fun _=>True) ?_ fun c _=> ?_
 · refine Wp.ite (fun _=>ay.2 trivial) fun _=>ay.2 trivial
 refine Wp.bind (Q:=fun x=>dq ⟨x.1,x.2.1,x.2.2.1,x.2.2.2⟩) ?_ fun x hx=> ?_
 · refine Wp.ite (fun _=>ay.2 ?_) fun _=>ay.2 ?_
   · unfold dq;simp only;omega
   · unfold dq;simp only;omega
 · exact ay.2 fun _=>C4 v eo hx
theorem Yk(hb:bL b)(v:eO b p){t:Int}{j:Nat}(hj:j<b.aa.length):Wp (CZ ⟨b,p,t⟩ (j:Int)) (NV b):=by
 obtain⟨⟨hl,hg⟩,⟨s1,s2,s3⟩,g1,g2,g3⟩:=bG.1 v.2
 have eo:j<p.aa.length:=by omega
 unfold CZ
 simp only[aD eo,Option.bind_some,Jy hb hg.1 hj s1,fM eo]
 refine Wp.bind (Q:=fun _=>True) ?_ fun c _=> ?_
 · refine Wp.ite (fun _=> ?_) fun _=>ay.2 trivial
   refine Wp.ite (fun _=>ay.2 trivial) fun _=>ay.2 trivial
 refine Wp.ite (fun _=>ay.2 fun e=>by cases e) fun _=>ay.2 fun _=>C4 v eo ?_
 have:=g2 j eo
 unfold dq at*
 simp only
 omega
theorem Yz(hb:bL b)(v:eO b p){t:Int}{j:Nat}(hj:j<b.ae.length)(n:Int):Wp (C1 ⟨b,p,t⟩ (j:Int) n) (NV b):=by
 obtain⟨⟨hl,hg⟩,⟨s1,s2,s3⟩,g1,g2,g3⟩:=bG.1 v.2
 have eo:j<p.ar.length:=by omega
 unfold C1
 simp only[aD eo,aD hj,Option.bind_some,fM eo]
 refine Wp.bind (Q:=fun c=>c=false→0≤n∧n≤(gt b.ae j).cX) ?_ fun c hc=> ?_
 · refine Wp.ite (fun _=>ay.2 fun e=>by cases e) fun h1=>ay.2 fun h2=> ?_
   have h1:=of_decide_eq_false h1
   have h2:=of_decide_eq_false h2
   omega
 refine Wp.ite (fun _=>ay.2 fun e=>by cases e) fun hf=>ay.2 fun _=> ?_
 obtain⟨a1,a2⟩:=hc hf
 exact YK v eo a1 a2
def CA(b:ak)(C:List Bool)(T S:List az)(j:Nat):Prop:=gt S j=gt T j∨((gt T j).State=1∧gt C (bk b j)=false∧gt S j={gt T j with State:=2})
theorem ac6(hg:bj b){j:Nat}(hj:j<b.aa.length){q:ah}(hc:gt q.al (bk b j)=false):cB b q 2 (j:Int)=(0,false):=by
 unfold cB
 rw[Mq fun i hi=> ?_]
 unfold gb
 cases h:((gt b.ab i).Kind==2&&(gt b.ab i).B==(j:Int)) with
 |false=>rfl
 |true=>
  simp only[Bool.and_eq_true,beq_iff_eq] at h
  rw[(Cs hg hj).2.2 i hi h,hc]
  rfl
theorem ag'(h:aH b p=0)(hf:cE b p=p.aa){S:List az}(hl:S.length=p.aa.length)(hr:∀j,j<S.length→CA b p.al p.aa S j):cE b ⟨p.al,S,p.ar,p.ax⟩=S:=by
 obtain⟨⟨_,hg⟩,⟨s1,s2,s3⟩,_⟩:=bG.1 h
 have jg:∀j,conn b ⟨p.al,S,p.ar,p.ax⟩ j=conn b p j:=fun j=>by
  unfold conn
  simp only[hl]
  by_cases hj:0≤j∧j≤(p.aa.length:Int)-1
  · rw[if_pos hj,if_pos hj,Ro (p:=p) (q:=⟨p.al,S,p.ar,p.ax⟩) rfl]
    rcases hr j.toNat (by omega) with e|⟨e1,e2,e3⟩
    · rw[e]
    · have e4:cB b p 2 j=(0,false):=by
       obtain⟨i,rfl⟩:=Int.eq_ofNat_of_zero_le hj.1
       exact ac6 hg.1 (by omega) e2
      rw[e4,ite_self,ite_self]
  · rw[if_neg hj,if_neg hj]
 have hgr:bl b ⟨p.al,S,p.ar,p.ax⟩=bl b p:=BA rfl
 have lU:∀k,eJ b ⟨p.al,S,p.ar,p.ax⟩ k=eJ b p k:=fun k=>by
  unfold eJ aT cf eF
  simp only[jg,hgr]
 have S9:∀j,j<S.length→(gt S j).aB=(gt p.aa j).aB∧(gt S j).aG=(gt p.aa j).aG:=fun j hj=>by
  rcases hr j hj with e|⟨_,_,e⟩<;>rw[e]<;>exact⟨rfl,rfl⟩
 refine TM fun k hk hc=> ?_
 have hk:k<S.length:=hk
 rw[jg] at hc
 rw[lU]
 obtain⟨_,e2,_⟩:=EZ hg.1 (show k<b.aa.length by omega) hc
 obtain⟨f1,f2⟩:=TN hf (show k<p.aa.length by omega) hc
 obtain⟨a1,a2⟩:=S9 k hk
 obtain⟨c1,c2⟩:=S9 (eJ b p k) (by omega)
 show(gt S k).aB=(gt S (eJ b p k)).aB∧(gt S k).aG=(gt S (eJ b p k)).aG
 rw[a1,a2,c1,c2]
 exact⟨f1,f2⟩
theorem Yg(hb:bL b)(v:eO b p){t:Int}:Wp (CY ⟨b,p,t⟩) fun r=>eO b ⟨r.2.2.2.2.2.2.2.2.2.2.2.1,r.2.2.2.2.2.2.2.2.2.2.2.2.1,r.2.2.2.2.2.2.2.2.2.2.2.2.2.1,r.2.2.2.2.2.2.2.2.2.2.2.2.2.2⟩∧(cE b p=p.aa→cE b ⟨r.2.2.2.2.2.2.2.2.2.2.2.1,r.2.2.2.2.2.2.2.2.2.2.2.2.1,r.2.2.2.2.2.2.2.2.2.2.2.2.2.1,r.2.2.2.2.2.2.2.2.2.2.2.2.2.2⟩=r.2.2.2.2.2.2.2.2.2.2.2.2.1):=by
 have v2:eO b (o_ p):=⟨aar v.1,Z8 v.2⟩
 obtain⟨⟨hl,hg⟩,⟨s1,s2,s3⟩,g1,g2,g3⟩:=bG.1 v2.2
 have uk:p.al.length=b.ab.length:=s1
 have xu:(p.aa.map tick).length=b.aa.length:=s2
 have iN:=hl.src
 unfold CY
 simp only[Zt hb v.1 v.2,Option.bind_some]
 refine Wp.bind (Q:=fun S=>S.length=(p.aa.map tick).length∧∀j,j<S.length→CA b p.al (p.aa.map tick) S j) ?_ fun S hS=>ay.2 ⟨O8 v2 hS.1 fun k hk=> ?_,fun hf=>ag' v2.2 (ag9 v.2 hf) hS.1 hS.2⟩
 · refine hG (p.aa.map tick).length (fun k s=>∃S,s=((k:Int),S)∧S.length=(p.aa.map tick).length∧∀j,j<S.length→(k≤j→gt S j=gt (p.aa.map tick) j)∧CA b p.al (p.aa.map tick) S j) ⟨_,rfl,rfl,fun j hj=>⟨fun _=>rfl,.inl rfl⟩⟩ ?_ ?_
   · rintro k s hk ⟨S,rfl,h1,h2⟩
     unfold Ip
     simp only[aU hk,if_true,aD (show k<S.length by omega),Option.bind_some]
     rw[Jy hb hg.1 (show k<b.aa.length by omega) (q:=⟨p.al,S,p.ar,p.ax⟩) uk]
     simp only[aD (show k<b.aa.length by omega),fM (show k<S.length by omega),Option.bind_some]
     refine Wp.bind (Q:=fun c=>c=true→(gt S k).State=1∧gt p.al (bk b k)=false) ?_ fun c hc=> ?_
     · refine Wp.ite (fun a1=> ?_) fun _=>ay.2 fun e=>by cases e
       refine Wp.ite (fun a2=>ay.2 fun _=>⟨by simpa using a1,by simpa using a2⟩) fun _=>ay.2 fun e=>by cases e
     refine Wp.bind (Q:=fun S'=>S'.length=(p.aa.map tick).length∧∀j,j<S'.length→(k+1≤j→gt S' j=gt (p.aa.map tick) j)∧CA b p.al (p.aa.map tick) S' j) ?_ fun S' hS'=>ay.2 ⟨S',by rw[aX (by omega)],hS'⟩
     refine Wp.ite (fun hh=>ay.2 ⟨by simpa using h1,fun j hj=> ?_⟩) fun _=>ay.2 ⟨h1,fun j hj=>⟨fun hkj=>(h2 j hj).1 (by omega),(h2 j hj).2⟩⟩
     have hj:j<S.length:=by simpa using hj
     obtain⟨c1,c2⟩:=hc hh
     have ek:=(h2 k (by omega)).1 (Nat.le_refl _)
     unfold CA
     rw[dI (show k<S.length by omega)]
     by_cases lm:j=k
     · subst lm
       rw[if_pos rfl]
       refine⟨fun hh=>by omega,.inr ⟨by rw[←ek];exact c1,c2, ?_⟩⟩
       rw[←ek]
     · rw[if_neg lm]
       exact⟨fun hkj=>(h2 j hj).1 (by omega),(h2 j hj).2⟩
   · rintro s ⟨S,rfl,h1,h2⟩
     unfold Ip
     simp only[bA,Bool.false_eq_true,if_false]
     exact ay.2 ⟨h1,fun j hj=>(h2 j hj).2⟩
 · have hk:k<S.length:=hk
   have hr:=g2 k (by have:=hS.1;show k<(p.aa.map tick).length;omega)
   have hr:dq (gt (p.aa.map tick) k):=hr
   rcases hS.2 k hk with e|⟨_,_,e⟩
   · rw[e];exact hr
   · rw[e]
     unfold dq at*
     simp only
     omega
def mZ(b:ak)(x:Part):Prop:=0≤x.Number∧x.Number≤bsize b x.Kind-1
theorem Qy(hl:dL b){x:Part}(h:mZ b x):(1≤x.Kind∧x.Kind≤4)∧0≤x.Number∧x.Number≤24:=by
 have h1:=hl.src
 have h2:=hl.b_
 have h3:=hl.eN
 have h4:=hl.ew
 obtain⟨h5,h6⟩:=h
 unfold bsize at h6
 repeat' split at h6
 all_goals omega
theorem Hq{x y z:Part}(h:before x y)(h':before y z):before x z:=by
 unfold before at*
 omega
theorem Xi{l:List Part}:(∀k,k<l.length→kL b l k)↔(∀x∈l,mZ b x)∧l.Pairwise before:=by
 constructor
 · intro h
   refine⟨fun x hx=> ?_,List.pairwise_iff_getElem.2 fun i j hi hj dQ=> ?_⟩
   · obtain⟨k,hk,rfl⟩:=jO hx
     exact(h k hk).1
   · rw[←ep hi,←ep hj]
     have key:∀m,i+1+m<l.length→before (gt l i) (gt l (i+1+m)):=fun m=>by
      induction m with
      |zero=>exact fun hm=>(h (i+1) hm).2 (by omega)
      |succ m ih=>exact fun hm=>Hq (ih (by omega)) ((h (i+1+(m+1)) hm).2 (by omega))
     have:=key (j-i-1) (by omega)
     rwa[show i+1+(j-i-1)=j by omega] at this
 · rintro⟨h1,h2⟩ k hk
   refine⟨h1 _ (cr hk),fun h0=> ?_⟩
   have:=List.pairwise_iff_getElem.1 h2 (k-1) k (by omega) hk (by omega)
   rwa[←ep,←ep] at this
theorem Qk{x y:Part}(hx:(1≤x.Kind∧x.Kind≤4)∧0≤x.Number∧x.Number≤24)(hy:(1≤y.Kind∧y.Kind≤4)∧0≤y.Number∧y.Number≤24):∃c:Int,zU x y=some c∧(c<0↔before x y)∧(c=0↔x=y):=by
 unfold zU before
 obtain⟨k,n⟩:=x
 obtain⟨k',n'⟩:=y
 simp only[Part.mk.injEq] at*
 by_cases h:k=k'
 · rw[Ho h]
   simp only[Bool.false_eq_true,if_false,bO (show-1000000000000000000≤n-n' by omega) (by omega)]
   exact⟨_,rfl,by omega,by omega⟩
 · rw[Cr h]
   simp only[if_true,bO (show-1000000000000000000≤k-k' by omega) (by omega)]
   exact⟨_,rfl,by omega,by omega⟩
theorem aga{x:Int}(h0:0≤x)(h1:x≤1000000000):nY 64 (jc IntKind.u64 (W x)) 1=some (x/2):=by
 have e1:W x=x:=bO (by omega) (by omega)
 have e2:IntKind.u64.wrap x=x:=by
  have hb:IntKind.u64.bits=64:=rfl
  simp[IntKind.wrap,hb,IntKind.signed]
  omega
 show(if(1:Int)<0 then none else some ((IntKind.u64.wrap (W x)).fdiv (2^min (1:Int).toNat 64)))=_
 rw[e1,e2,if_neg (by omega)]
 congr 1
 show x.fdiv (2^1)=x/2
 rw[Int.fdiv_eq_ediv_of_nonneg _ (by decide)]
 rfl
theorem Yp(hl:dL b){l:List Part}(h1:∀x∈l,mZ b x)(h2:l.Pairwise before)(h3:l.length≤32){x:Part}(hx:mZ b x):∃k:Nat,k≤l.length∧(∀i,i<k→before (gt l i) x)∧(∀i,k≤i→i<l.length→¬before (gt l i) x)∧DH l x=some ((k:Int),dB (k<l.length∧gt l k=x)):=by
 have To:=Qy hl hx
 have ss:∀q,q<l.length→(1≤(gt l q).Kind∧(gt l q).Kind≤4)∧0≤(gt l q).Number∧(gt l q).Number≤24:=fun q hq=>Qy hl (h1 _ (cr hq))
 have Dj:∀i j,i<j→j<l.length→before (gt l i) (gt l j):=fun i j dQ hj=>by
  have:=List.pairwise_iff_getElem.1 h2 i j (by omega) hj dQ
  rwa[←ep,←ep] at this
 have qL:Wp (aC (IZ l x) (0,len l)) fun r=>∃k:Nat,r=(k:Int)∧k≤l.length∧(∀i,i<k→before (gt l i) x)∧∀i,k≤i→i<l.length→¬before (gt l i) x:=by
  refine O3 (fun s=>(s.2-s.1).toNat) (fun s=>∃i j:Nat,s=((i:Int),(j:Int))∧i≤j∧j≤l.length∧(∀q,q<i→before (gt l q) x)∧∀q,j≤q→q<l.length→¬before (gt l q) x) (fun s hs=> ?_) ⟨0,l.length,rfl,Nat.zero_le _,Nat.le_refl _,fun p hp=>by omega,fun p h1 h2=>by omega⟩ (by simp only[len];omega)
  obtain⟨i,j,rfl,dQ,hj,h1,h2⟩:=hs
  unfold IZ
  simp only
  by_cases aQ:i<j
  · obtain⟨q,hq⟩:∃q:Nat,((i:Int)+(j:Int))/2=(q:Int):=⟨(i+j)/2,by omega⟩
    have Su:i≤q∧q<j:=by omega
    have Bs:W (q:Int)=q:=bO (by omega) (by omega)
    obtain⟨c,c1,c2,_⟩:=Qk (ss q (by omega)) To
    simp only[dT (c:=(i:Int)<(j:Int)) (by omega),if_true]
    rw[aga (by omega) (by omega),hq]
    simp only[Option.bind_some,Bs,aD (show q<l.length by omega),c1]
    by_cases hc:c<0
    · simp only[dT hc,if_true,Option.bind_some]
      rw[aX (by omega)]
      refine ay.2 ⟨⟨q+1,j,rfl,by omega,hj,fun p hp=> ?_,h2⟩,by simp only;omega⟩
      by_cases iP:p=q
      · rw[iP];exact c2.1 hc
      · exact Hq (Dj p q (by omega) (by omega)) (c2.1 hc)
    · simp only[dF hc,Bool.false_eq_true,if_false,Option.bind_some]
      refine ay.2 ⟨⟨i,q,rfl,by omega,by omega,h1,fun p hp k9 hb=>hc (c2.2 ?_)⟩,by simp only;omega⟩
      by_cases iP:p=q
      · rw[←iP];exact hb
      · exact Hq (Dj q p (by omega) k9) hb
  · have hje:j=i:=by omega
    subst hje
    simp only[dF (c:=(j:Int)<(j:Int)) (by omega),Bool.false_eq_true,if_false]
    exact ay.2 ⟨j,rfl,hj,h1,h2⟩
 obtain⟨r,hr,k,rfl,hk,k1,k2⟩:=qL
 refine⟨k,hk,k1,k2, ?_⟩
 unfold DH
 simp only[hr,Option.bind_some]
 by_cases mN:k<l.length
 · obtain⟨c,c1,_,c3⟩:=Qk (ss k mN) To
   simp only[aU mN,if_true,aD mN,c1,Option.bind_some]
   congr 2
   refine ah3 ?_
   rw[beq_iff_eq,c3]
   exact⟨fun e=>⟨mN,e⟩,fun e=>e.2⟩
 · rw[dF (c:=(k:Int)<len l) (by unfold len;omega)]
   simp only[Bool.false_eq_true,if_false,Option.bind_some]
   rw[dj (fun hh=>mN hh.1)]
theorem ZQ{l:List Part}{k:Nat}{y:Part}(h:y∈l.take k)(hk:k≤l.length):∃i,i<k∧gt l i=y:=(tT hk).1 h
theorem ahV{l:List Part}{k:Nat}{y:Part}(h:y∈l.drop k):∃i,k≤i∧i<l.length∧gt l i=y:=by
 obtain⟨i,hi,e⟩:=jO h
 rw[List.length_drop] at hi
 refine⟨k+i,by omega,by omega, ?_⟩
 rw[←e]
 unfold gt
 rw[List.getD_eq_getElem?_getD,List.getD_eq_getElem?_getD,List.getElem?_drop]
def sQ(l:List Part)(k:Nat)(x:Part):List Part:=l.take k++[x]++l.drop k
def Cb(l:List Part)(k:Nat):List Part:=l.take k++l.drop (k+1)
theorem ak4{l:List Part}(h1:∀x∈l,mZ b x)(h2:l.Pairwise before){x:Part}(hx:mZ b x){k:Nat}(hk:k≤l.length)(k1:∀i,i<k→before (gt l i) x)(k2:∀i,k≤i→i<l.length→¬before (gt l i) x)(k3:¬(k<l.length∧gt l k=x)):(∀y∈sQ l k x,mZ b y)∧(sQ l k x).Pairwise before:=by
 have ZD:∀y:Part,¬before y x→y≠x→before x y:=fun y n1 n2=>by
  unfold before at*
  obtain⟨a,c⟩:=y
  obtain⟨a',c'⟩:=x
  simp only[ne_eq,Part.mk.injEq] at*
  omega
 have Dj:∀i j,i<j→j<l.length→before (gt l i) (gt l j):=fun i j dQ hj=>by
  have:=List.pairwise_iff_getElem.1 h2 i j (by omega) hj dQ
  rwa[←ep,←ep] at this
 have mj:∀y∈l.drop k,before x y:=fun y hy=>by
  obtain⟨i,i1,i2,rfl⟩:=ahV hy
  refine ZD _ (k2 i i1 i2) fun e=> ?_
  by_cases iQ:i=k
  · subst iQ;exact k3 ⟨i2,e⟩
  · have:=Dj k i (by omega) i2
    rw[e] at this
    exact k2 k (Nat.le_refl _) (by omega) this
 have fst:∀y∈l.take k,before y x:=fun y hy=>by
  obtain⟨i,i1,rfl⟩:=ZQ hy hk
  exact k1 i i1
 refine⟨fun y hy=> ?_, ?_⟩
 · unfold sQ at hy
   rw[List.mem_append,List.mem_append] at hy
   rcases hy with(hy|hy)|hy
   · exact h1 y (List.mem_of_mem_take hy)
   · rw[List.mem_singleton.1 hy];exact hx
   · exact h1 y (List.mem_of_mem_drop hy)
 · unfold sQ
   rw[List.append_assoc,List.pairwise_append]
   refine⟨h2.sublist (List.take_sublist _ _), ?_,fun y hy z hz=> ?_⟩
   · rw[List.pairwise_append]
     refine⟨List.pairwise_singleton _ _,h2.sublist (List.drop_sublist _ _),fun y hy z hz=> ?_⟩
     rw[List.mem_singleton.1 hy]
     exact mj z hz
   · rw[List.mem_append] at hz
     rcases hz with hz|hz
     · rw[List.mem_singleton.1 hz];exact fst y hy
     · exact Hq (fst y hy) (mj z hz)
theorem ak3{l:List Part}(h1:∀x∈l,mZ b x)(h2:l.Pairwise before)(k:Nat):(∀y∈Cb l k,mZ b y)∧(Cb l k).Pairwise before:=by
 have hs:(Cb l k).Sublist l:=by
  have h3:(l.take k++l.drop (k+1)).Sublist (l.take k++l.drop k):=List.Sublist.append (List.Sublist.refl _) (by rw[show k+1=k+1 from rfl,←List.drop_drop];exact List.drop_sublist _ _)
  rwa[List.take_append_drop] at h3
 exact⟨fun y hy=>h1 y (hs.subset hy),h2.sublist hs⟩
end
end Rx
namespace Rx
open Classical
section
variable {b:ak} {p:ah}
theorem O9(v:eO b p){l:List Part}(h:(∀x∈l,mZ b x)∧l.Pairwise before)(hl:l.length≤32):eO b ⟨p.al,p.aa,p.ar,l⟩:=by
 obtain⟨hp,h0⟩:=v
 obtain⟨h2,hs,g1,g2,g3⟩:=bG.1 h0
 refine⟨⟨hp.1,hp.2.1,hp.2.2.1,by unfold Sm;simp only;omega⟩,bG.2 ⟨h2,hs,⟨Xi.2 h,hl⟩,g2,fun k hk=> ?_⟩⟩
 obtain⟨f1,f2⟩:=g3 k hk
 refine⟨f1, ?_⟩
 have e:cK b ⟨p.al,p.aa,p.ar,l⟩ (k:Int) b.ab.length=cK b p (k:Int) b.ab.length:=yj fun i _ _ _=>rfl
 rw[e]
 exact f2
def HS(x:Part)(q:ah):Prop:=x∈q.ax∧(x.Kind=1→(gt q.aa x.Number.toNat).State=3)
theorem YB(hb:bL b)(v:eO b p){t:Int}{x:Part}(hx:mZ b x)(br:Bool):Wp (C2 ⟨b,p,t⟩ x br) fun r=>r.1=0→eO b (fB r)∧(br=true→HS x (fB r)):=by
 obtain⟨⟨hl,hg⟩,⟨s1,s2,s3⟩,⟨g1,g2⟩,g3,g4⟩:=bG.1 v.2
 obtain⟨b1,b2⟩:=Xi.1 g1
 obtain⟨k,hk,k1,k2,hf⟩:=Yp hl b1 b2 g2 hx
 unfold C2
 simp only[hf,Option.bind_some]
 refine Wp.ite (fun _=>ay.2 fun e=>by cases e) fun h1=> ?_
 refine Wp.bind (Q:=fun c=>c=false→br=true→p.ax.length<32) ?_ fun c hc=> ?_
 · refine Wp.ite (fun _=>ay.2 fun e _=> ?_) fun h=>ay.2 fun _ e=>by rw[e] at h;cases h
   have:=of_decide_eq_false e
   unfold len at this
   omega
 refine Wp.ite (fun _=>ay.2 fun e=>by cases e) fun h2=> ?_
 have hc:=hc h2
 refine Wp.bind (Q:=fun y=>eO b ⟨p.al,p.aa,p.ar,y.2.2.2.2.2.2.2⟩∧(br=true→x∈y.2.2.2.2.2.2.2)) ?_ fun y hy=> ?_
 · refine Wp.ite (fun iE=> ?_) fun iE=> ?_
   · have iw:¬(k<p.ax.length∧gt p.ax k=x):=fun hn=>by
      rw[er hn,iE] at h1
      cases h1
     have afb:Ds p.ax (k:Int) [x]=some (sQ p.ax k x):=by
      unfold Ds AJ
      rw[c_ (by simp;omega)]
      simp[len,hk,sQ]
     rw[afb]
     refine ay.2 ⟨O9 v (ak4 b1 b2 hx hk k1 k2 iw) ?_,fun _=>by unfold sQ;simp⟩
     have:=hc iE
     unfold sQ
     simp
     omega
   · have mN:k<p.ax.length∧gt p.ax k=x:=by
      refine Classical.byContradiction fun hn=> ?_
      rw[dj hn,iE] at h1
      cases h1
     have hd:Dy p.ax (k:Int) (W ((k:Int)+1))=some (Cb p.ax k):=by
      rw[aX (by omega)]
      unfold Dy BT
      rw[show decide ((0:Int)≤(k:Int))=true from dT (by omega),show decide ((k:Int)≤((k+1:Nat):Int))=true from dT (by omega),show decide (((k+1:Nat):Int)≤len p.ax)=true from dT (by unfold len;omega)]
      rfl
     rw[hd]
     refine ay.2 ⟨O9 v (ak3 b1 b2 k) ?_,fun e=>by rw[iE] at e;cases e⟩
     unfold Cb
     simp
     omega
 · obtain⟨vy,my⟩:=hy
   refine Wp.bind (Q:=fun S=>eO b ⟨p.al,S,p.ar,y.2.2.2.2.2.2.2⟩∧(br=true→x.Kind=1→(gt S x.Number.toNat).State=3)) ?_ fun S hS=>ay.2 fun _=>⟨hS.1,fun e=>⟨my e,hS.2 e⟩⟩
   refine Wp.ite (fun cZ=> ?_) fun cZ=>ay.2 ⟨vy,fun _ e=>by rw[dU e] at cZ;cases cZ⟩
   have cZ:x.Kind=1:=by simpa using cZ
   obtain⟨n0,n1⟩:=hx
   unfold bsize at n1
   rw[if_pos cZ] at n1
   obtain⟨j,hj⟩:=Int.eq_ofNat_of_zero_le n0
   have hj:x.Number=(j:Int):=hj
   have bZ:j<p.aa.length:=by omega
   have pI:∀z,j<(p.aa.set j z).length:=fun z=>by simpa using bZ
   have hr:=YJ v bZ
   simp only[hj,aD bZ,fM bZ,Option.bind_some,aD (pI _),fM (pI _),dI bZ,if_pos,List.set_set,Int.toNat_natCast]
   refine Wp.bind (Q:=fun S=>eO b ⟨p.al,S,p.ar,y.2.2.2.2.2.2.2⟩∧(br=true→(gt S j).State=3)) ?_ fun S hS=>ay.2 ⟨hS.1,fun e _=>hS.2 e⟩
   refine Wp.ite (fun iE=>ay.2 ⟨C4 vy bZ ?_,fun _=>by rw[dI bZ,if_pos rfl]⟩) fun iE=>ay.2 ⟨C4 vy bZ ?_,fun e=>by rw[iE] at e;cases e⟩
   · unfold dq at*;simp only;omega
   · unfold dq at*;simp only;omega
theorem abS(k n:Int):qu b k n=some (decide (0≤n∧n<bsize b k)):=by
 have key:∀z:Int,(Option.bind (if decide (n≥0)=true then some (decide (n<z)) else some false) fun x5=>some x5)=some (decide (0≤n∧n<z)):=fun z=>by
  by_cases h:0≤n
  · simp[h]
  · simp[h]
 unfold qu bsize
 by_cases h1:k=1
 · simp only[h1,beq_self_eq_true,if_true,Option.bind_some];exact key _
 by_cases h2:k=2
 · subst h2;exact key _
 by_cases h3:k=3
 · subst h3;exact key _
 by_cases h4:k=4
 · subst h4;exact key _
 rw[bW h1,bW h2,bW h3,bW h4,if_neg h1,if_neg h2,if_neg h3,if_neg h4]
 exact key _
def HQ(b:ak)(a:Act):Prop:=((a.Kind=1∨a.Kind=2)→0≤a.Unit∧a.Unit<(b.ab.length:Int))∧((a.Kind=3∨a.Kind=4∨a.Kind=6)→0≤a.Unit∧a.Unit<(b.aa.length:Int))∧(a.Kind=5→0≤a.Unit∧a.Unit<(b.ae.length:Int))∧(a.Kind=6→0≤a.Value∧a.Value<b.ai)∧((a.Kind=8∨a.Kind=9)→mZ b ⟨a.Value,a.Unit⟩)
theorem O5(a:Act):Wp (zT b a) fun c=>c=true→HQ b a:=by
 unfold zT HQ mZ
 simp only[abS]
 by_cases h1:a.Kind=1∨a.Kind=2
 · have e:(if(a.Kind==1)=true then some (a.Kind==1) else some (a.Kind==2))=some true:=by rcases h1 with h|h<;>rw[h]<;>rfl
   rw[e]
   refine ay.2 fun hc=> ?_
   have hc:=of_decide_eq_true hc
   have hz:bsize b 2=(b.ab.length:Int):=rfl
   refine⟨fun _=>by omega,fun _=>by omega,fun _=>by omega,fun _=>by omega,fun _=>by omega⟩
 have e1:(if(a.Kind==1)=true then some (a.Kind==1) else some (a.Kind==2))=some false:=by rw[bW (fun h=>h1 (.inl h)),bW (fun h=>h1 (.inr h))];rfl
 rw[e1]
 simp only[Option.bind_some,Bool.false_eq_true,if_false]
 by_cases h2:a.Kind=3∨a.Kind=4
 · have e:(if(a.Kind==3)=true then some (a.Kind==3) else some (a.Kind==4))=some true:=by rcases h2 with h|h<;>rw[h]<;>rfl
   rw[e]
   refine ay.2 fun hc=> ?_
   have hc:=of_decide_eq_true hc
   have hz:bsize b 1=(b.aa.length:Int):=rfl
   refine⟨fun _=>by omega,fun _=>by omega,fun _=>by omega,fun _=>by omega,fun _=>by omega⟩
 have e2:(if(a.Kind==3)=true then some (a.Kind==3) else some (a.Kind==4))=some false:=by rw[bW (fun h=>h2 (.inl h)),bW (fun h=>h2 (.inr h))];rfl
 rw[e2]
 simp only[Option.bind_some,Bool.false_eq_true,if_false]
 have z1:bsize b 1=(b.aa.length:Int):=rfl
 have z3:bsize b 3=b.ai:=rfl
 have z4:bsize b 4=(b.ae.length:Int):=rfl
 refine Wp.ite (fun h5=>ay.2 fun hc=> ?_) fun h5=> ?_
 · have h5:a.Kind=5:=by simpa using h5
   have hc:=of_decide_eq_true hc
   refine⟨fun _=>by omega,fun _=>by omega,fun _=>by omega,fun _=>by omega,fun _=>by omega⟩
 have h5:a.Kind≠5:=by simpa using h5
 refine Wp.ite (fun h6=> ?_) fun h6=> ?_
 · have h6:a.Kind=6:=by simpa using h6
   refine Wp.bind (Q:=fun c=>c=true→(0≤a.Unit∧a.Unit<bsize b 1)∧0≤a.Value∧a.Value<bsize b 3) ?_ fun c hc=>ay.2 fun e=> ?_
   · refine Wp.ite (fun h=>ay.2 fun h'=>⟨of_decide_eq_true h,of_decide_eq_true h'⟩) fun _=>ay.2 fun e=>by cases e
   · have hc:=hc e
     refine⟨fun _=>by omega,fun _=>by omega,fun _=>by omega,fun _=>by omega,fun _=>by omega⟩
 have h6:a.Kind≠6:=by simpa using h6
 by_cases h8:a.Kind=8∨a.Kind=9
 · have e:(if(a.Kind==8)=true then some (a.Kind==8) else some (a.Kind==9))=some true:=by rcases h8 with h|h<;>rw[h]<;>rfl
   rw[e]
   refine ay.2 fun hc=> ?_
   have hc:=of_decide_eq_true hc
   refine⟨fun _=>by omega,fun _=>by omega,fun _=>by omega,fun _=>by omega,fun _=>⟨hc.1,by have:=hc.2;omega⟩⟩
 have e8:(if(a.Kind==8)=true then some (a.Kind==8) else some (a.Kind==9))=some false:=by rw[bW (fun h=>h8 (.inl h)),bW (fun h=>h8 (.inr h))];rfl
 rw[e8]
 refine ay.2 fun hc=> ?_
 refine⟨fun _=>by omega,fun _=>by omega,fun _=>by omega,fun _=>by omega,fun h=>(h8 h).elim⟩
def o0(b:ak)(a:Act)(q:ah):Prop:=eO b q∧(a.Kind=8→HS ⟨a.Value,a.Unit⟩ q)
theorem Yf(hb:bL b)(v:eO b p){t:Int}(t0:0≤t)(t1:t≤2147483648){a:Act}(hk:1≤a.Kind∧a.Kind≤9)(hn:HQ b a):Wp (C3 ⟨b,p,t⟩ a) fun r=>(r.1=0→o0 b a (fB r))∧(a.Kind=7→r.1=0∧(cE b p=p.aa→cE b (fB r)=(fB r).aa)):=by
 obtain⟨n1,n2,n3,n4,n5⟩:=hn
 unfold C3
 refine Wp.bind (Q:=fun(r:WR)=>(r.1=0→o0 b a (fB r))∧(a.Kind=7→r.1=0∧(cE b p=p.aa→cE b (fB r)=(fB r).aa))) ?_ fun r h=>ay.2 h
 refine Wp.ite (fun h=> ?_) fun h1=> ?_
 · have h:a.Kind=1:=by simpa using h
   obtain⟨i,hi⟩:=Int.eq_ofNat_of_zero_le (n1 (.inl h)).1
   have hi:a.Unit=(i:Int):=hi
   rw[hi]
   exact(YD hb v (by have:=(n1 (.inl h)).2;omega)).bind fun r hr=>ay.2 ⟨fun e=>⟨hr e,fun h8=>(by omega)⟩,fun h7=>(by omega)⟩
 refine Wp.bind (Q:=fun(r:WR)=>(r.1=0→o0 b a (fB r))∧(a.Kind=7→r.1=0∧(cE b p=p.aa→cE b (fB r)=(fB r).aa))) ?_ fun r h=>ay.2 h
 refine Wp.ite (fun h=> ?_) fun h2=> ?_
 · have h:a.Kind=2:=by simpa using h
   obtain⟨i,hi⟩:=Int.eq_ofNat_of_zero_le (n1 (.inr h)).1
   have hi:a.Unit=(i:Int):=hi
   rw[hi]
   exact(Yt hb v (by have:=(n1 (.inr h)).2;omega)).bind fun r hr=>ay.2 ⟨fun e=>⟨hr e,fun h8=>(by omega)⟩,fun h7=>(by omega)⟩
 refine Wp.bind (Q:=fun(r:WR)=>(r.1=0→o0 b a (fB r))∧(a.Kind=7→r.1=0∧(cE b p=p.aa→cE b (fB r)=(fB r).aa))) ?_ fun r h=>ay.2 h
 refine Wp.ite (fun h=> ?_) fun h6=> ?_
 · have h:a.Kind=6:=by simpa using h
   obtain⟨u0,u1⟩:=n2 (.inr (.inr h))
   obtain⟨v0,v1⟩:=n4 h
   obtain⟨i,hi⟩:=Int.eq_ofNat_of_zero_le u0
   have hi:a.Unit=(i:Int):=hi
   rw[hi]
   exact(Yx hb v (by omega) v0 v1).bind fun r hr=>ay.2 ⟨fun e=>⟨hr e,fun h8=>(by omega)⟩,fun h7=>(by omega)⟩
 refine Wp.bind (Q:=fun(r:WR)=>(r.1=0→o0 b a (fB r))∧(a.Kind=7→r.1=0∧(cE b p=p.aa→cE b (fB r)=(fB r).aa))) ?_ fun r h=>ay.2 h
 refine Wp.ite (fun h=> ?_) fun h3=> ?_
 · have h:a.Kind=3:=by simpa using h
   obtain⟨u0,u1⟩:=n2 (.inl h)
   obtain⟨i,hi⟩:=Int.eq_ofNat_of_zero_le u0
   have hi:a.Unit=(i:Int):=hi
   rw[hi]
   exact(Yn hb v t0 t1 (by omega)).bind fun r hr=>ay.2 ⟨fun e=>⟨hr e,fun h8=>(by omega)⟩,fun h7=>(by omega)⟩
 refine Wp.bind (Q:=fun(r:WR)=>(r.1=0→o0 b a (fB r))∧(a.Kind=7→r.1=0∧(cE b p=p.aa→cE b (fB r)=(fB r).aa))) ?_ fun r h=>ay.2 h
 refine Wp.ite (fun h=> ?_) fun h4=> ?_
 · have h:a.Kind=4:=by simpa using h
   obtain⟨u0,u1⟩:=n2 (.inr (.inl h))
   obtain⟨i,hi⟩:=Int.eq_ofNat_of_zero_le u0
   have hi:a.Unit=(i:Int):=hi
   rw[hi]
   exact(Yk hb v (by omega)).bind fun r hr=>ay.2 ⟨fun e=>⟨hr e,fun h8=>(by omega)⟩,fun h7=>(by omega)⟩
 refine Wp.bind (Q:=fun(r:WR)=>(r.1=0→o0 b a (fB r))∧(a.Kind=7→r.1=0∧(cE b p=p.aa→cE b (fB r)=(fB r).aa))) ?_ fun r h=>ay.2 h
 refine Wp.ite (fun h=> ?_) fun h5=> ?_
 · have h:a.Kind=5:=by simpa using h
   obtain⟨u0,u1⟩:=n3 h
   obtain⟨i,hi⟩:=Int.eq_ofNat_of_zero_le u0
   have hi:a.Unit=(i:Int):=hi
   rw[hi]
   exact(Yz hb v (by omega) _).bind fun r hr=>ay.2 ⟨fun e=>⟨hr e,fun h8=>(by omega)⟩,fun h7=>(by omega)⟩
 refine Wp.bind (Q:=fun(r:WR)=>(r.1=0→o0 b a (fB r))∧(a.Kind=7→r.1=0∧(cE b p=p.aa→cE b (fB r)=(fB r).aa))) ?_ fun r h=>ay.2 h
 refine Wp.ite (fun h=> ?_) fun h7=> ?_
 · have h:a.Kind=7:=by simpa using h
   exact(Yg hb v).bind fun r hr=>ay.2 ⟨fun e=>⟨hr.1,fun h8=>(by omega)⟩,fun _=>⟨rfl,hr.2⟩⟩
 have e1:a.Kind≠1:=by simpa using h1
 have e2:a.Kind≠2:=by simpa using h2
 have e3:a.Kind≠3:=by simpa using h3
 have e4:a.Kind≠4:=by simpa using h4
 have e5:a.Kind≠5:=by simpa using h5
 have e6:a.Kind≠6:=by simpa using h6
 have e7:a.Kind≠7:=by simpa using h7
 exact(YB hb v (n5 (by omega)) _).bind fun r hr=>ay.2 ⟨fun e=>⟨(hr e).1,fun h8=>(hr e).2 (dU h8)⟩,fun h7=>(e7 h7).elim⟩
theorem O6(hb:bL b)(v:eO b p){t:Int}(t0:0≤t)(t1:t≤2147483648)(a:Act):Wp (zV b p t a) fun r=>(r.1=0→o0 b a ⟨r.2.1,r.2.2.1,r.2.2.2.1,r.2.2.2.2⟩)∧(a=⟨7,0,0⟩→r.1=0∧(cE b p=p.aa→cE b ⟨r.2.1,r.2.2.1,r.2.2.2.1,r.2.2.2.2⟩=r.2.2.1)):=by
 unfold zV
 have e:(aH b p !=0)=false:=by rw[v.2];rfl
 simp only[kR hb v.1,Option.bind_some,e,Bool.false_eq_true,if_false,dF (c:=t<0) (by omega),dF (c:=t>2147483648) (by omega),nK v.1]
 refine Wp.bind (Q:=fun c=>c=false↔1≤a.Kind∧a.Kind≤9) ?_ fun c hc=> ?_
 · refine Wp.ite (fun h=>ay.2 ?_) fun h=>ay.2 ?_
   · have h:=of_decide_eq_true h
     exact⟨fun e=>(by cases e),fun e=>(by omega)⟩
   · have h:=of_decide_eq_false h
     rw[decide_eq_false_iff_not]
     omega
 refine Wp.ite (fun h=>ay.2 ⟨fun e=>(by cases e),fun e=> ?_⟩) fun h=> ?_
 · subst e
   have:=hc.2 ⟨by decide,by decide⟩
   rw[h] at this
   cases this
 have hk:=hc.1 h
 refine Wp.bind (Q:=fun c=>(c=true→HQ b a)∧(a=⟨7,0,0⟩→c=true)) ?_ fun c hc=> ?_
 · by_cases hw:a=⟨7,0,0⟩
   · subst hw
     obtain⟨c,h1,h2⟩:=O5 (b:=b) ⟨7,0,0⟩
     have uD:zT b ⟨7,0,0⟩=some true:=rfl
     rw[uD] at h1
     cases h1
     exact⟨true,uD,h2,fun _=>rfl⟩
   · exact(O5 a).mono fun c h=>⟨h,fun e=>(hw e).elim⟩
 refine Wp.ite (fun h=>ay.2 ⟨fun e=>(by cases e),fun e=>(by rw[hc.2 e] at h;cases h)⟩) fun h=> ?_
 have hc:=hc.1 (by simpa using h)
 refine(Yf hb v t0 t1 hk hc).bind fun r hr=> ?_
 refine Wp.ite (fun h=>ay.2 ⟨fun e=> ?_,fun e=> ?_⟩) fun h=>ay.2 ⟨fun _=>hr.1 (by simpa using h),fun e=>⟨rfl,(hr.2 (by rw[e])).2⟩⟩
 · have h:r.1≠0:=by simpa using h
   exact(h e).elim
 · have h:r.1≠0:=by simpa using h
   exact(h (hr.2 (by rw[e])).1).elim
end
end Rx
namespace Rx
open Classical
section
variable {b:ak} {p:ah}
def mn(b:ak)(a:Act):Prop:=(a.Kind=2∧0≤a.Unit∧a.Unit<(b.ab.length:Int))∨(a.Kind=5∧0≤a.Unit∧a.Unit<(b.ae.length:Int))
theorem F0{α β:Type}{f:β→α→β}{P:β→Prop}:∀{l:List α},(∀s x,x∈l→P s→P (f s x))→∀s,P s→P (l.foldl f s)
 |[],_,s,h=>h
 |x::l,hf,s,h=>F0 (l:=l) (fun s y hy=>hf s y (List.mem_cons_of_mem _ hy)) (f s x) (hf s x (List.mem_cons_self ..) h)
theorem NT{C:List Bool}{P:Nat→Bool}(hc:C.length=b.ab.length):∀a∈(ee C P).map mm,mn b a:=fun a ha=>by
 obtain⟨k,hk,rfl⟩:=List.mem_map.1 ha
 have:=uU k hk
 exact .inl ⟨rfl,this.1,by show k<_;omega⟩
theorem Hv{l m:List Act}(h:∀a∈l,mn b a)(h':∀a∈m,mn b a):∀a∈l++m,mn b a:=fun a ha=>(List.mem_append.1 ha).elim (h a) (h' a)
theorem acI{x:aP}{T o:List Int}(ho:∀c∈o,0≤c∧c<(b.ae.length:Int))(s:List Int×List Act)(hs:∀a∈s.2,mn b a):∀a∈(eH b x T o s).2,mn b a:=
 F0 (P:=fun(s:List Int×List Act)=>∀a∈s.2,mn b a) (fun s c hc hs=>by
  unfold lO
  split
  · exact Hv hs fun a ha=>by rw[List.mem_singleton.1 ha];exact .inr ⟨rfl,ho c hc⟩
  · exact hs) s hs
theorem Zz(h:aH b p=0){x:aP}{L o:List Int}(s:List Int×List Act)(hs:∀a∈s.2,mn b a):∀a∈(fY b p x L o s).2,mn b a:=
 F0 (P:=fun(s:List Int×List Act)=>∀a∈s.2,mn b a) (fun s c hc hs=>by
  unfold lJ
  split
  · exact Hv hs (NT (by show(eG p.al _).length=_;rw[gR];exact(gF h).1))
  · exact hs) s hs
theorem aaH(h:aH b p=0):∀a∈(fC b p).2.2,mn b a:=
 F0 (P:=fun(s:List Int×List Int×List Act)=>∀a∈s.2.2,mn b a) (fun s x hx hs=>by
  unfold ni
  split
  · exact hs
  · exact Zz h _ (acI (wT h hx).2.1 _ hs)) _ (fun a ha=>by cases ha)
theorem aih(h:aH b p=0):∀a∈nJ b p,mn b a:=by
 obtain⟨s1,_⟩:=gF h
 unfold nJ
 exact Hv (NT s1) (NT (by show(eG p.al _).length=_;rw[gR];exact s1))
theorem abL(h:aH b p=0):∀a∈rD b p,mn b a:=Hv (aih h) (aaH (nU h))
theorem abN(h:aH b p=0):(rD b p).length≤1000000:=by
 have h1:=Uz h
 have h2:=(zK (nU h) (aE b (et b p)).length (Nat.le_refl _)).2
 rw[List.take_length] at h2
 have je:=rR (b:=b) (p:=et b p)
 have iD:=(bG.1 h).1.1.ew
 unfold rD
 rw[List.length_append]
 have:(fC b (et b p)).2.2.length≤20000*(aE b (et b p)).length:=h2
 omega
theorem Qt(h:aH b p=0):Clean b (bT b p):=aiq (nU h) (air h) (wv (nU h)) _
def Gd(b:ak)(p:ah):Prop:=eO b p∧cE b p=p.aa
theorem agY(v:eO b p):Gd b (bT b p):=⟨⟨Px v.1 v.2,Pq v.2⟩,(Qt v.2).gj⟩
theorem ahQ{a b:List Bool}(ha:Sm a):Dx a b=some (dB (a=b)):=by
 unfold Dx
 by_cases hl:a.length=b.length
 · have e1:(len a !=len b)=false:=by simp[len,hl]
   have h:=pt (step:=we a b) (fun k=>(k:Int)) a.length (fun k=>gt a k≠gt b k) (r:= .inr false) (e:= .inl ())
    (fun k hk hp=>by
      have e2:(!gt a k==gt b k)=false:=by simpa using hp
      simp only[we,aU hk,if_true,aD hk,aD (show k<b.length by omega),Option.bind_some,e2,Bool.false_eq_true,if_false,aX (cN ha hk)])
    (fun k hk hp=>by
      have e2:(!gt a k==gt b k)=true:=by simpa using hp
      simp only[we,aU hk,if_true,aD hk,aD (show k<b.length by omega),Option.bind_some,e2])
    (by simp only[we,bA,Bool.false_eq_true,if_false])
   have h':aC (we a b) 0=_:=h
   simp only[e1,Bool.false_eq_true,if_false,h',Option.bind_some]
   by_cases he:a=b
   · subst he
     rw[dj (p:=∃k,k<a.length∧gt a k≠gt a k) (by simp),er rfl]
     rfl
   · have:∃k,k<a.length∧gt a k≠gt b k:=by
      apply Classical.byContradiction
      intro hn
      exact he (fi hl fun k hk=>Classical.byContradiction fun h=>hn ⟨k,hk,h⟩)
     rw[er this,dj he]
     rfl
 · have e1:(len a !=len b)=true:=by simp[len];omega
   have he:a≠b:=fun e=>hl (e▸rfl)
   rw[dj he]
   simp only[e1,if_true]
theorem ahP{a b:List Int}(ha:Sm a):Dw a b=some (dB (a=b)):=by
 unfold Dw
 by_cases hl:a.length=b.length
 · have e1:(len a !=len b)=false:=by simp[len,hl]
   have h:=pt (step:=wc a b) (fun k=>(k:Int)) a.length (fun k=>gt a k≠gt b k) (r:= .inr false) (e:= .inl ())
    (fun k hk hp=>by
      simp only[wc,aU hk,if_true,aD hk,aD (show k<b.length by omega),Option.bind_some,Ho (Classical.not_not.1 hp),Bool.false_eq_true,if_false,aX (cN ha hk)])
    (fun k hk hp=>by
      simp only[wc,aU hk,if_true,aD hk,aD (show k<b.length by omega),Option.bind_some,Cr hp])
    (by simp only[wc,bA,Bool.false_eq_true,if_false])
   have h':aC (wc a b) 0=_:=h
   simp only[e1,Bool.false_eq_true,if_false,h',Option.bind_some]
   by_cases he:a=b
   · subst he
     rw[dj (p:=∃k,k<a.length∧gt a k≠gt a k) (by simp),er rfl]
     rfl
   · have:∃k,k<a.length∧gt a k≠gt b k:=by
      apply Classical.byContradiction
      intro hn
      exact he (fi hl fun k hk=>Classical.byContradiction fun h=>hn ⟨k,hk,h⟩)
     rw[er this,dj he]
     rfl
 · have e1:(len a !=len b)=true:=by simp[len];omega
   have he:a≠b:=fun e=>hl (e▸rfl)
   rw[dj he]
   simp only[e1,if_true]
theorem O4{q:ah}(hp:bf p):Wp (zt p q) fun c=>p=q→c=true:=by
 obtain⟨h1,h2,h3,h4⟩:=hp
 unfold zt
 simp only[ahQ h1,ahP h3,Ub h2,Uc h4,Option.bind_some]
 by_cases e:p=q
 · subst e
   simp only[er]
   exact ay.2 fun _=>rfl
 · refine Wp.bind (Q:=fun _=>True) ?_ fun c _=>ay.2 fun h=>(e h).elim
   refine Wp.ite (fun _=> ?_) fun _=>ay.2 trivial
   refine Wp.ite (fun _=> ?_) fun _=>ay.2 trivial
   refine Wp.ite (fun _=>ay.2 trivial) fun _=>ay.2 trivial
section
variable {t:Int} {R:List bi} {E ev:List Event} {st:List ah}
theorem QU(h:ev.length≤1000000000)(a:Act)(e:Int):zM ⟨⟨t,p,R,E⟩,b,ev,st⟩ a e=some (t,p.al,p.aa,p.ar,p.ax,b.ai,b.aG,b.aB,R,E,b.ab,b.aa,b.ae,st,ev++[⟨t,a,e⟩]):=by
 unfold zM
 rw[c_ (by simp;omega)]
 rfl
theorem Jj(h:st.length≤1000000000){q:ah}(hq:bf q):wC ⟨⟨t,p,R,E⟩,b,ev,st⟩ q=some (t,p.al,p.aa,p.ar,p.ax,b.ai,b.aG,b.aB,R,E,b.ab,b.aa,b.ae,ev,q.al,q.aa,q.ar,q.ax,st++[q]):=by
 unfold wC
 simp only[nK hq,Option.bind_some]
 rw[c_ (by simp;omega)]
 rfl
def u_(b:ak)(t:Int)(q:ah)(R:List bi)(E ev:List Event)(st:List ah):Int×List Bool×List az×List Int×List Part×Int×Int×Int×List bi×List Event×List aI×List Source×List Consumer×List Event×List ah:=(t,q.al,q.aa,q.ar,q.ax,b.ai,b.aG,b.aB,R,E,b.ab,b.aa,b.ae,ev,st)
def Did(b:ak)(t:Int)(p:ah)(a:Act)(ev:List Event)(st:List ah)(q:ah)(ck:List Event)(cR:List ah):Prop:=
 (q=p∧cR=st∧∃e,e≠0∧ck=ev++[⟨t,a,e⟩])∨∃x S,o0 b a x∧q=bT b x∧cR=st++x::S
theorem Io(hb:bL b)(g:Gd b p)(t0:0≤t)(t1:t≤2147483648)(bh:ev.length≤100000000)(bN:st.length≤100000000)(a:Act):Wp (wD ⟨⟨t,p,R,E⟩,b,ev,st⟩ a) fun r=>∃q ck cR,r=u_ b t q R E ck cR∧Gd b q∧ck.length≤ev.length+1000001∧cR.length≤st.length+1000002∧Did b t p a ev st q ck cR:=by
 unfold wD
 refine(O6 hb g.1 t0 t1 a).bind fun r hr=> ?_
 refine Wp.bind (Q:=fun e=>e=0→r.1=0) ?_ fun e he=> ?_
 · refine Wp.ite (fun _=>ay.2 fun h=>by cases h) fun _=>ay.2 fun h=>h
 rw[QU (by omega)]
 simp only[Option.bind_some]
 refine Wp.ite (fun h=>ay.2 ?_) fun h=> ?_
 · exact⟨p,_,st,rfl,g,by simp,by omega,.inl ⟨rfl,rfl,e,by simpa using h,rfl⟩⟩
 have ha:=hr.1 (he (by simpa using h))
 obtain⟨x,hx⟩:∃x:ah,x=⟨r.2.1,r.2.2.1,r.2.2.2.1,r.2.2.2.2⟩:=⟨_,rfl⟩
 rw[←hx] at ha
 have iR:(⟨b.ai,b.ab,b.aa,b.ae,b.aG,b.aB⟩:ak)=b:=rfl
 have hxe:(⟨x.al,x.aa,x.ar,x.ax⟩:ah)=x:=rfl
 rw[←hx,Jj (by omega) ha.1.1]
 simp only[Option.bind_some,iR,hxe,abI hb ha.1.1 ha.1.2]
 have hA:=abL ha.1.2
 have hAl:=abN ha.1.2
 obtain⟨l1,l2,_,_,l5,l6⟩:=gF ha.1.2
 have gq:=agY ha.1
 refine Wp.bind (Q:=fun s=>∃C L ck S,s=(t,p.al,p.aa,p.ar,p.ax,b.ai,b.aG,b.aB,R,E,b.ab,b.aa,b.ae,C,x.aa,L,x.ax,ck,st++x::S)∧bf ⟨C,x.aa,L,x.ax⟩∧ck.length=ev.length+1+(rD b x).length∧S.length=(rD b x).length) ?_ fun s hs=> ?_
 · refine hG (rD b x).length (fun k s=>∃C L ck S,s=((k:Int),t,p.al,p.aa,p.ar,p.ax,b.ai,b.aG,b.aB,R,E,b.ab,b.aa,b.ae,C,x.aa,L,x.ax,ck,st++x::S)∧C.length=b.ab.length∧L.length=b.ae.length∧ck.length=ev.length+1+k∧S.length=k) ⟨x.al,x.ar,_,[],rfl,l1,l6,by simp,rfl⟩ ?_ ?_
   · rintro k s hk ⟨C,L,ck,S,rfl,c1,c2,c3,c4⟩
     unfold Jf
     simp only[aU hk,if_true,aD hk,Option.bind_some]
     rw[QU (by omega)]
     simp only[Option.bind_some]
     have hai:=hA _ (cr hk)
     refine Wp.bind (Q:=fun y=>y.1.length=b.ab.length∧y.2.length=b.ae.length) ?_ fun y hy=> ?_
     · rcases hai with⟨a1,a2,a3⟩|⟨a1,a2,a3⟩
       · rw[a1,if_pos (by decide),eU a2 (by omega),PN a2 (by omega)]
         exact ay.2 ⟨by simpa using c1,c2⟩
       · rw[a1,if_neg (by decide),eU a2 (by omega),PN a2 (by omega)]
         exact ay.2 ⟨c1,by simpa using c2⟩
     have de:bf ⟨y.1,x.aa,y.2,x.ax⟩:=⟨by show y.1.length≤_;omega,ha.1.1.2.1,by show y.2.length≤_;omega,ha.1.1.2.2.2⟩
     rw[Jj (by rw[List.length_append,List.length_cons];omega) de]
     refine ay.2 ⟨y.1,y.2,ck++[⟨t,gt (rD b x) k,0⟩],S++[⟨y.1,x.aa,y.2,x.ax⟩], ?_,hy.1,hy.2,by rw[List.length_append];simp only[List.length_singleton];omega,by rw[List.length_append];simp only[List.length_singleton];omega⟩
     rw[aX (by omega)]
     simp
   · rintro s ⟨C,L,ck,S,rfl,c1,c2,c3,c4⟩
     unfold Jf
     simp only[bA,Bool.false_eq_true,if_false]
     exact ay.2 ⟨C,L,ck,S,rfl,⟨by show C.length≤_;omega,ha.1.1.2.1,by show L.length≤_;omega,ha.1.1.2.2.2⟩,c3,c4⟩
 obtain⟨C,L,ck,S,rfl,c1,c2,c3⟩:=hs
 simp only
 refine(O4 c1).bind fun c _=> ?_
 have uq:(⟨(bT b x).al,(bT b x).aa,(bT b x).ar,(bT b x).ax⟩:ah)=bT b x:=rfl
 refine Wp.bind (Q:=fun s=>∃S',S'.length≤S.length+1∧s=(t,p.al,p.aa,p.ar,p.ax,b.ai,b.aG,b.aB,R,E,b.ab,b.aa,b.ae,(bT b x).al,(bT b x).aa,(bT b x).ar,(bT b x).ax,ck,st++x::S')) ?_ fun s hs=> ?_
 · refine Wp.ite (fun _=> ?_) fun _=>ay.2 ⟨S,by omega,rfl⟩
   rw[uq,Jj (by rw[List.length_append,List.length_cons];omega) gq.1.1]
   exact ay.2 ⟨S++[bT b x],by simp,by simp⟩
 · obtain⟨S',h1,rfl⟩:=hs
   exact ay.2 ⟨bT b x,ck,st++x::S',rfl,gq,by omega,by simp;omega,.inr ⟨x,S',ha,rfl,rfl⟩⟩
end
end
end Rx
namespace Rx
open Classical
section
variable {b:ak} {p:ah}
theorem Hd(hs:Sm b.ab)(hb:bj b){j:Nat}(hj:j<b.aa.length):tK b (j:Int)=some (bk b j:Int):=by
 obtain⟨h1,h2,h3⟩:=Cs hb hj
 have h:=km (step:=wa b.ab (j:Int)) (fun i=>(i:Int)) b.ab.length (fun i=>decide (ft (gt b.ab i) j)) (R:=fun i=> .inr (i:Int)) (e:= .inl ())
  (fun i hi hq=>by
    have hq:¬ft (gt b.ab i) j:=by simpa using hq
    have e:wF (gt b.ab i) (j:Int)=some false:=by
     unfold wF
     unfold ft at hq
     by_cases hk:(gt b.ab i).Kind=2
     · have hB:¬(gt b.ab i).B=(j:Int):=fun h=>hq ⟨hk,h⟩
       simp[hk,hB]
     · simp[hk]
    simp only[wa,aU hi,if_true,aD hi,Option.bind_some,e,Bool.false_eq_true,if_false,aX (cN hs hi)])
  (fun i hi hq=>by
    have hq:ft (gt b.ab i) j:=by simpa using hq
    have e:wF (gt b.ab i) (j:Int)=some true:=by
     unfold wF
     simp[hq.1,hq.2]
    simp only[wa,aU hi,if_true,aD hi,Option.bind_some,e])
  (by simp only[wa,bA,Bool.false_eq_true,if_false])
 rw[T2 h1 (by simpa using h2) fun i hi hq=>h3 i hi (by simpa using hq)] at h
 have h':aC (wa b.ab (j:Int)) 0=_:=h
 unfold tK IU
 rw[h']
 rfl
def vT(t:e_):Prop:=(1≤t.Stop∧t.Stop≤99)∧(t.Stop<t.Start∧t.Start≤100)∧0≤t.lC∧t.lC≤600
theorem zl(t:e_):tL t=some (decide (vT t)):=by
 unfold tL
 by_cases h:vT t
 · obtain⟨⟨h1,h2⟩,⟨h3,h4⟩,h5,h6⟩:=h
   rw[dT (show vT t from⟨⟨h1,h2⟩,⟨h3,h4⟩,h5,h6⟩)]
   simp[h1,h2,h3,h4,h5,h6]
 · rw[dF h]
   by_cases h1:t.Stop≥1
   case neg=>simp[h1]
   by_cases h2:t.Stop≤99
   case neg=>simp[h1,h2]
   by_cases h3:t.Start>t.Stop
   case neg=>simp[h1,h2,h3]
   by_cases h4:t.Start≤100
   case neg=>simp[h1,h2,h3,h4]
   by_cases h5:t.lC≥0
   case neg=>simp[h1,h2,h3,h4,h5]
   by_cases h6:t.lC≤600
   case neg=>simp[h1,h2,h3,h4,h5,h6]
   exact absurd ⟨⟨h1,h2⟩,⟨h3,h4⟩,h5,h6⟩ h
theorem Yi{l:List Int}{a:Int}(hs:Sr l a):Wp (HB ⟨l,a⟩) fun r=>vT ⟨r.1,r.2.1,r.2.2.1⟩∧Sr r.2.2.2.1 r.2.2.2.2:=by
 unfold HB
 refine(kP hs (w:=[60,80,100]) (by simp) (by simp)).bind fun r hr=> ?_
 refine(kP hr.2 (w:=[1,30,50]) (by simp) (by simp)).bind fun r2 Fg=> ?_
 refine(kP Fg.2 (w:=[0,1,3]) (by simp) (by simp)).bind fun r3 Sq=> ?_
 refine ay.2 ⟨?_,Sq.2⟩
 have h1:=hr.1
 have h2:=Fg.1
 have h3:=Sq.1
 simp only[List.mem_cons,List.not_mem_nil,or_false] at h1 h2 h3
 unfold vT
 dsimp only
 omega
theorem RG(hl:dL b)(f:Nat):Sm (cf b p f).ai∧Sm (cf b p f).aa∧Sm (cf b p f).ae:=by
 obtain⟨h1,h2,h3⟩:=pw (b:=b) (p:=p) f
 have:=hl.src
 have:=hl.eN
 have:=hl.ew
 unfold Sm
 omega
def qK(b:ak)(p:ah)(x:aP)(j:Nat):Prop:=(¬(⟨1,(j:Int)⟩:Part)∈p.ax∧¬(⟨2,(bk b j:Int)⟩:Part)∈p.ax∧¬(⟨3,(gt b.ab (bk b j)).A⟩:Part)∈p.ax)∧(gt b.ab (bk b j)).A∈x.ai∧¬(j:Int)∈x.aa∧(gt p.aa j).State≠3
theorem afH(hb:bL b)(hp:bf p)(h:aH b p=0){x:aP}(h1:Sm x.ai)(h2:Sm x.aa){j:Nat}(hj:j<b.aa.length):zQ b p x (j:Int)=some (decide (qK b p x j)):=by
 obtain⟨⟨hl,hg⟩,⟨s1,s2,s3⟩,_⟩:=bG.1 h
 obtain⟨k1,k2,k3⟩:=Cs hg.1 hj
 unfold zQ
 simp only[Hd hb.1 hg.1 hj,Option.bind_some,aD k1,yA hp,contains_eq h1,contains_eq h2,aD (show j<p.aa.length by omega)]
 unfold qK
 by_cases a1:(⟨1,(j:Int)⟩:Part)∈p.ax
 · simp[a1]
 by_cases a2:(⟨2,(bk b j:Int)⟩:Part)∈p.ax
 · simp[a1,a2]
 by_cases a3:(⟨3,(gt b.ab (bk b j)).A⟩:Part)∈p.ax
 · simp[a1,a2,a3]
 by_cases a4:(gt b.ab (bk b j)).A∈x.ai
 case neg=>simp[a1,a2,a3,a4]
 by_cases a5:(j:Int)∈x.aa
 · simp[a1,a2,a3,a4,a5]
 simp only[a1,a2,a3,a4,a5,decide_true,decide_false,Bool.false_eq_true,if_false,if_true,Option.bind_some,Bool.not_false,not_false_eq_true,and_self,true_and]
 congr 1
 by_cases a6:(gt p.aa j).State=3<;>simp[a6]
theorem l3{i:Nat}(h:i<3):((i:Int)<len ([2,1,0]:List Nat))=True:=by
 have:len ([2,1,0]:List Nat)=3:=rfl
 rw[this];simp;omega
def kV(b:ak)(p:ah)(x:aP)(st:Int)(i:Nat):Bool:=decide ((gt p.aa i).State=st∧qK b p x i)
theorem acg(hb:bL b)(hp:bf p)(h:aH b p=0){x:aP}(h1:Sm x.ai)(h2:Sm x.aa)(c:Bool)(st:Int):aC (wG b p (x.ai,x.aa,x.ae,c) st) 0=some (match(List.range p.aa.length).find? (kV b p x st) with|some m=> .inr (.inr (.inr ((m:Int),true)))|none=> .inl ()):=by
 obtain⟨⟨hl,hg⟩,⟨s1,s2,s3⟩,_⟩:=bG.1 h
 have de:=hp.2.1
 have key:∀i,i<p.aa.length→(if((gt p.aa i).State==st)=true then Option.bind (zQ b p (aP.mk x.ai x.aa x.ae) (i:Int)) fun x6=>some x6 else some false)=some (kV b p x st i):=fun i hi=>by
  unfold kV
  by_cases hs:(gt p.aa i).State=st
  · have e:((gt p.aa i).State==st)=true:=by simpa using hs
    rw[e,if_pos rfl,show(aP.mk x.ai x.aa x.ae)=x from rfl,afH hb hp h h1 h2 (by omega),Option.bind_some]
    simp[hs]
  · have e:((gt p.aa i).State==st)=false:=by simpa using hs
    simp[e,hs]
 have hf:=km (step:=wG b p (x.ai,x.aa,x.ae,c) st) (fun i=>(i:Int)) p.aa.length (kV b p x st) (R:=fun i=> .inr (.inr (.inr ((i:Int),true)))) (e:= .inl ())
  (fun i hi hq=>by simp only[wG,aU hi,if_true,aD hi,Option.bind_some,key i hi,hq,Bool.false_eq_true,if_false,aX (cN de hi)])
  (fun i hi hq=>by simp only[wG,aU hi,if_true,aD hi,Option.bind_some,key i hi,hq])
  (by simp only[wG,bA,Bool.false_eq_true,if_false])
 exact hf
def alB(b:ak)(p:ah)(x:aP)(j:Nat):Prop:=j<b.aa.length∧qK b p x j∧∀i,i<b.aa.length→(gt p.aa i).State=2→qK b p x i→(gt p.aa j).State=2∧j≤i
theorem Yu(hb:bL b)(hp:bf p)(h:aH b p=0){k:Int}(h0:0≤k)(h1:k<b.ai):Wp (D5 b p k) fun r=>r.2=true→∃j:Nat,r.1=(j:Int)∧alB b p (aT b p k) j:=by
 obtain⟨⟨hl,hg⟩,⟨s1,s2,s3⟩,_⟩:=bG.1 h
 obtain⟨m1,m2,_⟩:=RG (p:=p) hl (gt (bl b p) k.toNat).toNat
 have ho:mh b p k=some ((aT b p k).ai,(aT b p k).aa,(aT b p k).ae,true):=by
  rw[of_eq hb hp,i_,rH h h0 h1]
 have fS:=fun st=>acg hb hp h (x:=aT b p k) m1 m2 true st
 have hf:=km (step:=wH b p ((aT b p k).ai,(aT b p k).aa,(aT b p k).ae,true)) (fun i=>(i:Int)) 3 (fun q=>((List.range p.aa.length).find? (kV b p (aT b p k) (gt [2,1,0] q))).isSome)
  (R:=fun q=> .inr ((((List.range p.aa.length).find? (kV b p (aT b p k) (gt [2,1,0] q))).getD 0:Nat),true)) (e:= .inl ())
  (fun i hi hq=>by
    have hn:(List.range p.aa.length).find? (kV b p (aT b p k) (gt [2,1,0] i))=none:=by simpa using hq
    simp only[wH,l3 hi,decide_true,if_true,aD (l:=([2,1,0]:List Int)) hi,Option.bind_some,fS,hn,Sum.elim_inl,aX (show i<1000000000000000000 by omega)])
  (fun i hi hq=>by
    obtain⟨m,hm⟩:=Option.isSome_iff_exists.1 hq
    simp only[wH,l3 hi,decide_true,if_true,aD (l:=([2,1,0]:List Int)) hi,Option.bind_some,fS,hm,Sum.elim_inr,Option.getD_some])
  (by simp only[wH,show decide (((3:Nat):Int)<len ([2,1,0]:List Nat))=false from rfl,Bool.false_eq_true,if_false])
 have Th:aC (wH b p ((aT b p k).ai,(aT b p k).aa,(aT b p k).ae,true)) 0=_:=hf
 unfold D5
 rw[ho]
 simp only[Option.bind_some,Bool.not_true,Bool.false_eq_true,if_false]
 rw[Th]
 cases hc:(List.range 3).find? (fun q=>((List.range p.aa.length).find? (kV b p (aT b p k) (gt [2,1,0] q))).isSome) with
 |none=>exact ay.2 (fun h=>by cases h)
 |some q=>
  refine ay.2 fun _=> ?_
  have hq:=List.find?_some (p:=fun q=>((List.range p.aa.length).find? (kV b p (aT b p k) (gt [2,1,0] q))).isSome) hc
  obtain⟨m,hm⟩:=Option.isSome_iff_exists.1 hq
  have m1:=List.mem_range.1 (List.mem_of_find?_eq_some hm)
  have m2:kV b p (aT b p k) (gt [2,1,0] q) m=true:=List.find?_some (p:=kV b p (aT b p k) (gt [2,1,0] q)) hm
  unfold kV at m2
  have m2:=of_decide_eq_true m2
  rw[hm]
  refine⟨m,rfl,by omega,m2.2,fun i hi hs hh=> ?_⟩
  have cq:i<p.aa.length:=by omega
  have h0:((List.range p.aa.length).find? (kV b p (aT b p k) (gt [2,1,0] 0))).isSome=true:=by
   rw[List.find?_isSome]
   exact⟨i,List.mem_range.2 cq,by unfold kV;exact decide_eq_true ⟨hs,hh⟩⟩
  have hq0:q=0:=by
   have hr:(List.range 3)=[0,1,2]:=rfl
   rw[hr,List.find?_cons,h0] at hc
   exact(Option.some.inj hc).symm
  subst hq0
  refine⟨m2.1, ?_⟩
  apply Classical.byContradiction
  intro aQ
  have:=List.find?_range_eq_some.1 hm
  have h5:=this.2.2 i (by omega)
  unfold kV at h5
  simp[hs,hh] at h5
  exact h5 rfl
theorem RH(h:aH b p=0){k:Int}(h0:0≤k)(h1:k<b.ai):(0≤eI p (aT b p k)∧eI p (aT b p k)≤800000)∧0≤bU b (aT b p k)∧bU b (aT b p k)≤400000:=by
 obtain⟨⟨hl,hg⟩,_⟩:=bG.1 h
 have hx:=(ud (p:=p) hg.1 h0 h1).1
 have nz:=acT h hx
 have hr:=abB h hx
 have:=Z6 hr.2
 rw[abz] at this
 have h8:=hr.1
 refine⟨⟨nz.1,nz.2.1⟩, ?_, ?_⟩<;>omega
def XT(b:ak)(p:ah)(t:e_)(x:aP)(j:Nat):Prop:=j<b.aa.length∧(j:Int)∈x.aa∧¬(⟨2,(bk b j:Int)⟩:Part)∈p.ax∧100*eI p x≤t.Stop*(bU b x-(gt b.aa j).df)
theorem Yy(hb:bL b)(hp:bf p)(h:aH b p=0)(t:e_){k:Int}(h0:0≤k)(h1:k<b.ai):Wp (D6 b t p k) fun r=>r.2=true→(vT t∧2≤(aT b p k).aa.length)∧∃j:Nat,r.1=(j:Int)∧XT b p t (aT b p k) j:=by
 obtain⟨⟨hl,hg⟩,⟨s1,s2,s3⟩,_⟩:=bG.1 h
 obtain⟨m1,m2,_⟩:=RG (p:=p) hl (gt (bl b p) k.toNat).toNat
 have m2:Sm (aT b p k).aa:=m2
 have ho:mh b p k=some ((aT b p k).ai,(aT b p k).aa,(aT b p k).ae,true):=by
  rw[of_eq hb hp,i_,rH h h0 h1]
 have lU:qb b p k=some (eI p (aT b p k)):=by rw[ET hb hp,rH h h0 h1]
 have KH:qa b p k=some (bU b (aT b p k)):=by rw[Eg hb hp,rH h h0 h1]
 obtain⟨⟨l1,l2⟩,l3,l4⟩:=RH h h0 h1
 have fS:=(ns hg.1 (ud (p:=p) hg.1 h0 h1).1).2.1
 unfold D6
 rw[ho]
 simp only[Option.bind_some,zl,I0]
 by_cases hv:vT t
 case neg=>simp only[dF hv,Bool.not_false,if_true,Option.bind_some];exact ay.2 (fun h=>by cases h)
 simp only[dT hv,Bool.not_true,Bool.false_eq_true,if_false,Option.bind_some]
 by_cases hlen:len (aT b p k).aa<2
 · simp only[dT hlen,if_true];exact ay.2 (fun h=>by cases h)
 simp only[dF hlen,Bool.false_eq_true,if_false]
 have K_:2≤(aT b p k).aa.length:=by unfold len at hlen;omega
 refine(O3 (step:=Ji b t p k (aT b p k).aa) (fun s=>(s.1+1).toNat) (fun s=> -1≤s.1∧s.1<(aT b p k).aa.length) (Q:=fun r=>match r with| .inl _=>True| .inr r=>r.2=true→∃j:Nat,r.1=(j:Int)∧XT b p t (aT b p k) j) (fun s hs=> ?_) ⟨by unfold len;omega,by unfold len;omega⟩ (by unfold len;unfold Sm at m2;omega)).bind fun r hr=> ?_
 · obtain⟨i,c0,c1⟩:=s
   dsimp only at hs⊢
   unfold Ji
   dsimp only
   by_cases hi:i<0
   · simp only[dT hi,if_true]
     exact ay.2 trivial
   simp only[dF hi,Bool.false_eq_true,if_false]
   obtain⟨q,rfl⟩:=Int.eq_ofNat_of_zero_le (show 0≤i by omega)
   have hq:q<(aT b p k).aa.length:=by omega
   have hm:=cr hq
   obtain⟨n0,n1⟩:=fS _ hm
   obtain⟨j,hj⟩:=Int.eq_ofNat_of_zero_le n0
   have hj:gt (aT b p k).aa q=(j:Int):=hj
   have bZ:j<b.aa.length:=by omega
   rw[aD hq,hj]
   simp only[Option.bind_some,Hd hb.1 hg.1 bZ,yA hp]
   by_cases su:(⟨2,(bk b j:Int)⟩:Part)∈p.ax
   · simp only[dT su,if_true,Option.bind_some,Sum.elim_inl]
     exact ay.2 ⟨⟨by dsimp only;omega,by dsimp only;omega⟩,by dsimp only;omega⟩
   simp only[dF su,Bool.false_eq_true,if_false,KH,lU,Option.bind_some,aD bZ]
   obtain⟨r1,r2⟩:=Ak h bZ
   obtain⟨⟨v1,v2⟩,⟨v3,v4⟩,_⟩:=hv
   have e1:W (bU b (aT b p k)-(gt b.aa j).df)=bU b (aT b p k)-(gt b.aa j).df:=bO (by omega) (by omega)
   have b1: -5000000≤t.Stop*(bU b (aT b p k)-(gt b.aa j).df)∧t.Stop*(bU b (aT b p k)-(gt b.aa j).df)≤40000000:=by
    constructor
    · have:t.Stop*(-50000)≤t.Stop*(bU b (aT b p k)-(gt b.aa j).df):=Int.mul_le_mul_of_nonneg_left (by omega) (by omega)
      omega
    · have:t.Stop*(bU b (aT b p k)-(gt b.aa j).df)≤t.Stop*400000:=Int.mul_le_mul_of_nonneg_left (by omega) (by omega)
      omega
   have e2:W (t.Stop*(bU b (aT b p k)-(gt b.aa j).df))=t.Stop*(bU b (aT b p k)-(gt b.aa j).df):=bO (by omega) (by omega)
   have e3:W (100*eI p (aT b p k))=100*eI p (aT b p k):=bO (by omega) (by omega)
   rw[e1,e2,e3]
   by_cases hle:100*eI p (aT b p k)≤t.Stop*(bU b (aT b p k)-(gt b.aa j).df)
   · simp only[dT hle,if_true,Option.bind_some,Sum.elim_inr]
     refine ay.2 fun _=>⟨j,rfl,bZ,by rw[←hj];exact hm,su,hle⟩
   · simp only[dF hle,Bool.false_eq_true,if_false,Option.bind_some,Sum.elim_inl]
     exact ay.2 ⟨⟨by dsimp only;omega,by dsimp only;omega⟩,by dsimp only;omega⟩
 · cases r with
   |inl r=>exact ay.2 (fun h=>by cases h)
   |inr r=>exact ay.2 fun h=>⟨⟨hv,K_⟩,hr h⟩
def Hi(b:ak)(p:ah)(t:e_)(x:aP):Prop:=vT t∧x.aa≠[]∧t.Start*bU b x<100*eI p x
theorem afe(hb:bL b)(hp:bf p)(h:aH b p=0)(t:e_){k:Int}(h0:0≤k)(h1:k<b.ai):D7 b t p k=some (decide (Hi b p t (aT b p k))):=by
 obtain⟨⟨l1,l2⟩,l3,l4⟩:=RH h h0 h1
 have lU:qb b p k=some (eI p (aT b p k)):=by rw[ET hb hp,rH h h0 h1]
 have KH:qa b p k=some (bU b (aT b p k)):=by rw[Eg hb hp,rH h h0 h1]
 unfold D7 Hi
 by_cases hv:vT t
 case neg=>simp[zl,hv]
 simp only[zl,dT hv,Option.bind_some,if_true,JY hb hp,rH h h0 h1,lU,KH]
 obtain⟨⟨v1,v2⟩,⟨v3,v4⟩,_⟩:=hv
 have b1:0≤t.Start*bU b (aT b p k)∧t.Start*bU b (aT b p k)≤40000000:=by
  constructor
  · exact Int.mul_nonneg (by omega) l3
  · have:t.Start*bU b (aT b p k)≤t.Start*400000:=Int.mul_le_mul_of_nonneg_left l4 (by omega)
    omega
 have e2:W (t.Start*bU b (aT b p k))=t.Start*bU b (aT b p k):=bO (by omega) (by omega)
 have e3:W (100*eI p (aT b p k))=100*eI p (aT b p k):=bO (by omega) (by omega)
 rw[e2,e3]
 have hv:vT t:=⟨⟨v1,v2⟩,⟨v3,v4⟩,by assumption⟩
 by_cases hs:0<(aT b p k).aa.length
 · have lS:(aT b p k).aa≠[]:=List.length_pos_iff.1 hs
   simp only[dT hs,if_true,Option.bind_some]
   congr 1
   rw[decide_eq_decide]
   exact⟨fun h=>⟨hv,lS,h⟩,fun h=>h.2.2⟩
 · have lS:(aT b p k).aa=[]:=List.length_eq_zero_iff.1 (by omega)
   simp[lS]
theorem aaF(a:Int)(c:Bool)(tm:Int):zP a c tm=some (if c=true then(if a= -1 then tm else a) else-1):=by
 unfold zP
 cases c with
 |false=>rfl
 |true=>by_cases h:a= -1<;>simp[h]
def Di(b:ak)(p:ah)(k:Int)(j:Nat):List Act:=if(gt p.aa j).State=0 then [⟨3,j,0⟩] else if(gt p.aa j).State=2 then [⟨6,j,(qZ b p (lead b p k).1).1⟩,⟨1,bk b j,0⟩] else []
theorem start_eq(hb:bL b)(hp:bf p)(h:aH b p=0)(k:Int){j:Nat}(hj:j<b.aa.length):∃c,D3 b p k (j:Int)=some (c,Di b p k j):=by
 obtain⟨⟨hl,hg⟩,⟨s1,s2,s3⟩,_⟩:=bG.1 h
 unfold D3 Di
 simp only[aD (show j<p.aa.length by omega),Option.bind_some]
 by_cases h1:(gt p.aa j).State=0
 · exact⟨false,by simp[h1]⟩
 by_cases h2:(gt p.aa j).State=2
 · refine⟨true, ?_⟩
   have e1:((gt p.aa j).State==0)=false:=by simpa using h1
   have e2:((gt p.aa j).State==2)=true:=by simpa using h2
   rw[if_neg h1,if_pos h2]
   simp only[e1,e2,Bool.false_eq_true,if_false,if_true,J4 hb hp,Uu hb hp,Option.bind_some,Hd hb.1 hg.1 hj]
 · refine⟨false, ?_⟩
   have e1:((gt p.aa j).State==0)=false:=by simpa using h1
   have e2:((gt p.aa j).State==2)=false:=by simpa using h2
   rw[if_neg h1,if_neg h2]
   simp only[e1,e2,Bool.false_eq_true,if_false]
def yQ(tm:Int)(r:bi):Prop:=(-1≤r.nO∧r.nO≤tm)∧-1≤r.nN∧r.nN≤tm
theorem Yl(hb:bL b)(v:eO b p){t:e_}(hv:vT t){k:Int}(h0:0≤k)(h1:k<b.ai){tm:Int}(t0:0≤tm)(t1:tm≤2147483648){r:bi}(hr:yQ tm r):Wp (D4 b t p k tm r) fun x=>yQ tm ⟨x.1,x.2.1⟩∧x.2.2.2.length≤2:=by
 obtain⟨hp,h⟩:=v
 obtain⟨⟨hl,hg⟩,⟨s1,s2,s3⟩,_⟩:=bG.1 h
 obtain⟨⟨hh1,hh2⟩,hh3,hh4⟩:=hr
 unfold D4
 have q1:tM r.nO tm=some true:=by unfold tM;simp[hh1,hh2]
 have q2:tM r.nN tm=some true:=by unfold tM;simp[hh3,hh4]
 simp only[kR hb hp,h,Option.bind_some,bne_self_eq_false,Bool.false_eq_true,if_false,zl,dT hv,Bool.not_true,dF (show ¬tm<0 by omega),dF (show ¬tm>2147483648 by omega),q1,q2,dF (show ¬k<0 by omega),dF (show ¬k≥b.ai by omega)]
 refine(Yy hb hp h t h0 h1).bind fun x7 h7=> ?_
 rw[afe hb hp h t h0 h1]
 simp only[Option.bind_some,aaF]
 refine(Yu hb hp h h0 h1).bind fun aL h11=> ?_
 obtain⟨A,hA,eA⟩:∃A:Int,(-1≤A∧A≤tm)∧(if decide (Hi b p t (aT b p k))=true then(if r.nO= -1 then tm else r.nO) else-1)=A:=⟨_,by split<;>(try split)<;>omega,rfl⟩
 obtain⟨B,hB,eB⟩:∃B:Int,(-1≤B∧B≤tm)∧(if x7.2=true then(if r.nN= -1 then tm else r.nN) else-1)=B:=⟨_,by split<;>(try split)<;>omega,rfl⟩
 have hB1:B≠-1→x7.2=true:=fun hn=>by
  cases hx:x7.2 with
  |true=>rfl
  |false=>rw[hx] at eB;exact(hn eB.symm).elim
 simp only[eA,eB]
 refine Wp.bind (Q:=fun c=>c=true→aL.2=true) ?_ fun c hc=> ?_
 · refine Wp.ite (fun hx=> ?_) fun _=>ay.2 fun e=>by cases e
   refine Wp.ite (fun _=>ay.2 fun _=>hx) fun _=>ay.2 fun _=>hx
 refine Wp.ite (fun hh=> ?_) fun _=> ?_
 · obtain⟨j,ej,hj⟩:=h11 (hc hh)
   obtain⟨cl,hs⟩:=start_eq hb hp h k hj.1
   rw[ej,hs]
   simp only[Option.bind_some]
   refine Wp.bind (Q:=fun y=>yQ tm ⟨y.1,y.2⟩) ?_ fun y hy=>ay.2 ⟨hy, ?_⟩
   · refine Wp.ite (fun _=>ay.2 ⟨⟨by show(-1:Int)≤-1;omega,by show(-1:Int)≤tm;omega⟩,hB⟩) fun _=>ay.2 ⟨hA,hB⟩
   · show(Di b p k j).length≤2
     unfold Di
     split
     · exact Nat.le_succ 1
     · split
       · exact Nat.le_refl 2
       · exact Nat.zero_le 2
 · refine Wp.bind (Q:=fun c=>c=true→x7.2=true) ?_ fun c hc=> ?_
   · refine Wp.ite (fun hn=>ay.2 fun _=>hB1 (by simpa using hn)) fun _=>ay.2 fun e=>by cases e
   refine Wp.ite (fun hh=> ?_) fun _=>ay.2 ⟨⟨hA,hB⟩,Nat.zero_le _⟩
   obtain⟨_,j,ej,hj⟩:=h7 (hc hh)
   rw[ej,Hd hb.1 hg.1 hj.1]
   exact ay.2 ⟨⟨hA,by show(-1:Int)≤-1;omega,by show(-1:Int)≤tm;omega⟩,Nat.le_refl 2⟩
theorem adP{n:Int}(h1:1≤n)(h2:n≤6):Js n=some (List.replicate n.toNat ⟨-1,-1⟩):=by
 rcases(show n=1∨n=2∨n=3∨n=4∨n=5∨n=6 by omega) with rfl|rfl|rfl|rfl|rfl|rfl<;>kernel_rfl
end
end Rx
namespace Rx
open Classical
section
variable {b:ak} {p:ah} {t:e_} {tm:Int} {R:List bi} {E ev:List Event} {st:List ah}
theorem YG(hb:bL b)(g:Gd b p)(t0:0≤tm)(t1:tm≤2147483648)(bh:ev.length≤50000000)(bN:st.length≤50000000){x9:Int×Int×Int×List Act}(hl:x9.2.2.2.length≤2):Wp (aC (DX x9) (0,u_ b tm p R E ev st)) fun r=>∃q ck cR,r=u_ b tm q R E ck cR∧Gd b q∧ck.length≤ev.length+2000002∧cR.length≤st.length+2000004:=by
 refine hG x9.2.2.2.length (fun k s=>∃q ck cR,s=((k:Int),u_ b tm q R E ck cR)∧Gd b q∧ck.length≤ev.length+1000001*k∧cR.length≤st.length+1000002*k) ⟨p,ev,st,rfl,g,Nat.le_add_right _ _,Nat.le_add_right _ _⟩ ?_ ?_
 · rintro k s hk ⟨q,ck,cR,rfl,g',h1,h2⟩
   unfold DX u_
   simp only[aU hk,if_true,aD hk,Option.bind_some]
   refine(Io hb g' t0 t1 (by omega) (by omega) _).bind fun r hr=> ?_
   obtain⟨q2,di,jq,rfl,g2,e1,e2,_⟩:=hr
   have z1:di.length≤ev.length+1000001*(k+1):=Nat.le_trans e1 (by rw[Nat.mul_succ,←Nat.add_assoc];exact Nat.add_le_add_right h1 _)
   have z2:jq.length≤st.length+1000002*(k+1):=Nat.le_trans e2 (by rw[Nat.mul_succ,←Nat.add_assoc];exact Nat.add_le_add_right h2 _)
   exact ay.2 ⟨q2,di,jq,by rw[aX (by omega)];rfl,g2,z1,z2⟩
 · rintro s ⟨q,ck,cR,rfl,g',h1,h2⟩
   unfold DX u_
   simp only[bA,Bool.false_eq_true,if_false]
   exact ay.2 ⟨q,ck,cR,rfl,g',by omega,by omega⟩
def tJ(b:ak)(tm:Int)(q:ah)(R:List bi)(E:List Event)(RR:List bi)(ev:List Event)(st:List ah):Int×List Bool×List az×List Int×List Part×Int×Int×Int×List bi×List Event×List aI×List Source×List Consumer×List bi×List Event×List ah:=(tm,q.al,q.aa,q.ar,q.ax,b.ai,b.aG,b.aB,R,E,b.ab,b.aa,b.ae,RR,ev,st)
def j8(b:ak)(tm:Int)(R:List bi):Prop:=(R.length:Int)=b.ai∧∀r∈R,yQ tm r
theorem Yq(hb:bL b)(hv:vT t)(g:Gd b p)(t0:0≤tm)(t1:tm≤2147483648)(hR:j8 b tm R)(bh:ev.length≤10000000)(bN:st.length≤10000000):Wp (DY ⟨⟨tm,p,R,E⟩,b,ev,st⟩ t) fun r=>∃q RR ck cR,r=tJ b tm q R E RR ck cR∧Gd b q∧j8 b tm RR∧ck.length≤30000000∧cR.length≤30000000:=by
 obtain⟨⟨hl,hg⟩,_⟩:=bG.1 g.1.2
 have iD:=hl.ew
 have je:=rR (b:=b) (p:=p)
 unfold DY
 simp only[adP iD.1 iD.2,xn hb g.1.1 g.1.2,Option.bind_some]
 refine Wp.bind (Q:=fun r=>∃q RR ck cR,r=tJ b tm q R E RR ck cR∧Gd b q∧j8 b tm RR∧ck.length≤30000000∧cR.length≤30000000) ?_ fun r hr=>ay.2 hr
 refine hG (aE b p).length (fun k s=>∃q RR ck cR,s=((k:Int),tJ b tm q R E RR ck cR)∧Gd b q∧j8 b tm RR∧ck.length≤10000000+2000002*k∧cR.length≤10000000+2000004*k) ⟨p,_,ev,st,rfl,g,⟨by rw[List.length_replicate];omega,fun r hr=> ?_⟩,Nat.le_trans bh (Nat.le_add_right _ _),Nat.le_trans bN (Nat.le_add_right _ _)⟩ ?_ ?_
 · rw[List.eq_of_mem_replicate hr]
   exact⟨⟨by show(-1:Int)≤-1;omega,by show(-1:Int)≤tm;omega⟩,by show(-1:Int)≤-1;omega,by show(-1:Int)≤tm;omega⟩
 · rintro k s hk ⟨q,RR,ck,cR,rfl,g',uR,h1,h2⟩
   have hx:=cr hk
   obtain⟨p1,p2,p3,p4,p5⟩:=ns hg.1 hx
   have hbm:=cr p5
   obtain⟨b0,b1,_⟩:=J9 hx hbm
   obtain⟨j,hj⟩:=Int.eq_ofNat_of_zero_le b0
   have hj:gt (gt (aE b p) k).ai 0=(j:Int):=hj
   rw[hj] at b0 b1
   have FM:=hR.1
   have agl:=uR.1
   unfold Je tJ
   simp only[aU hk,if_true,aD hk,Option.bind_some,show idx (gt (aE b p) k).ai 0=some (j:Int) by rw[←hj];exact aD p5]
   refine Wp.bind (Q:=fun s=>∃q RR di jq,s=tJ b tm q R E RR di jq∧Gd b q∧j8 b tm RR∧di.length≤ck.length+2000002∧jq.length≤cR.length+2000004) ?_ fun s hs=> ?_
   · refine Wp.bind (Q:=fun _=>True) ?_ fun c _=> ?_
     · refine Wp.ite (fun _=>ay.2 trivial) fun _=> ?_
       rw[JY hb g'.1.1]
       exact ay.2 trivial
     refine Wp.ite (fun _=>ay.2 ⟨q,RR,ck,cR,rfl,g',uR,by omega,by omega⟩) fun _=> ?_
     simp only[aD (show j<R.length by omega),aD (show j<RR.length by omega),fM (show j<RR.length by omega),Option.bind_some]
     refine(Yl hb g'.1 hv b0 (show(j:Int)<b.ai by omega) t0 t1 (hR.2 _ (cr (show j<R.length by omega)))).bind fun x9 h9=> ?_
     refine(YG hb g' t0 t1 (by omega) (by omega) h9.2).bind fun r hr=> ?_
     obtain⟨q2,di,jq,rfl,g2,e1,e2⟩:=hr
     refine ay.2 ⟨q2,RR.set j ⟨x9.1,x9.2.1⟩,di,jq,rfl,g2,⟨by rw[List.length_set];exact agl,fun r hr=> ?_⟩,e1,e2⟩
     obtain⟨i,hi,rfl⟩:=jO hr
     rw[dI (show j<RR.length by omega)]
     split
     · exact h9.1
     · exact uR.2 _ (cr (by simpa using hi))
   · obtain⟨q2,RR2,di,jq,rfl,g2,hR2,e1,e2⟩:=hs
     have z1:di.length≤10000000+2000002*(k+1):=Nat.le_trans e1 (by rw[Nat.mul_succ,←Nat.add_assoc];exact Nat.add_le_add_right h1 _)
     have z2:jq.length≤10000000+2000004*(k+1):=Nat.le_trans e2 (by rw[Nat.mul_succ,←Nat.add_assoc];exact Nat.add_le_add_right h2 _)
     exact ay.2 ⟨q2,RR2,di,jq,by rw[aX (by omega)];rfl,g2,hR2,z1,z2⟩
 · rintro s ⟨q,RR,ck,cR,rfl,g',uR,h1,h2⟩
   unfold Je tJ
   simp only[bA,Bool.false_eq_true,if_false]
   exact ay.2 ⟨q,RR,ck,cR,rfl,g',uR,by omega,by omega⟩
theorem adF{r:bi}(hr:yQ tm r)(a2:List Bool)(a3:List az)(a4:List Int)(a5:List Part)(a6:List bi)(a7:List Event):Em r tm a2 a3 a4 a5 a6 a7=some (false,tm,a2,a3,a4,a5,a6,a7):=by
 obtain⟨⟨h1,h2⟩,h3,h4⟩:=hr
 unfold Em En
 simp only[dT (show r.nO≥-1 from h1),dT h2,dT (show r.nN≥-1 from h3),dT h4,if_true,Option.bind_some,Bool.not_true,Bool.false_eq_true,if_false]
theorem Qu(hb:bL b)(hv:vT t)(g:Gd b p)(t0:0≤tm)(t1:tm≤2147483648)(hR:j8 b tm R):Ap b t ⟨tm,p,R,E⟩=some 0:=by
 obtain⟨⟨hl,hg⟩,_⟩:=bG.1 g.1.2
 have iD:=hl.ew
 have FM:=hR.1
 unfold Ap
 obtain⟨c,h1,h2⟩:=O4 (p:=p) (q:=p) g.1.1
 have hc:=h2 rfl
 subst hc
 have kA:(⟨p.al,p.aa,p.ar,p.ax⟩:ah)=p:=rfl
 have ln:DG R tm p.al p.aa p.ar p.ax R E=some (false,tm,p.al,p.aa,p.ar,p.ax,R,E):=by
  have h:=dP (step:=zA R) (r:= .inl (tm,p.al,p.aa,p.ar,p.ax,R,E)) (fun k=>((k:Int),tm,p.al,p.aa,p.ar,p.ax,R,E)) R.length (fun k hk=>by
   unfold zA
   simp only[aU hk,if_true,aD hk,Option.bind_some,adF (hR.2 _ (cr hk)),Bool.false_eq_true,if_false]
   rw[aX (by omega)]) (by
   unfold zA
   simp only[bA,Bool.false_eq_true,if_false]) (by omega)
  have h':aC (zA R) (0,tm,p.al,p.aa,p.ar,p.ax,R,E)=_:=h
  unfold DG IR
  rw[h']
  rfl
 simp only[follow_eq hb g.1.1 g.1.2,g.2,Option.bind_some,bne_self_eq_false,Bool.false_eq_true,if_false,zl,dT hv,Bool.not_true,dF (show ¬tm<0 by omega),dF (show ¬tm>2147483648 by omega),Ho (show len R=b.ai from FM),kA,h1,ln]
theorem MZ{α:Type}{l:List α}(h:l.length≤1000000000):bD [] l=some l:=c_ (by simp;omega)
theorem adj(h:st.length≤1000000000){q:ah}(hq:bf q):DZ ⟨⟨tm,p,R,E⟩,b,ev,st⟩ q=some (tm,b.ai,b.aG,b.aB,p.al,p.aa,p.ar,p.ax,R,E,b.ab,b.aa,b.ae,ev,st++[q]):=by
 unfold DZ
 simp only[nK hq,Option.bind_some]
 rw[c_ (by simp;omega)]
 rfl
theorem adk(h:st.length≤1000000000){q:ah}(hq:bf q):zN ⟨⟨tm,p,R,E⟩,b,ev,st⟩ q=some (tm,p.al,p.aa,p.ar,p.ax,b.ai,b.aG,b.aB,R,E,b.ab,b.aa,b.ae,ev,st++[q]):=by
 unfold zN
 simp only[nK hq,Option.bind_some]
 rw[c_ (by simp;omega)]
 rfl
theorem Xr(hp:bf p)(hR:R.length≤1000)(hE:E.length≤1000):Ao b ⟨tm,p,R,E⟩=some (b.ab,b.aa,b.ae,E,tm,b.ai,b.aG,b.aB,p.al,p.aa,p.ar,p.ax,R,E):=by
 unfold Ao IX zG
 simp only[nK hp,Option.bind_some,MZ (show R.length≤1000000000 by omega),MZ (show E.length≤1000000000 by omega)]
def zm(b:ak)(tm:Int)(q:ah)(R:List bi)(E ev:List Event)(st:List ah):List aI×List Source×List Consumer×Int×List Bool×List az×List Int×List Part×Int×Int×Int×List bi×List Event×List Event×List ah:=(b.ab,b.aa,b.ae,tm,q.al,q.aa,q.ar,q.ax,b.ai,b.aG,b.aB,R,E,ev,st)
theorem Yh(hb:bL b)(g:Gd b p)(t0:0≤tm)(t1:tm≤2147483648){l:List Act}(hl:l.length≤8)(bN:st.length≤10)(bh:ev.length≤10):Wp (aC (Ej l) (0,zm b tm p R E ev st)) fun r=>∃q ck cR,r=zm b tm q R E ck cR∧Gd b q∧ck.length≤9000000∧cR.length≤9000000:=by
 refine hG l.length (fun k s=>∃q ck cR,s=((k:Int),zm b tm q R E ck cR)∧Gd b q∧ck.length≤10+1000001*k∧cR.length≤10+1000002*k) ⟨p,ev,st,rfl,g,Nat.le_trans bh (Nat.le_add_right _ _),Nat.le_trans bN (Nat.le_add_right _ _)⟩ ?_ ?_
 · rintro k s hk ⟨q,ck,cR,rfl,g',h1,h2⟩
   unfold Ej zm
   simp only[aU hk,if_true,aD hk,Option.bind_some]
   refine(Io hb g' t0 t1 (by omega) (by omega) _).bind fun r hr=> ?_
   obtain⟨q2,di,jq,rfl,g2,e1,e2,_⟩:=hr
   have z1:di.length≤10+1000001*(k+1):=Nat.le_trans e1 (by rw[Nat.mul_succ,←Nat.add_assoc];exact Nat.add_le_add_right h1 _)
   have z2:jq.length≤10+1000002*(k+1):=Nat.le_trans e2 (by rw[Nat.mul_succ,←Nat.add_assoc];exact Nat.add_le_add_right h2 _)
   exact ay.2 ⟨q2,di,jq,by rw[aX (by omega)];rfl,g2,z1,z2⟩
 · rintro s ⟨q,ck,cR,rfl,g',h1,h2⟩
   unfold Ej zm
   simp only[bA,Bool.false_eq_true,if_false]
   exact ay.2 ⟨q,ck,cR,rfl,g',by omega,by omega⟩
theorem j8.adf{Pf:Int}(h:j8 b tm R)(hle:tm≤Pf):j8 b Pf R:=⟨h.1,fun r hr=>by
 obtain⟨⟨h1,h2⟩,h3,h4⟩:=h.2 r hr
 exact⟨⟨h1,by omega⟩,h3,by omega⟩⟩
theorem Ym(hb:bL b)(hv:vT t)(g:Gd b p)(t0:0≤tm)(t1:tm≤1000000)(hR:j8 b tm R)(hE:E.length≤200){l:List Act}(hl:l.length≤8):Wp (Ek b t ⟨tm,p,R,E⟩ l) fun r=>∃q RR E' x y,r=(tm+1,q.al,q.aa,q.ar,q.ax,0,b.ab,b.aa,b.ae,x,y,RR,E',r.2.2.2.2.2.2.2.2.2.2.2.2.2)∧Gd b q∧j8 b (tm+1) RR∧E'.length≤200:=by
 obtain⟨⟨Bc,hg⟩,_⟩:=bG.1 g.1.2
 have iD:=Bc.ew
 have FM:=hR.1
 unfold Ek
 refine Wp.bind (Q:=fun r=>∃q RR E' x y z w,r=(0,b.ab,b.aa,b.ae,x,y,tm+1,q.al,q.aa,q.ar,q.ax,b.ai,b.aG,b.aB,RR,E',z,w)∧Gd b q∧j8 b (tm+1) RR∧E'.length≤200) ?_ fun r hr=> ?_
 case refine_2=>
  obtain⟨q,RR,E',x,y,z,w,rfl,h1,h2,h3⟩:=hr
  exact ay.2 ⟨q,RR,E',x,y,rfl,h1,h2,h3⟩
 unfold Jr
 have iR:(⟨b.ai,b.ab,b.aa,b.ae,b.aG,b.aB⟩:ak)=b:=rfl
 simp only[Qu hb hv g t0 (by omega) hR,Option.bind_some,bne_self_eq_false,Bool.false_eq_true,if_false,dF (show ¬len l>200 by unfold len;omega),bW (show tm≠2147483648 by omega),Xr g.1.1 (show R.length≤1000 by omega) (show E.length≤1000 by omega)]
 rw[adj (by simp) g.1.1]
 simp only[Option.bind_some]
 refine(Yh (ev:=[]) (st:=[]++[p]) hb g t0 (by omega) hl (by simp) (by simp)).bind fun r hr=> ?_
 obtain⟨q,ck,cR,rfl,g1,e1,e2⟩:=hr
 refine(Yq (p:=q) (R:=R) (E:=E) (ev:=ck) (st:=cR) hb hv g1 t0 (by omega) hR (by omega) (by omega)).bind fun r hr=> ?_
 obtain⟨q2,RR,di,jq,rfl,g2,uR,e3,e4⟩:=hr
 refine(O6 (p:=q2) hb g2.1 t0 (show tm≤2147483648 by omega) ⟨7,0,0⟩).bind fun r hr=> ?_
 obtain⟨r0,r1⟩:=hr.2 rfl
 obtain⟨q3,KM⟩:∃q:ah,q=⟨r.2.1,r.2.2.1,r.2.2.2.1,r.2.2.2.2⟩:=⟨_,rfl⟩
 have a3:=(hr.1 r0).1
 have f3:=r1 g2.2
 rw[←KM] at a3 f3
 have f4:cE b q3=q3.aa:=by rw[f3,KM]
 have k16:=adk (tm:=tm) (p:=q3) (R:=RR) (E:=E) (b:=b) (ev:=di) (st:=jq) (by omega) a3.1
 have ado:zN ⟨⟨(tJ b tm q2 R E RR di jq).1,⟨r.2.1,r.2.2.1,r.2.2.2.1,r.2.2.2.2⟩,RR,E⟩,⟨b.ai,b.ab,b.aa,b.ae,b.aG,b.aB⟩,di,jq⟩ ⟨r.2.1,r.2.2.1,r.2.2.2.1,r.2.2.2.2⟩=some (tm,q3.al,q3.aa,q3.ar,q3.ax,b.ai,b.aG,b.aB,RR,E,b.ab,b.aa,b.ae,di,jq++[q3]):=by rw[←KM];exact k16
 refine Wp.p_ ado ?_
 simp only
 rw[c_ (by omega)]
 simp only[Option.bind_some]
 have hL:(E++di).length=E.length+di.length:=List.length_append
 obtain⟨n,hn,KU,hn3⟩:∃n:Nat,imax 0 (W (len (E++di)-200))=(n:Int)∧n≤(E++di).length∧(E++di).length-n≤200:=by
  rw[bO (by unfold len;omega) (by unfold len;omega)]
  refine⟨(imax 0 (len (E++di)-200)).toNat, ?_, ?_, ?_⟩<;>(unfold imax len;split<;>omega)
 rw[hn,PI KU]
 simp only[Option.bind_some,zG]
 rw[MZ (by rw[List.length_drop];omega)]
 rw[Option.bind_some,bO (show-1000000000000000000≤tm+1 by omega) (by omega)]
 exact ay.2 ⟨q3,RR,(E++di).drop n,E,l,_,_,rfl,⟨a3,f4⟩,uR.adf (by omega),by rw[List.length_drop];omega⟩
end
end Rx
namespace Rx
section
variable {b:ak} {p:ah} {x:aP} {l:List Int} {a e:Int} {A:List Act}
theorem abK(h:aH b p=0)(hx:x∈aE b p){i:Nat}(hi:i<(bP b x).length):oS b p (lL b p) (bP b x) i=false:=by
 have hr:=Jg h hx
 have hO:=PK h hx
 have dz:=wv h
 obtain⟨hm,_⟩:=hr.at hi
 have hf:∀c∈x.ae,(iS b (lL b p) c).2= !decide (c∈(fC b p).2.1):=fun c hc=>ahF h dz hx hc
 have iR:∀c∈(bP b x).take i,c∈x.ae∧rb b c (gt (bP b x) i):=fun c hc=>by
  obtain⟨j,hj,rfl⟩:=(aco (by omega)).1 hc
  exact⟨(hr.at (i:=j) (by omega)).1,QB hj hi⟩
 have hL:(lL b p).ar=(fC b p).1:=rfl
 unfold oS
 rw[hL,hf _ hm]
 by_cases hs:x.aa=[]
 · obtain⟨k1,k2⟩:=hO.1 hs _ hm
   rw[k1,dF (by omega),decide_eq_false k2]
   rfl
 have hS:=hO.2 hs
 have S7:(gt (fC b p).1 (gt (bP b x) i).toNat<gt p.ar (gt (bP b x) i).toNat∨gt (bP b x) i∈(fC b p).2.1)→((bP b x).take i).any (pS b (lL b p))=false:=fun hh=>List.any_eq_false.2 fun c hc Lv=>by
  obtain⟨c1,c2⟩:=iR c hc
  unfold pS at Lv
  simp only[Bool.and_eq_true,decide_eq_true_eq,hL] at Lv
  have:=Lv.2
  rcases hh with g|g
  · have:=hS.acL hr c1 hm c2 g
    omega
  · have:=hS.low hm g c1
    omega
 by_cases hT:gt (bP b x) i∈(fC b p).2.1
 · have h2:((bP b x).take i).any (pP b (lL b p))=false:=List.any_eq_false.2 fun c hc Lp=>by
    obtain⟨c1,c2⟩:=iR c hc
    unfold pP at Lp
    simp only[Bool.and_eq_true,decide_eq_true_eq,hL,hf c c1,Bool.not_eq_true',decide_eq_false_iff_not] at Lp
    rcases hS.abZ hr c1 hm c2 hT with g|g
    · exact Lp.1 g
    · omega
   rw[S7 (.inr hT),h2,Bool.and_false,Bool.and_false]
   rfl
 · rw[decide_eq_false hT]
   simp only[Bool.not_false,Bool.not_true,Bool.or_false,Bool.false_and]
   by_cases hl:gt (fC b p).1 (gt (bP b x) i).toNat<gt p.ar (gt (bP b x) i).toNat
   · rw[S7 (.inl hl),Bool.and_false]
   · rw[dF hl,Bool.false_and]
theorem abM(hp:bf p)(h:aH b p=0):X1 b (et b p) (bT b p):=by
 have h1:=nU h
 have dz:=wv h1
 refine⟨⟨⟨⟨fun k _ hc=>wY hc,fun k hk=>(dz.le k hk).2⟩,rfl,rfl⟩,fun k _=>QV h1 _⟩,fun x hx i hi=>abK h1 hx hi⟩
theorem ac7{kind j:Int}(hf:(cB b p kind j).2=true):∃k,k<b.ab.length∧gb b p kind j k=true∧(cB b p kind j).1=(gt b.ab k).A:=by
 unfold cB at hf⊢
 cases Lw:(List.range b.ab.length).find? (gb b p kind j) with
 |none=>rw[Lw] at hf;simp at hf
 |some k=>exact⟨k,List.mem_range.1 (List.mem_of_find?_eq_some Lw),List.find?_some Lw,rfl⟩
theorem ac8{kind j:Int}{k:Nat}:gb b p kind j k=true↔(gt b.ab k).Kind=kind∧(gt b.ab k).B=j∧gt p.al k=true:=by
 unfold gb
 simp only[Bool.and_eq_true,beq_iff_eq,and_assoc]
end
section
open Classical
variable {b:ak} {p q:ah} {l:List Int} {a:Int}
theorem Ys(hs:Sr l a)(hb:m9 b):Wp (HE ⟨l,a⟩ b) fun r=>∃tm l a q R,r=(tm,l,a,b.ab,b.aa,b.ae,q.al,q.aa,q.ar,q.ax,R)∧Sr l a∧Gd b q∧(5≤tm∧tm≤20)∧j8 b tm R:=by
 have iD:=hb.fO.ew
 unfold HE
 refine(tA hs (by omega) (by omega) (by omega) (by omega)).bind fun r1 h1=> ?_
 refine(YA h1.2 hb).bind fun r2 h2=> ?_
 obtain⟨l2,a2,q,rfl,k1,k2,k3,k4⟩:=h2
 refine Wp.bind (Q:=fun r=>∃l a R,r=(l,a,r1.1,R)∧Sr l a∧j8 b r1.1 R) ?_ fun r hr=> ?_
 · refine hG b.ai.toNat (fun k s=>∃l a R,s=((k:Int),l,a,r1.1,R)∧Sr l a∧R.length=k∧∀r∈R,yQ r1.1 r) ⟨l2,a2,[],rfl,k1,rfl,fun r hr=>(by cases hr)⟩ ?_ ?_
   · rintro k s hk ⟨l,a,R,rfl,e1,e2,e3⟩
     unfold N4
     simp only[dT (show(k:Int)<b.ai by omega),if_true]
     refine(tA e1 (by omega) (by omega) (by omega) (by omega)).bind fun r4 h4=> ?_
     refine(tA h4.2 (by omega) (by omega) (by omega) (by omega)).bind fun r5 h5=> ?_
     rw[c_ (by simp;omega)]
     simp only[Option.bind_some]
     refine ay.2 ⟨_,_,R++[⟨r4.1,r5.1⟩],by rw[aX (by omega)],h5.2,by rw[List.length_append,e2];rfl,fun r hr=> ?_⟩
     rcases List.mem_append.1 hr with hr|hr
     · exact e3 r hr
     · rw[List.mem_singleton.1 hr]
       have:=h1.1
       exact⟨⟨h4.1.1,by have:=h4.1.2;show r4.1≤_;omega⟩,h5.1.1,by have:=h5.1.2;show r5.1≤_;omega⟩
   · rintro s ⟨l,a,R,rfl,e1,e2,e3⟩
     unfold N4
     simp only[dF (show ¬((b.ai.toNat:Nat):Int)<b.ai by omega),Bool.false_eq_true,if_false]
     exact ay.2 ⟨l,a,R,rfl,e1,by omega,e3⟩
 · obtain⟨l,a,R,rfl,e1,e2⟩:=hr
   exact ay.2 ⟨r1.1,l,a,q,R,rfl,e1,⟨⟨k2,k3⟩,k4⟩,h1.1,e2⟩
theorem YH(hs:Sr l a)(hb:dL b):Wp (HJ ⟨l,a⟩ b) fun r=>Sr r.2.2.2.1 r.2.2.2.2.1∧r.2.2.2.2.2=(b.ab,b.aa,b.ae):=by
 have h1:=hb.b_
 have h2:=hb.src
 have h3:=hb.eN
 have h4:=hb.ew
 have w1:W (len b.ab+1)=len b.ab+1:=bO (by unfold len;omega) (by unfold len;omega)
 have w2:W (len b.aa+1)=len b.aa+1:=bO (by unfold len;omega) (by unfold len;omega)
 have w3:W (len b.ae+1)=len b.ae+1:=bO (by unfold len;omega) (by unfold len;omega)
 have w4:W (b.ai+1)=b.ai+1:=bO (by omega) (by omega)
 have n1:∀{l:List Int} {a:Int},Sr l a→∀{n:Int},1≤n→n≤1000→Wp (fk ⟨l,a⟩ n) fun r=>Sr r.2.1 r.2.2:=fun hs n h h'=>(iI hs h (by omega)).mono fun _ h=>h.2
 unfold HJ
 simp only[w1,w2,w3,w4]
 refine(tA hs (by omega) (by omega) (by omega) (by omega)).bind fun x1 g1=> ?_
 have g1:=g1.2
 have lb:(1:Int)≤len b.ab+1∧len b.ab+1≤1000:=by unfold len;omega
 have ls:(1:Int)≤len b.aa+1∧len b.aa+1≤1000:=by unfold len;omega
 have lc:(1:Int)≤len b.ae+1∧len b.ae+1≤1000:=by unfold len;omega
 refine Wp.bind (Q:=fun _=>True) ?_ fun c _=> ?_
 · exact Wp.ite (fun _=>ay.2 trivial) fun _=>ay.2 trivial
 refine Wp.bind (Q:=fun(r:List Int×Int×Int×Int×Int)=>Sr r.1 r.2.1) ?_ fun r hr=>ay.2 ⟨hr,rfl⟩
 refine Wp.ite (fun _=>(n1 g1 lb.1 lb.2).bind fun x h=>ay.2 h) fun _=> ?_
 refine Wp.bind (Q:=fun _=>True) ?_ fun c _=> ?_
 · exact Wp.ite (fun _=>ay.2 trivial) fun _=>ay.2 trivial
 refine Wp.bind (Q:=fun(r:List Int×Int×Int×Int×Int)=>Sr r.1 r.2.1) ?_ fun r hr=>ay.2 hr
 refine Wp.ite (fun _=>(n1 g1 ls.1 ls.2).bind fun x h=>ay.2 h) fun _=> ?_
 refine Wp.bind (Q:=fun(r:List Int×Int×Int×Int×Int)=>Sr r.1 r.2.1) ?_ fun r hr=>ay.2 hr
 refine Wp.ite (fun _=>(n1 g1 lc.1 lc.2).bind fun x h=>(kP h (w:=[0,5,20,41]) (by simp) (by simp)).bind fun y hy=>ay.2 hy.2) fun _=> ?_
 refine Wp.bind (Q:=fun(r:List Int×Int×Int×Int×Int)=>Sr r.1 r.2.1) ?_ fun r hr=>ay.2 hr
 refine Wp.ite (fun _=>(n1 g1 ls.1 ls.2).bind fun x h=>(n1 h (by omega) (by omega)).bind fun y hy=>ay.2 hy) fun _=> ?_
 refine Wp.bind (Q:=fun _=>True) ?_ fun c _=> ?_
 · exact Wp.ite (fun _=>ay.2 trivial) fun _=>ay.2 trivial
 refine Wp.bind (Q:=fun(r:List Int×Int×Int×Int×Int)=>Sr r.1 r.2.1) ?_ fun r hr=>ay.2 hr
 refine Wp.ite (fun _=>(tA g1 (by omega) (by omega) (by omega) (by omega)).bind fun x h=>(n1 h.2 (by omega) (by omega)).bind fun y hy=>ay.2 hy) fun _=>ay.2 g1
theorem YF(hs:Sr l a)(hb:dL b):Wp (HI ⟨l,a⟩ b 4) fun r=>∃l a A,r=(l,a,b.ab,b.aa,b.ae,A)∧Sr l a∧A.length≤8:=by
 unfold HI
 rw[show W (4+1)=5 from rfl]
 refine(iI hs (by omega) (by omega)).bind fun x1 h1=> ?_
 obtain⟨⟨h0,h5⟩,uk⟩:=h1
 obtain⟨n,hn⟩:=Int.eq_ofNat_of_zero_le h0
 have hn:x1.1=(n:Int):=hn
 rw[hn]
 refine Wp.bind (Q:=fun r=>∃A l a,r=(A,l,a,b.ab,b.aa,b.ae)∧Sr l a∧A.length≤8) ?_ fun r hr=> ?_
 · refine hG n (fun k s=>∃A l a,s=(((n-k:Nat):Int),A,l,a,b.ab,b.aa,b.ae)∧Sr l a∧A.length≤k) ⟨[],_,_,rfl,uk,Nat.zero_le _⟩ ?_ ?_
   · rintro k s hk ⟨A,l,a,rfl,e1,e2⟩
     unfold N8
     simp only[dT (show((n-k:Nat):Int)>0 by omega),if_true]
     refine(YH (b:=b) e1 hb).bind fun r hr=> ?_
     obtain⟨r1,r2⟩:=hr
     rw[c_ (by simp;omega)]
     simp only[Option.bind_some,r2]
     refine ay.2 ⟨A++[⟨r.1,r.2.1,r.2.2.1⟩],_,_, ?_,r1,by rw[List.length_append];exact Nat.succ_le_succ e2⟩
     rw[qc (show n-k<1000000000000000000 by omega) (by omega),Nat.sub_sub]
   · rintro s ⟨A,l,a,rfl,e1,e2⟩
     unfold N8
     simp only[dF (show ¬((n-n:Nat):Int)>0 by omega),Bool.false_eq_true,if_false]
     exact ay.2 ⟨A,l,a,rfl,e1,by omega⟩
 · obtain⟨A,l,a,rfl,e1,e2⟩:=hr
   exact ay.2 ⟨l,a,A,rfl,e1,e2⟩
theorem abJ(h:aH b p=0){j:Nat}(hj:j<p.aa.length):(gt (bT b p).aa j).State=(gt p.aa j).State:=by
 show(gt (cE b (p6 b p)) j).State=_
 rw[oI (p:=p6 b p) hj]
 exact TP j
theorem Xh{k n:Int}(h:(⟨k,n⟩:Part)∈p.ax):b_ p k n=true:=er h
theorem QN(hC:Clean b q){u:Int}(hu:(⟨3,u⟩:Part)∈q.ax){i:Nat}(hi:i<b.ab.length)(hc:gt q.al i=true):(gt b.ab i).A≠u∧((gt b.ab i).Kind=1→(gt b.ab i).B≠u):=by
 have hd:=hC.fj i hi hc
 unfold Rx.fj at hd
 rw[Bool.or_eq_false_iff] at hd
 refine⟨fun e=> ?_,fun k1 e=> ?_⟩
 · rw[e,Xh hu] at hd
   exact Bool.noConfusion hd.1
 · have hd:=hd.2
   rw[if_pos k1,e,Xh hu] at hd
   cases hd
theorem akT(hg:bj b)(hC:Clean b q){u c:Nat}(hu:(⟨3,(u:Int)⟩:Part)∈q.ax)(qG:u<b.ai.toNat)(cg:c<b.ai.toNat)(he:gt (bl b q) u=gt (bl b q) c):c=u:=by
 have jg:=(Mh hg qG cg).1 he
 cases jg with
 |refl=>rfl
 |step h _=>
  obtain⟨k,hk,k1,k2,k3⟩:=h
  obtain⟨o1,o2⟩:=QN hC hu hk k2
  rcases k3 with⟨e,_⟩|⟨_,e⟩
  · exact(o1 e).elim
  · exact(o2 k1 e).elim
theorem Xe(hg:bj b)(hC:Clean b q){u:Nat}(hu:(⟨3,(u:Int)⟩:Part)∈q.ax)(qG:u<b.ai.toNat){kind j:Int}(hl:(cB b q kind j).2=true):gt (bl b q) (cB b q kind j).1.toNat≠gt (bl b q) u:=fun he=>by
 have kE:=EW hg hl
 have:=akT hg hC hu qG (c:=(cB b q kind j).1.toNat) (by omega) he.symm
 obtain⟨k,hk,hat,hA⟩:=ac7 hl
 have:=(QN hC hu hk (ac8.1 hat).2.2).1
 omega
theorem akS(h:aH b q=0)(hC:Clean b q){u:Int}(hu:(⟨3,u⟩:Part)∈q.ax){y:aP}(hy:y∈aE b q)(hm:u∈y.ai):y.aa=[]∧y.ae=[]:=by
 obtain⟨⟨_,hg⟩,_⟩:=bG.1 h
 obtain⟨f,hf,rfl,_⟩:=oh.1 hy
 obtain⟨i,hi,SZ,rfl⟩:=w_.1 hm
 refine⟨List.eq_nil_iff_forall_not_mem.2 fun s hs=> ?_,List.eq_nil_iff_forall_not_mem.2 fun s hs=> ?_⟩
 · obtain⟨j,hj,h1,h2,rfl⟩:=Ax.1 hs
   have e:conn b q (j:Int)=cB b q 2 (j:Int):=by
    unfold conn at h1⊢
    split at h1
    · split at h1
      · rename_i e1 e2
        rw[if_pos e1,if_pos e2]
      · cases h1
    · cases h1
   rw[e] at h1 h2
   exact Xe hg.1 hC hu hi h1 (h2.trans SZ.symm)
 · obtain⟨j,hj,h1,h2,rfl⟩:=w9.1 hs
   exact Xe hg.1 hC hu hi h1 (h2.trans SZ.symm)
theorem aam(h:aH b q=0){y:aP}(hy:y∈aE b q){u:Int}(hs:u∈y.aa):(gt q.aa u.toNat).State=2:=by
 obtain⟨j,rfl,hj,hc,_⟩:=nr hy hs
 exact MV hc
end
end Rx
end Go.Proofs.YtaneejpkncdodaaGreat
