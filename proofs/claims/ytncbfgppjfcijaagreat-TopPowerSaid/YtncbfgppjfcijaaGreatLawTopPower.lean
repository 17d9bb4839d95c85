/- TopPower. -/
import Derived.Test.YtncbfgppjfcijaaGreatMd
import Derived.KernelRfl
set_option linter.unusedVariables false
set_option linter.unusedSimpArgs false
open Bool renaming false_eq_true→aqG
open Int renaming eq_ofNat_of_zero_le→ara
open List renaming length_append→aqY,mem_append→aqP,mem_cons→aqR,mem_singleton→aq1,not_mem_nil→arc
open Nat renaming zero_le→arj
open Option renaming bind_some→aqF
namespace Go.Proofs.YtncbfgppjfcijaaGreat
open Go Go.RowKit Dp
namespace Rx
theorem ao8:VD=some true:=by kernel_rfl
section
variable {b:aj} {p:ae} {l:List Int} {a:Int}
theorem aa9(hs:Sr l a):Wp (Io ⟨l,a⟩) fun r=>qd ⟨r.1,r.2.1⟩=some true∧Sr r.2.2.1 r.2.2.2:=by
 unfold Io
 refine(h_ hs (w:=[0,450,800,1350,1800,2600,3500]) (by simp) (by simp)).bind fun x h1=> ?_
 refine(h_ h1.2 (w:=[0,100,300,900,1799]) (by simp) (by simp)).bind fun y h2=> ?_
 have a1:=h1.1
 have a2:=h2.1
 simp only[aqR,arc,or_false] at a1 a2
 rw[be (x:=x.1+y.1) (by omega) (by omega),Kl (by omega) (by omega)]
 simp only[aqF]
 refine al.2 ⟨?_,h2.2⟩
 have e:(x.1+y.1)% 3600-x.1=(x.1+y.1)% 3600-x.1:=rfl
 unfold qd za H5
 simp only[dT (show x.1≥0 by omega),dT (show x.1<3600 by omega),dT (show(x.1+y.1)% 3600≥0 by omega),dT (show(x.1+y.1)% 3600<3600 by omega),if_true,aqF]
 rw[be (x:=(x.1+y.1)% 3600-x.1) (by omega) (by omega),norm_eq (by omega) (by omega)]
 simp only[aqF,dT (show((x.1+y.1)% 3600-x.1)% 3600<1800 by omega)]
theorem aaD(hs:Sr l a):Wp (Ie ⟨l,a⟩) fun r=>mr ⟨r.1,r.2.1,r.2.2.1,r.2.2.2.1,r.2.2.2.2.1,r.2.2.2.2.2.2.2⟩∧Sr r.2.2.2.2.2.1 r.2.2.2.2.2.2.1:=by
 unfold Ie
 refine(oc hs (by omega) (by omega) (by omega) (by omega)).bind fun x1 h1=> ?_
 refine(ia h1.2 (by omega) (by omega)).bind fun x2 h2=> ?_
 refine(h_ h2.2 (w:=[0,1,7,20,40]) (by simp) (by simp)).bind fun x3 h3=> ?_
 refine(h_ h3.2 (w:=[0,1,5,50]) (by simp) (by simp)).bind fun x4 h4=> ?_
 refine(h_ h4.2 (w:=[1,2,3,100]) (by simp) (by simp)).bind fun x5 h5=> ?_
 refine(ia h5.2 (by omega) (by omega)).bind fun x6 h6=> ?_
 have a3:=h3.1
 have a4:=h4.1
 have a5:=h5.1
 simp only[aqR,arc,or_false] at a3 a4 a5
 obtain⟨⟨n0,n1⟩,hs6⟩:=h6
 obtain⟨n,hn⟩:=ara n0
 have hn:x6.1=(n:Int):=hn
 rw[hn]
 refine Wp.bind (Q:=fun r=>∃l a F,r=(l,a,x1.1,x2.1,x3.1,x4.1,x5.1,F)∧Sr l a∧F.length≤n∧∀z∈F,qd z=some true) ?_ fun r hr=> ?_
 · refine dO n (fun k s=>∃l a F,s=(((n-k:Nat):Int),l,a,x1.1,x2.1,x3.1,x4.1,x5.1,F)∧Sr l a∧F.length≤k∧∀z∈F,qd z=some true) ⟨_,_,[],rfl,hs6,arj _,fun z hz=>(by cases hz)⟩ ?_ ?_
   · rintro k s hk ⟨l,a,F,rfl,e1,e2,e3⟩
     unfold Pq
     simp only[dT (show((n-k:Nat):Int)>0 by omega),if_true]
     refine(aa9 e1).bind fun r hr=> ?_
     rw[cp (by simp;omega)]
     simp only[aqF]
     refine al.2 ⟨_,_,F++[⟨r.1,r.2.1⟩], ?_,hr.2,by rw[aqY];exact Nat.succ_le_succ e2,fun z hz=> ?_⟩
     · rw[o0 (show n-k<1000000000000000000 by omega) (by omega),Nat.sub_sub]
     · rcases aqP.1 hz with hz|hz
       · exact e3 z hz
       · rw[aq1.1 hz];exact hr.1
   · rintro s ⟨l,a,F,rfl,e1,e2,e3⟩
     unfold Pq
     simp only[dF (show ¬((n-n:Nat):Int)>0 by omega),aqG,if_false]
     exact al.2 ⟨l,a,F,rfl,e1,e2,e3⟩
 · obtain⟨l,a,F,rfl,e1,e2,e3⟩:=hr
   have b1:=h1.1
   have b2:=h2.1
   exact al.2 ⟨⟨⟨⟨⟨b1.1,b1.2⟩,⟨b2.1,by show x2.1≤1;omega⟩,⟨by show 0≤x3.1;omega,by show x3.1≤5000;omega⟩,⟨by show 0≤x4.1;omega,by show x4.1≤5000;omega⟩,by show 1≤x5.1;omega,by show x5.1≤100;omega⟩,by show F.length≤4;omega⟩,e3⟩,e1⟩
theorem aaL(hs:Sr l a):Wp (Ig ⟨l,a⟩ 4) fun r=>v7 ⟨r.1,r.2.1,r.2.2.2.2⟩∧Sr r.2.2.1 r.2.2.2.1:=by
 unfold Ig
 rw[show W (4+1)=5 from rfl]
 refine(h_ hs (w:=[0,1,30,60]) (by simp) (by simp)).bind fun x1 h1=> ?_
 refine(h_ h1.2 (w:=[1,25,40]) (by simp) (by simp)).bind fun x2 h2=> ?_
 refine(ia h2.2 (by omega) (by omega)).bind fun x3 h3=> ?_
 have a1:=h1.1
 have a2:=h2.1
 simp only[aqR,arc,or_false] at a1 a2
 obtain⟨⟨n0,n1⟩,Mb⟩:=h3
 obtain⟨n,hn⟩:=ara n0
 have hn:x3.1=(n:Int):=hn
 rw[hn]
 refine Wp.bind (Q:=fun r=>∃l a M,r=(l,a,x1.1,x2.1,M)∧Sr l a∧M.length≤n∧∀z∈M,mr z) ?_ fun r hr=> ?_
 · refine dO n (fun k s=>∃l a M,s=(((n-k:Nat):Int),l,a,x1.1,x2.1,M)∧Sr l a∧M.length≤k∧∀z∈M,mr z) ⟨_,_,[],rfl,Mb,arj _,fun z hz=>(by cases hz)⟩ ?_ ?_
   · rintro k s hk ⟨l,a,M,rfl,e1,e2,e3⟩
     unfold Pr
     simp only[dT (show((n-k:Nat):Int)>0 by omega),if_true]
     refine(aaD e1).bind fun r hr=> ?_
     rw[cp (by simp;omega)]
     simp only[aqF]
     refine al.2 ⟨_,_,M++[⟨r.1,r.2.1,r.2.2.1,r.2.2.2.1,r.2.2.2.2.1,r.2.2.2.2.2.2.2⟩], ?_,hr.2,by rw[aqY];exact Nat.succ_le_succ e2,fun z hz=> ?_⟩
     · rw[o0 (show n-k<1000000000000000000 by omega) (by omega),Nat.sub_sub]
     · rcases aqP.1 hz with hz|hz
       · exact e3 z hz
       · rw[aq1.1 hz];exact hr.1
   · rintro s ⟨l,a,M,rfl,e1,e2,e3⟩
     unfold Pr
     simp only[dF (show ¬((n-n:Nat):Int)>0 by omega),aqG,if_false]
     exact al.2 ⟨l,a,M,rfl,e1,e2,e3⟩
 · obtain⟨l,a,M,rfl,e1,e2,e3⟩:=hr
   exact al.2 ⟨⟨⟨⟨by show 0≤x1.1;omega,by show x1.1≤200;omega⟩,by show 1≤x2.1;omega,by show x2.1≤200;omega⟩,by show M.length≤8;omega,fun i hi=>e3 _ (cV hi)⟩,e1⟩
theorem aa5(hs:Sr l a):Wp (Il ⟨l,a⟩) fun r=>(-60≤r.1∧r.1≤60)∧(-50≤r.2.1∧r.2.1≤50)∧-50≤r.2.2.1∧r.2.2.1≤50:=by
 unfold Il
 refine(oc hs (by omega) (by omega) (by omega) (by omega)).bind fun x1 h1=> ?_
 refine(oc h1.2 (by omega) (by omega) (by omega) (by omega)).bind fun x2 h2=> ?_
 refine(oc h2.2 (by omega) (by omega) (by omega) (by omega)).bind fun x3 h3=>al.2 ⟨h1.1,h2.1,h3.1⟩
theorem aeJ{x:gu}{A:List Int}{i:Nat}(ht:mr (gt x.bN i))(hA:pf b p x A i){X Y:Int}(hv:gw (pD (gt x.bN i) (gt A i)).Max X Y):pw (X*X+Y*Y) (gt x.bN i).cY≤0∨∃c,C6 b i c∧qx b p 64 (c:Int)=true∧pw (X*X+Y*Y) (gt x.bN i).cY≤gt p.aE c:=by
 obtain⟨⟨a0,a1⟩,h⟩:=hA
 obtain⟨l1,l2⟩:=Ls ht a0
 obtain⟨m0,m1⟩:=l1.1.1.2.2.1
 have hS:X*X+Y*Y≤gt A i*gt A i:=Int.le_trans hv.2.2 (Int.mul_le_mul l2 l2 m0 a0)
 rcases h with e|⟨c,h1,h2,h3⟩
 · rw[e] at hS
   have hc:=ht.1.1.2.2.2.2.1
   have:=Int.mul_le_mul_of_nonneg_right (show X*X+Y*Y≤0 by omega) (show 0≤(gt x.bN i).cY by omega)
   exact .inl (R4 (by omega))
 · exact .inr ⟨c,h1,h2,h3.2 _ hS⟩
theorem aeH(hb:bP b)(v:en b p){i:Nat}{n e tm z0:Int}{y:List Int×Int×List aO×List Source×List Consumer}{z:List Bool×List aC×List Int×List Part×List bf×List Act×List bf×List Event×List Event}(hn:n≤0∨∃c,C6 b i c∧qx b p 64 (c:Int)=true∧n≤gt p.aE c):Wp (ay (Gw (b.ak,b.aG,b.aB,y) (tm,p.aq,p.aa,p.aE,p.aA,z0,b.ad,b.aa,b.ai,z) (i:Int) (n,e)) 0) fun r=>r= .inl ():=by
 obtain⟨⟨hl,hg⟩,⟨s1,s2,s3⟩,_⟩:=bM.1 v.2
 have jH:=hl.eL
 have nL:(⟨b.ak,b.ad,b.aa,b.ai,b.aG,b.aB⟩:aj)=b:=rfl
 have lj:(⟨p.aq,p.aa,p.aE,p.aA⟩:ae)=p:=rfl
 refine dO b.ai.length (fun k s=>s=(k:Int)∧∀d,d<k→(gt b.ai d).bm≠(i:Int)) ⟨rfl,fun d hd=>by omega⟩ ?_ ?_
 · rintro k s hk ⟨rfl,iG⟩
   unfold Gw
   simp only[aQ hk,if_true,az hk,aqF,nL,lj]
   refine Wp.ite (fun hh=> ?_) fun hh=>al.2 ⟨by rw[aU (by omega)],fun d hd=> ?_⟩
   · have hh:(gt b.ai k).bm=(i:Int):=by simpa using hh
     rw[az (show k<p.aE.length by omega)]
     simp only[aqF]
     refine Wp.bind (Q:=fun c=>c=false) ?_ fun c hc=> ?_
     · by_cases h0:n>0
       · rcases hn with hn|⟨c,h1,h2,h3⟩
         · omega
         have hck:c=k:=by
          rcases Nat.lt_trichotomy c k with h|h|h
          · exact(iG c h h1.1.2).elim
          · exact h
          · exact(h1.2 k h hh).elim
         subst hck
         rw[dF (show ¬n>gt p.aE c by omega),dT h0,if_neg (by decide),if_pos rfl,Rn hb v.1 v.2 (c:=(c:Int)) (by omega),h2]
         exact al.2 rfl
       · rw[dF h0]
         refine Wp.ite (fun _=>al.2 rfl) fun _=>al.2 rfl
     · subst hc
       exact al.2 rfl
   · by_cases MU:d=k
     · rw[MU];simpa using hh
     · exact iG d (by omega)
 · rintro s ⟨rfl,iG⟩
   unfold Gw
   simp only[bl,aqG,if_false]
   exact al.2 rfl
theorem aeI(hb:bP b)(v:en b p){tm z0:Int}{y:List Int×Int×List aO×List Source×List Consumer}{z:List Bool×List aC×List Int×List Part×List bf×List Act×List bf×List Event×List Event}{x7:Int×Int×List Int×Int×List bm}{aH:Int×Int×Int×Int×Int×Int×Int×List du}{A:List Int}(hx:v7 ⟨x7.1,x7.2.1,x7.2.2.2.2⟩)(hl:aH.2.2.2.2.2.2.2.length=x7.2.2.2.2.length)(hA:∀i,i<x7.2.2.2.2.length→pf b p ⟨x7.1,x7.2.1,x7.2.2.2.2⟩ A i)(dQ:∀i,i<x7.2.2.2.2.length→gw (pD (gt x7.2.2.2.2 i) (gt A i)).Max (gt aH.2.2.2.2.2.2.2 i).X (gt aH.2.2.2.2.2.2.2 i).Y):Wp (ay (Gx (b.ak,b.aG,b.aB,y) (tm,p.aq,p.aa,p.aE,p.aA,z0,b.ad,b.aa,b.ai,z) x7 aH) 0) fun r=>r= .inl ():=by
 have h8:x7.2.2.2.2.length≤8:=hx.2.1
 refine dO aH.2.2.2.2.2.2.2.length (fun k s=>s=(k:Int)) rfl ?_ ?_
 · rintro k s hk rfl
   have ht:mr (gt x7.2.2.2.2 k):=hx.2.2 k (show k<x7.2.2.2.2.length by omega)
   have hi:=dQ k (by omega)
   have hm:=(Ls ht (hA k (by omega)).1.1).1.1.1.2.2.1
   have hp:=QC ht (x:=(gt aH.2.2.2.2.2.2.2 k).X) (y:=(gt aH.2.2.2.2.2.2.2 k).Y) (by have:=hi.1.1;omega) (by have:=hi.1.2;omega) (by have:=hi.2.1.1;omega) (by have:=hi.2.1.2;omega)
   have kG:ww (gt x7.2.2.2.2 k) (gt aH.2.2.2.2.2.2.2 k)=_:=hp
   unfold Gx
   simp only[aQ hk,if_true,az hk,az (show k<x7.2.2.2.2.length by omega),aqF,kG,bne_self_eq_false,aqG,if_false]
   refine(aeH hb v (aeJ (x:=⟨x7.1,x7.2.1,x7.2.2.2.2⟩) ht (hA k (by omega)) hi)).bind fun r hr=> ?_
   subst hr
   exact al.2 (by show W _=_;rw[aU (by omega)])
 · rintro s rfl
   unfold Gx
   simp only[bl,aqG,if_false]
   exact al.2 rfl
end
theorem af5(t:List Int):NR t=some true:=by
 unfold NR
 rw[ao8]
 refine I7.1 ((aaU t).bind fun r hr=> ?_)
 refine(aa7 hr).bind fun x2 h2=> ?_
 obtain⟨xM,nI⟩:=h2
 refine(aaE xM).bind fun x3 h3=> ?_
 obtain⟨hv,Mb⟩:=h3
 obtain⟨b,mW⟩:∃b:aj,b=⟨x2.1,x2.2.2.2.2.2.1,x2.2.2.2.2.2.2.1,x2.2.2.2.2.2.2.2,x2.2.1,x2.2.2.1⟩:=⟨_,rfl⟩
 obtain⟨y,hy⟩:∃y:fL,y=⟨x3.1,x3.2.1,x3.2.2.1⟩:=⟨_,rfl⟩
 rw[←mW] at nI
 rw[←hy] at hv
 rw[←mW,←hy]
 have e2:x2=(b.ak,b.aG,b.aB,x2.2.2.2):=by rw[mW]
 rw[e2]
 have hb:=nI.sm
 refine(aaR Mb nI).bind fun r hr=> ?_
 obtain⟨tm,l,a,p,R,rfl,hs4,g,ht,hR⟩:=hr
 refine(aa' (b:=b) (m:=5) hs4 nI.dt (by omega) (by omega)).bind fun r hr=> ?_
 obtain⟨l,a,A,rfl,hs5,hA⟩:=hr
 refine(aaI (p:=p) (R:=R) (E:=[]) hb hv g (by omega) (by omega) hR (by simp) hA).bind fun r hr=> ?_
 obtain⟨tm,q,z,rfl,gq⟩:=hr
 refine Wp.ite (fun h=>by cases h) fun _=> ?_
 refine(aaL hs5).bind fun x7 h7=> ?_
 refine(abc (p:=q) hb gq.1 h7.1).bind fun x8 h8=> ?_
 refine(aa5 h7.2).bind fun x9 h9=> ?_
 refine(aa_ h7.1 (A:=x8.2) (d:=⟨x9.1,x9.2.1,x9.2.2.1⟩) h8.2.1 (fun i hi=>(h8.2.2 i (by have:=h8.2.1;omega)).1) (by simp only;omega) (by simp only;omega) (by simp only;omega)).bind fun aH mX=> ?_
 refine Wp.bind (Q:=fun c=>c=false) ?_ fun c hc=> ?_
 · rw[h8.1,mX.1,tv (show len aH.2.2.2.2.2.2.2=len x7.2.2.2.2 by unfold len;rw[mX.2.1])]
   exact al.2 rfl
 rw[hc,if_neg (by decide)]
 refine(aeI (p:=q) (A:=x8.2) hb gq.1 h7.1 mX.2.1 h8.2.2 mX.2.2).bind fun r hr=> ?_
 subst hr
 exact al.2 rfl
end Rx
end Go.Proofs.YtncbfgppjfcijaaGreat
