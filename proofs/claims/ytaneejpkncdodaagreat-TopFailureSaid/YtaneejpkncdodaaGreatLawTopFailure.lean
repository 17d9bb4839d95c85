/- TopFailure. -/
import Derived.Test.YtaneejpkncdodaaGreatMd
import Derived.KernelRfl
set_option linter.unusedVariables false
set_option linter.unusedSimpArgs false
namespace Go.Proofs.YtaneejpkncdodaaGreat
open Go Go.RowKit Dp
namespace Rx
theorem alg:MF=some true:=by kernel_rfl
section
open Classical
variable {b:ak} {p q x:ah} {t:e_} {tm:Int} {R:List bi} {E:List Event} {l:List Int} {a:Int}
theorem aaX(hb:m9 b)(hv:vT t)(hs:Sr l a)(g:Gd b p)(t0:0≤tm∧tm≤20)(hR:j8 b tm R){y:List Int×Int}{z:List Int×Int×List aI×List Source×List Consumer}{n:Nat}(hn:n≤3):Wp (aC (F6 (b.ai,b.aG,b.aB,z) (t.Start,t.Stop,t.lC,y)) ((n:Int),l,a,b.ab,b.aa,b.ae,tm,p.al,p.aa,p.ar,p.ax,R,[])) fun r=>∃l a tm p R E,r= .inl (l,a,b.ab,b.aa,b.ae,tm,p.al,p.aa,p.ar,p.ax,R,E)∧Gd b p∧(0≤tm∧tm≤30)∧j8 b tm R∧E.length≤200:=by
 have iR:(⟨b.ai,b.ab,b.aa,b.ae,b.aG,b.aB⟩:ak)=b:=rfl
 have Fe:(⟨t.Start,t.Stop,t.lC⟩:e_)=t:=rfl
 refine hG n (fun k s=>∃l a tm p R E,s=(((n-k:Nat):Int),l,a,b.ab,b.aa,b.ae,tm,p.al,p.aa,p.ar,p.ax,R,E)∧Sr l a∧Gd b p∧(0≤tm∧tm≤20+(k:Int))∧j8 b tm R∧E.length≤200) ⟨l,a,tm,p,R,[],rfl,hs,g,⟨t0.1,by have:=t0.2;omega⟩,hR,Nat.zero_le _⟩ ?_ ?_
 · rintro k s hk ⟨l,a,tm,p,R,E,rfl,e1,e2,e3,e4,e5⟩
   have kA:(⟨p.al,p.aa,p.ar,p.ax⟩:ah)=p:=rfl
   unfold F6
   simp only[dT (show((n-k:Nat):Int)>0 by omega),if_true]
   refine(YF (b:=b) e1 hb.fO).bind fun r hr=> ?_
   obtain⟨l2,a2,A,rfl,f1,f2⟩:=hr
   simp only[iR,Fe,kA]
   refine(Ym hb.sm hv e2 e3.1 (by omega) e4 e5 f2).bind fun r hr=> ?_
   obtain⟨p2,RR,E2,x,y,h1,h2,h3,h4⟩:=hr
   rw[h1]
   simp only[bne_self_eq_false,Bool.false_eq_true,if_false]
   refine ay.2 ⟨l2,a2,tm+1,p2,RR,E2, ?_,f1,h2,⟨by omega,by omega⟩,h3,h4⟩
   rw[qc (show n-k<1000000000000000000 by omega) (by omega),Nat.sub_sub]
 · rintro s ⟨l,a,tm,p,R,E,rfl,e1,e2,e3,e4,e5⟩
   unfold F6
   simp only[dF (show ¬((n-n:Nat):Int)>0 by omega),Bool.false_eq_true,if_false]
   exact ay.2 ⟨l,a,tm,p,R,E,rfl,e2,⟨e3.1,by have:=e3.2;omega⟩,e4,e5⟩
theorem adx(hb:bL b)(v:eO b x){u k:Int}(hf:HS ⟨W (1+k),u⟩ x){z:List Int×Int×List aI×List Source×List Consumer}{y:List Event×List bi×List Event×List ah}:
  aC (F5 (b.ai,b.aG,b.aB,z) k u (tm,(bT b x).al,(bT b x).aa,(bT b x).ar,(bT b x).ax,0,b.ab,b.aa,b.ae,y) (aE b (bT b x))) 0=some (.inl ()):=by
 have hq:=Pq v.2
 have hC:=Qt v.2
 have hsq:=Px (b:=b) v.1 v.2
 obtain⟨⟨hl,hg⟩,⟨s1,s2,s3⟩,_⟩:=bG.1 v.2
 have je:=rR (b:=b) (p:=bT b x)
 have iD:=hl.ew
 have iR:(⟨b.ai,b.ab,b.aa,b.ae,b.aG,b.aB⟩:ak)=b:=rfl
 have uq:(⟨(bT b x).al,(bT b x).aa,(bT b x).ar,(bT b x).ax⟩:ah)=bT b x:=rfl
 refine dP (r:=Sum.inl ()) (fun k=>(k:Int)) (aE b (bT b x)).length (fun i hi=> ?_) ?_ (by omega)
 · have hx:=cr hi
   obtain⟨p1,p2,p3,p4,p5⟩:=ns hg.1 hx
   have qI:=hl.src
   have ln:=hl.eN
   have ss:(gt (aE b (bT b x)) i).ai.length≤b.ai.toNat:=by
    obtain⟨f,_,e,_⟩:=oh.1 hx
    rw[e]
    exact(pw f).1
   have ho:=QV (nU v.2) (gt (gt (aE b (bT b x)) i).ai 0)
   have ld:eI (bT b x) (bM b (bT b x) (gt (gt (aE b (bT b x)) i).ai 0)).1≤bU b (bM b (bT b x) (gt (gt (aE b (bT b x)) i).ai 0)).1:=ho
   unfold F5
   simp only[aU hi,if_true,aD hi,Option.bind_some,show idx (gt (aE b (bT b x)) i).ai 0=some (gt (gt (aE b (bT b x)) i).ai 0) from aD p5,iR,uq,Jx hb hsq,Qb (gt (aE b (bT b x)) i).aa u (by omega),Qb (gt (aE b (bT b x)) i).ai u (by omega)]
   rw[dF (show ¬bU b (bM b (bT b x) (gt (gt (aE b (bT b x)) i).ai 0)).1<eI (bT b x) (bM b (bT b x) (gt (gt (aE b (bT b x)) i).ai 0)).1 by omega)]
   simp only[Bool.false_eq_true,if_false]
   have pC:(if decide (u∈(gt (aE b (bT b x)) i).ai)=true then
     if(W (1+k)==3)=true then some (decide (W (len (gt (aE b (bT b x)) i).aa+len (gt (aE b (bT b x)) i).ae)>0)) else some false
    else some false)=some false:=by
    by_cases hm:u∈(gt (aE b (bT b x)) i).ai
    · rw[dT hm,if_pos rfl]
      by_cases h3:W (1+k)=3
      · have iE:(⟨3,u⟩:Part)∈(bT b x).ax:=by rw[←h3];exact hf.1
        obtain⟨e1,e2⟩:=akS hq hC iE hx hm
        rw[e1,e2,dU h3]
        rfl
      · rw[bW h3]
        rfl
    · rw[dF hm]
      rfl
   by_cases hm:u∈(gt (aE b (bT b x)) i).aa
   · have h1:W (1+k)≠1:=fun h1=>by
      have e1:=aam hq hx hm
      obtain⟨j,rfl,hj,_⟩:=nr hx hm
      rw[Int.toNat_natCast,abJ v.2 (show j<x.aa.length by omega)] at e1
      have e2:(gt x.aa j).State=3:=hf.2 h1
      omega
     rw[dT hm,bW h1]
     simp only[if_true,Bool.false_eq_true,if_false]
     rw[pC]
     simp only[Option.bind_some,Bool.false_eq_true,if_false]
     rw[aX (by omega)]
   · rw[dF hm]
     simp only[Bool.false_eq_true,if_false]
     rw[pC]
     simp only[Option.bind_some,Bool.false_eq_true,if_false]
     rw[aX (by omega)]
 · unfold F5
   simp only[bA,Bool.false_eq_true,if_false]
theorem YC(hb:bL b)(g:Gd b p)(ht:0≤tm∧tm≤30)(hR:R.length≤1000)(hE:E.length≤200)(c:Act):Wp (El b ⟨tm,p,R,E⟩ c) fun r=>∃q E' cR,r=(tm,q.al,q.aa,q.ar,q.ax,0,b.ab,b.aa,b.ae,E,R,E',cR)∧Gd b q∧E'.length≤2000000∧((cR=[]∧∃e,e≠0∧E'=E++[⟨tm,c,e⟩])∨∃x S,o0 b c x∧q=bT b x∧cR=x::S):=by
 unfold El
 simp only[kR hb g.1.1,g.1.2,Option.bind_some,bne_self_eq_false,Bool.false_eq_true,if_false,Xr g.1.1 hR (show E.length≤1000 by omega)]
 refine(Io (ev:=[]) (st:=[]) (R:=R) (E:=E) hb g ht.1 (by omega) (by simp) (by simp) c).bind fun r hr=> ?_
 obtain⟨q,ck,cR,rfl,g',e1,_,hd⟩:=hr
 have e1:ck.length≤1000001:=by simpa using e1
 unfold u_
 simp only
 rw[c_ (by omega)]
 refine ay.2 ⟨q,E++ck,cR,rfl,g',by rw[List.length_append];omega, ?_⟩
 rcases hd with⟨_,h1,e,h2,h3⟩|⟨x,S,h1,h2,h3⟩
 · exact .inl ⟨h1,e,h2,by rw[h3];rfl⟩
 · exact .inr ⟨x,S,h1,h2,h3⟩
theorem ak0(hq:bf q){k n:Int}(h:(⟨k,n⟩:Part)∈q.ax):jl q k n=some true:=by rw[yA hq,dT h]
end
theorem ade(t:List Int)(a1 a2:Int):MG t a1 a2=some true:=by
 unfold MG
 rw[alg]
 refine Im.1 ((Yv t).bind fun r hr=> ?_)
 refine(YE hr).bind fun x2 h2=> ?_
 obtain⟨xu,nA⟩:=h2
 refine(Yi xu).bind fun x3 h3=> ?_
 obtain⟨hv,hs3⟩:=h3
 obtain⟨b,kE⟩:∃b:ak,b=⟨x2.1,x2.2.2.2.2.2.1,x2.2.2.2.2.2.2.1,x2.2.2.2.2.2.2.2,x2.2.1,x2.2.2.1⟩:=⟨_,rfl⟩
 obtain⟨y,hy⟩:∃y:e_,y=⟨x3.1,x3.2.1,x3.2.2.1⟩:=⟨_,rfl⟩
 rw[←kE] at nA
 rw[←hy] at hv
 rw[←kE]
 refine(Ys hs3 nA).bind fun r hr=> ?_
 obtain⟨tm,l,a,p,R,rfl,hs4,g,ht,hR⟩:=hr
 simp only
 refine(iI hs4 (by omega) (by omega)).bind fun x5 h5=> ?_
 obtain⟨⟨n0,n1⟩,hs5⟩:=h5
 obtain⟨n,hn⟩:=Int.eq_ofNat_of_zero_le n0
 have hn:x5.1=(n:Int):=hn
 rw[hn]
 have e2:x2=(b.ai,b.aG,b.aB,x2.2.2.2):=by rw[kE]
 have e3:x3=(y.Start,y.Stop,y.lC,x3.2.2.2):=by rw[hy]
 rw[e2,e3]
 refine(aaX nA hv hs5 g (by omega) hR (y:=x3.2.2.2) (z:=x2.2.2.2) (n:=n) (by omega)).bind fun r hr=> ?_
 obtain⟨l,a,tm,p,R,E,rfl,g,ht,hR,hE⟩:=hr
 rw[Sum.elim_inl]
 obtain⟨⟨Bc,hg⟩,_⟩:=bG.1 g.1.2
 have iD:=Bc.ew
 have FM:=hR.1
 have hb:=nA.sm
 obtain⟨k,hk⟩:∃k,iJ (W a1) 4=some k:=⟨_,by unfold iJ;rw[if_neg (by omega)]⟩
 obtain⟨u,hu⟩:∃k,iJ (W a2) 6=some k:=⟨_,by unfold iJ;rw[if_neg (by omega)]⟩
 refine Wp.p_ hk ?_
 refine Wp.p_ hu ?_
 have iR:(⟨b.ai,b.ab,b.aa,b.ae,b.aG,b.aB⟩:ak)=b:=rfl
 have Fe:(⟨y.Start,y.Stop,y.lC⟩:e_)=y:=rfl
 have kA:(⟨p.al,p.aa,p.ar,p.ax⟩:ah)=p:=rfl
 refine(YC hb g ht (show R.length≤1000 by omega) hE ⟨8,u,W (1+k)⟩).bind fun r hr=> ?_
 obtain⟨q,E',cR,rfl,gq,hE',LM⟩:=hr
 simp only[bne_self_eq_false,Bool.false_eq_true,if_false]
 rcases LM with⟨rfl,e,he,TF⟩|⟨x,S,hx,rfl,rfl⟩
 · have mM:E'.length=E.length+1:=by rw[TF,List.length_append];rfl
   rw[show(len ([]:List ah)==0)=true from rfl,if_pos rfl,dT (show len E'>0 by unfold len;omega),if_pos rfl,bO (show-1000000000000000000≤len E'-1 by unfold len;omega) (by unfold len;omega),show len E'-1=(E.length:Int) by unfold len;omega,aD (show E.length<E'.length by omega)]
   have Be:gt E' E.length=⟨tm,⟨8,u,W (1+k)⟩,e⟩:=by rw[TF];exact Bz
   simp only[Option.bind_some,Be,Cr he,if_true]
   exact ay.2 rfl
 · have hl:(len (x::S)==0)=false:=bW (by unfold len;rw[List.length_cons];omega)
   have ix:idx (x::S) 0=some x:=rfl
   have AR:=hx.1
   have Tf:HS ⟨W (1+k),u⟩ x:=hx.2 rfl
   have uq:(⟨(bT b x).al,(bT b x).aa,(bT b x).ar,(bT b x).ax⟩:ah)=bT b x:=rfl
   have af0:(⟨W (1+k),u⟩:Part)∈(bT b x).ax:=Tf.1
   simp only[hl,ix,Bool.false_eq_true,if_false,Option.bind_some,uq,ais hb AR.1 gq.1.1 AR.2 gq.1.2,er (abM AR.1 AR.2),Bool.not_true,Qu hb hv gq ht.1 (show tm≤2147483648 by omega) hR,bne_self_eq_false,ak0 gq.1.1 af0,xn hb gq.1.1 gq.1.2,adx (tm:=tm) (k:=k) (u:=u) hb AR Tf,Sum.elim_inl]
   exact ay.2 rfl
end Rx
end Go.Proofs.YtaneejpkncdodaaGreat
