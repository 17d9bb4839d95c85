import Derived.Test.YtaneejpkncdodaaGreatMb
set_option linter.unusedVariables false
set_option linter.unusedSimpArgs false
noncomputable section
namespace Go.Proofs.YtaneejpkncdodaaGreat
open Go Go.RowKit Dp
namespace Rx
section
variable {b:ak} {p:ah} {L T:List Int}
def mx(b:ak)(T:List Int)(i:Nat):Bool:=(gt b.ab i).Kind==3&&decide ((gt b.ab i).B∈T)
def bm(b:ak)(p:ah)(L T:List Int):ah:=⟨eG p.al (mx b T),p.aa,L,p.ax⟩
structure g8(p:ah)(L:List Int):Prop where
 len:L.length=p.ar.length
 le:∀k,k<L.length→0≤gt L k∧gt L k≤gt p.ar k
theorem acY(h:aH b p=0):g8 p p.ar:=⟨rfl,fun k hk=>by
 obtain⟨_,_,_,_,_,h6⟩:=gF h
 have:=AE h (k:=k) (by omega)
 omega⟩
theorem EY(h:aH b p=0){k:Nat}(hk:k<b.ae.length):0≤(gt b.ae k).cF∧(gt b.ae k).cF≤50000:=by
 obtain⟨⟨hl,hg⟩,_⟩:=bG.1 h
 have h1:=(hg.2.2.2.2 k hk).2
 omega
theorem Df(h:aH b p=0)(hL:g8 p L)(T:List Int):aH b (bm b p L T)=0:=by
 have hx:aH b {p with al:=eG p.al (mx b T)}=0:=Dg h (gR _ _) rfl rfl rfl fun k hk=>wY hk
 obtain⟨h1,⟨s1,s2,s3⟩,⟨g1,g2⟩,g3,g4⟩:=bG.1 hx
 refine bG.2 ⟨h1,⟨s1,s2,by show L.length=_;rw[hL.len];exact s3⟩,⟨g1,g2⟩,g3,fun k hk=> ?_⟩
 have bB:k<p.ar.length:=by rw[←hL.len];exact hk
 obtain⟨a,c⟩:=g4 k bB
 have h2:=hL.le k hk
 refine⟨⟨h2.1,Int.le_trans h2.2 a.2⟩, ?_⟩
 refine Nat.le_trans (UB (b:=b) (p:={p with al:=eG p.al (mx b T)}) (q:=bm b p L T) (fun j hj=>hj) b.ab.length) c
theorem IE(hp:bf p)(hL:g8 p L)(T:List Int):bf (bm b p L T):=by
 obtain⟨h1,h2,h3,h4⟩:=hp
 refine⟨?_,h2, ?_,h4⟩
 · show Sm (eG p.al _);unfold Sm at h1⊢;rw[gR];exact h1
 · show Sm L;unfold Sm at h3⊢;rw[hL.len];exact h3
theorem Ja(h:aH b p=0)(L T:List Int):jm b p (bm b p L T):=by
 obtain⟨s1,_⟩:=gF h
 refine⟨rfl,fun _ _=>rfl,fun k hk h3=> ?_⟩
 show gt (eG p.al _) k=_
 rw[lM (by omega)]
 unfold mx
 rw[bW h3]
 simp
theorem ab3(C:List Bool)(P Q:Nat→Bool):eG (eG C P) Q=eG C fun i=>P i||Q i:=by
 refine fi (by simp[gR]) fun i hi=> ?_
 rw[gR,gR] at hi
 rw[lM (by rw[gR];exact hi),lM hi,lM hi]
 cases gt C i<;>cases P i<;>rfl
theorem ab5{C:List Bool}{P Q:Nat→Bool}(h:∀i,i<C.length→P i=Q i):eG C P=eG C Q:=by
 refine fi (by simp[gR]) fun i hi=> ?_
 rw[gR] at hi
 rw[lM hi,lM hi,h i hi]
theorem ab4(C:List Bool){P:Nat→Bool}(h:∀i,P i=false):eG C P=C:=by
 refine fi (by simp[gR]) fun i hi=> ?_
 rw[gR] at hi
 rw[lM hi,h i]
 simp
theorem aac(p:ah):bm b p p.ar []=p:=by
 unfold bm
 rw[ab4 p.al fun i=>by unfold mx;simp]
theorem Zx(T:List Int)(c:Int)(i:Nat):mx b (T++[c]) i=(mx b T i||((gt b.ab i).Kind==3&&(gt b.ab i).B==c)):=by
 unfold mx
 cases(gt b.ab i).Kind==3 with
 |false=>rfl
 |true=>
  simp only[Bool.true_and,List.mem_append,List.mem_singleton,Bool.decide_or]
  rw[show decide ((gt b.ab i).B=c)=((gt b.ab i).B==c) from rfl]
theorem Rq(h:aH b p=0)(L:List Int){T:List Int}{c:Int}(hc:c∉T):cB b (bm b p L T) 3 c=cB b p 3 c:=by
 obtain⟨s1,_⟩:=gF h
 refine Rr fun k hk h3 hB=> ?_
 show gt (eG p.al _) k=_
 rw[lM (by omega)]
 unfold mx
 rw[hB,decide_eq_false hc]
 simp
theorem Rp(h:aH b p=0)(L:List Int){T:List Int}{c:Int}(hc:c∈T):(cB b (bm b p L T) 3 c).2=false:=by
 obtain⟨s1,_⟩:=gF h
 unfold cB
 have:(List.range b.ab.length).find? (gb b (bm b p L T) 3 c)=none:=by
  rw[List.find?_eq_none]
  intro k hk he
  have hk:=List.mem_range.1 hk
  unfold gb at he
  simp only[Bool.and_eq_true,beq_iff_eq] at he
  obtain⟨⟨h3,hB⟩,cg⟩:=he
  have cg:gt (eG p.al (mx b T)) k=true:=cg
  rw[lM (by omega)] at cg
  unfold mx at cg
  rw[h3,hB,decide_eq_true hc] at cg
  simp at cg
 rw[this]
theorem abD(P:Nat→Bool)(Q:Int→Bool)(n:Nat):(aZ P n).filter Q=aZ (fun i=>P i&&Q (i:Int)) n:=by
 unfold aZ
 rw[List.filter_map,List.filter_filter]
 congr 1
 refine List.filter_congr fun i _=> ?_
 simp[Bool.and_comm]
def left(T l:List Int):List Int:=l.filter fun c=> !decide (c∈T)
theorem adt(h:aH b p=0)(L T:List Int)(f:Nat):cf b (bm b p L T) f=⟨(cf b p f).ai,(cf b p f).aa,left T (cf b p f).ae⟩:=by
 have hS:=Ja h L T
 obtain⟨e1,e2⟩:=hS.IC f
 have e3:(cf b (bm b p L T) f).ae=left T (cf b p f).ae:=by
  show aZ (eZ b (bm b p L T) f) _=left T (aZ (eZ b p f) _)
  unfold left
  rw[abD]
  congr 1
  funext j
  unfold eZ
  rw[hS.bl]
  by_cases hc:(j:Int)∈T
  · rw[Rp h L hc,decide_eq_true hc];simp
  · rw[Rq h L hc,decide_eq_false hc];simp
 rw[←e1,←e2,←e3]
theorem QS(h:aH b p=0)(hL:g8 p L)(T:List Int)(k:Int):(bM b (bm b p L T) k).1=⟨(bM b p k).1.ai,(bM b p k).1.aa,left T (bM b p k).1.ae⟩:=by
 unfold bM
 by_cases c:0≤k∧k<b.ai
 · rw[if_pos ⟨Df h hL T,c⟩,if_pos ⟨h,c⟩]
   simp only
   unfold aT
   rw[(Ja h L T).bl]
   exact adt h L T _
 · rw[if_neg fun x=>c x.2,if_neg fun x=>c x.2]
   rfl
def kH(b:ak)(x:aP)(T L:List Int):Int:=imax 0 (fb (gt L) (left T x.ae)-bU b x)
theorem EV{T l:List Int}{c:Int}(h:c∈left T l):c∈l∧c∉T:=by
 unfold left at h
 rw[List.mem_filter] at h
 exact⟨h.1,by simpa using h.2⟩
theorem ac4(T l:List Int):(left T l).length≤l.length:=List.length_filter_le _ _
theorem EU(h:aH b p=0)(hL:g8 p L){k:Nat}(hk:k<b.ae.length):0≤gt L k∧gt L k≤50000:=by
 obtain⟨_,_,_,_,_,h6⟩:=gF h
 have h1:=hL.le k (by rw[hL.len];omega)
 have h2:=AE h hk
 omega
theorem Qm(h:aH b p=0){x:aP}(hx:x∈aE b p):0≤bU b x∧bU b x≤400000:=by
 obtain⟨⟨hl,hg⟩,_⟩:=bG.1 h
 obtain⟨h1,h2,h3,h4,_⟩:=ns hg.1 hx
 have h8:=hl.src
 have:=zq (f:=fun k=>(gt b.aa k).df) (l:=x.aa) (B:=50000) (fun c hc=>by
  have:=h2 c hc
  have:=Ak h (k:=c.toNat) (by omega)
  exact⟨by omega,this.2⟩)
 unfold bU
 omega
theorem Z0(h:aH b p=0)(hL:g8 p L){x:aP}(hx:x∈aE b p)(T:List Int):0≤fb (gt L) (left T x.ae)∧fb (gt L) (left T x.ae)≤800000:=by
 obtain⟨⟨hl,hg⟩,_⟩:=bG.1 h
 obtain⟨h1,h2,h3,h4,_⟩:=ns hg.1 hx
 have h8:=hl.eN
 have h9:=ac4 T x.ae
 have:=zq (f:=gt L) (l:=left T x.ae) (B:=50000) (fun c hc=>by
  have:=h1 c (EV hc).1
  exact EU h hL (by omega))
 omega
theorem T7(hb:bL b)(hp:bf p)(h:aH b p=0)(hL:g8 p L)(T:List Int){x:aP}(hx:x∈aE b p)(hs:x.aa≠[])(a:List Act):Aa ⟨b,bm b p L T,a⟩ (gt x.ai 0)=some (kH b x T L):=by
 unfold Aa
 simp only[ET hb (IE (b:=b) hp hL T),Eg hb (IE (b:=b) hp hL T),Option.bind_some]
 rw[QS h hL T,ady h hx]
 have h1:=Z0 h hL hx T
 have h2:=Qm h hx
 have e1:eI (bm b p L T) ⟨x.ai,x.aa,left T x.ae⟩=fb (gt L) (left T x.ae):=by
  unfold eI
  rw[if_neg hs]
  rfl
 have e2:bU b ⟨x.ai,x.aa,left T x.ae⟩=bU b x:=rfl
 rw[e1,e2,bO (by omega) (by omega)]
 rfl
def iU(b:ak)(x:aP)(T L:List Int)(c:Int):Int:=kq (kH b x T L) (gt L c.toNat-(gt b.ae c.toNat).cF)
def lO(b:ak)(x:aP)(T:List Int)(s:List Int×List Act)(c:Int):List Int×List Act:=
 if 0<iU b x T s.1 c then(s.1.set c.toNat (gt s.1 c.toNat-iU b x T s.1 c),s.2++[⟨5,c,gt s.1 c.toNat-iU b x T s.1 c⟩]) else s
def eH(b:ak)(x:aP)(T o:List Int)(s:List Int×List Act):List Int×List Act:=o.foldl (lO b x T) s
theorem MP{x:aP}{c:Int}:iU b x T L c≤gt L c.toNat-(gt b.ae c.toNat).cF∧iU b x T L c≤kH b x T L:=by
 unfold iU kq
 split<;>omega
theorem acJ(h:aH b p=0){x:aP}{T:List Int}{s:List Int×List Act}(hL:g8 p s.1){c:Int}(hc:0≤c∧c<(b.ae.length:Int)):g8 p (lO b x T s c).1∧(lO b x T s c).2.length≤s.2.length+1:=by
 obtain⟨_,_,_,_,_,h6⟩:=gF h
 have hlen:=hL.len
 unfold lO
 by_cases h0:0<iU b x T s.1 c
 · rw[if_pos h0]
   have h1:=MP (b:=b) (x:=x) (T:=T) (L:=s.1) (c:=c)
   have h2:=EY h (k:=c.toNat) (by omega)
   refine⟨⟨by simp[hlen],fun k hk=> ?_⟩,by simp⟩
   rw[List.length_set] at hk
   simp only
   rw[dI (by omega)]
   have h3:=hL.le k hk
   by_cases e:k=c.toNat
   · subst e;rw[if_pos rfl];omega
   · rw[if_neg e];exact h3
 · rw[if_neg h0];exact⟨hL,by omega⟩
theorem xc(h:aH b p=0){x:aP}{T:List Int}:∀{o:List Int} {s:List Int×List Act},g8 p s.1→(∀c∈o,0≤c∧c<(b.ae.length:Int))→g8 p (eH b x T o s).1∧(eH b x T o s).2.length≤s.2.length+o.length
 |[],s,hL,ho=>⟨hL,Nat.le_refl _⟩
 |c::o,s,hL,ho=>by
  obtain⟨h1,h2⟩:=acJ (T:=T) (x:=x) h hL (ho c (by simp))
  obtain⟨h3,h4⟩:=xc (x:=x) (T:=T) h (o:=o) h1 (fun d hd=>ho d (by simp[hd]))
  have e:eH b x T (c::o) s=eH b x T o (lO b x T s c):=rfl
  rw[e]
  exact⟨h3,by simp only[List.length_cons];omega⟩
theorem Rb{x:aP}{o:List Int}{c:Int}{s:List Int×List Act}:eH b x T (o++[c]) s=lO b x T (eH b x T o s) c:=by
 unfold eH
 rw[List.foldl_append]
 rfl
def lJ(b:ak)(p:ah)(x:aP)(L:List Int)(s:List Int×List Act)(c:Int):List Int×List Act:=
 if 0<gt L c.toNat∧0<kH b x s.1 L then(s.1++[c],s.2++(ee (bm b p L s.1).al fun i=>(gt b.ab i).Kind==3&&(gt b.ab i).B==c).map mm) else s
def fY(b:ak)(p:ah)(x:aP)(L o:List Int)(s:List Int×List Act):List Int×List Act:=o.foldl (lJ b p x L) s
theorem Pb{x:aP}{o:List Int}{c:Int}{s:List Int×List Act}:fY b p x L (o++[c]) s=lJ b p x L (fY b p x L o s) c:=by
 unfold fY
 rw[List.foldl_append]
 rfl
theorem ZA{x:aP}{s:List Int×List Act}{c:Int}(h:p.al.length≤1000):(lJ b p x L s c).2.length≤s.2.length+1000:=by
 unfold lJ
 split
 · have:=uV (bm b p L s.1).al fun i=>(gt b.ab i).Kind==3&&(gt b.ab i).B==c
   have e:(bm b p L s.1).al.length=p.al.length:=gR _ _
   simp only[List.length_append,List.length_map]
   omega
 · omega
theorem It{x:aP}(h:p.al.length≤1000):∀{o:List Int} {s:List Int×List Act},(fY b p x L o s).2.length≤s.2.length+1000*o.length
 |[],s=>Nat.le_refl _
 |c::o,s=>by
  have h1:=ZA (b:=b) (p:=p) (L:=L) (x:=x) (s:=s) (c:=c) h
  have h2:=It (x:=x) h (o:=o) (s:=lJ b p x L s c)
  have e:fY b p x L (c::o) s=fY b p x L o (lJ b p x L s c):=rfl
  rw[e]
  simp only[List.length_cons]
  omega
def ni(b:ak)(p:ah)(s:List Int×List Int×List Act)(x:aP):List Int×List Int×List Act:=
 if x.aa=[] then s else
  ((eH b x s.2.1 (bP b x) (s.1,s.2.2)).1,fY b p x (eH b x s.2.1 (bP b x) (s.1,s.2.2)).1 (bP b x) (s.2.1,(eH b x s.2.1 (bP b x) (s.1,s.2.2)).2))
def fm(b:ak)(p:ah)(l:List aP):List Int×List Int×List Act:=l.foldl (ni b p) (p.ar,[],[])
theorem I8(l:List aP)(x:aP):fm b p (l++[x])=ni b p (fm b p l) x:=by
 unfold fm
 rw[List.foldl_append]
 rfl
theorem wT(h:aH b p=0){x:aP}(hx:x∈aE b p):(∀c∈x.ae,0≤c∧c<(b.ae.length:Int))∧(∀c∈bP b x,0≤c∧c<(b.ae.length:Int))∧(bP b x).length≤16:=by
 obtain⟨⟨hl,hg⟩,_⟩:=bG.1 h
 obtain⟨h1,_⟩:=ns hg.1 hx
 have h2:∀c∈x.ae,0≤c∧c<(b.ae.length:Int):=fun c hc=>by have:=h1 c hc;omega
 refine⟨h2,fun c hc=>h2 c ((Qz h2).1 hc), ?_⟩
 have:=abV b x
 have:=hl.eN
 omega
theorem zK(h:aH b p=0):∀k,k≤(aE b p).length→g8 p (fm b p ((aE b p).take k)).1∧(fm b p ((aE b p).take k)).2.2.length≤20000*k
 |0,_=>⟨acY h,Nat.le_refl _⟩
 |k+1,hk=>by
  obtain⟨h1,h2⟩:=zK h k (by omega)
  obtain⟨s1,_,s3,_⟩:=gF h
  rw[gN (by omega),I8]
  have hx:=cr (l:=aE b p) (k:=k) (by omega)
  obtain⟨_,o1,o2⟩:=wT h hx
  unfold ni
  split
  · exact⟨h1,by omega⟩
  · obtain⟨l1,l2⟩:=xc (x:=gt (aE b p) k) (T:=(fm b p ((aE b p).take k)).2.1) (s:=((fm b p ((aE b p).take k)).1,(fm b p ((aE b p).take k)).2.2)) h h1 o1
    refine⟨l1, ?_⟩
    have:=It (b:=b) (p:=p) (L:=(eH b (gt (aE b p) k) (fm b p ((aE b p).take k)).2.1 (bP b (gt (aE b p) k)) ((fm b p ((aE b p).take k)).1,(fm b p ((aE b p).take k)).2.2)).1) (x:=gt (aE b p) k) (by omega) (o:=bP b (gt (aE b p) k)) (s:=((fm b p ((aE b p).take k)).2.1,(eH b (gt (aE b p) k) (fm b p ((aE b p).take k)).2.1 (bP b (gt (aE b p) k)) ((fm b p ((aE b p).take k)).1,(fm b p ((aE b p).take k)).2.2)).2))
    simp only at this l2⊢
    omega
end
end Rx
namespace Rx
section
variable {b:ak} {p:ah} {L T:List Int}
theorem ah4(h:aH b p=0)(hL:g8 p L)(T:List Int){x:aP}(hx:x∈aE b p){c:Int}(hc:0≤c∧c<(b.ae.length:Int)):kq (kH b x T L) (W (gt L c.toNat-(gt b.ae c.toNat).cF))=iU b x T L c:=by
 have h1:=EU h hL (k:=c.toNat) (by omega)
 have h2:=EY h (k:=c.toNat) (by omega)
 rw[bO (by omega) (by omega)]
 rfl
theorem acH(hb:bL b)(hp:bf p)(h:aH b p=0)(hL:g8 p L)(T:List Int){x:aP}(hx:x∈aE b p)(hs:x.aa≠[]){o:List Int}(ho:∀c∈o,0≤c∧c<(b.ae.length:Int))(uw:o.length≤1000){a:List Act}(ha:a.length≤10000000):
  Ed ⟨b,bm b p L T,a⟩ o (gt x.ai 0)=some (b.ai,b.ab,b.aa,b.ae,b.aG,b.aB,(bm b p L T).al,(bm b p L T).aa,(eH b x T o (L,a)).1,(bm b p L T).ax,o,(eH b x T o (L,a)).2):=by
 have dz:∀k,g8 p (eH b x T (o.take k) (L,a)).1∧(eH b x T (o.take k) (L,a)).2.length≤a.length+(o.take k).length:=fun k=>xc h (s:=(L,a)) hL fun c hc=>ho c (List.mem_of_mem_take hc)
 obtain⟨_,_,_,_,_,h6⟩:=gF h
 have fc:=dP (step:=z_ ⟨b,bm b p L T,a⟩ o (gt x.ai 0)) (r:=(b.ai,b.ab,b.aa,b.ae,b.aG,b.aB,(eH b x T o (L,a)).1,(eH b x T o (L,a)).2)) (fun k=>((k:Int),b.ai,b.ab,b.aa,b.ae,b.aG,b.aB,(eH b x T (o.take k) (L,a)).1,(eH b x T (o.take k) (L,a)).2)) o.length (fun k hk=>by
  obtain⟨cZ,lX⟩:=dz k
  have hc:=ho _ (cr hk)
  rw[List.length_take] at lX
  rw[gN hk,Rb]
  generalize eH b x T (o.take k) (L,a)=s at cZ lX⊢
  obtain⟨L1,a1⟩:=s
  simp only at cZ lX⊢
  have hlen:=cZ.len
  unfold z_
  have hex:=T7 hb hp h cZ T hx hs a1
  have iR:(⟨b.ai,b.ab,b.aa,b.ae,b.aG,b.aB⟩:ak)=b:=rfl
  have kA:(⟨(bm b p L T).al,(bm b p L T).aa,L1,(bm b p L T).ax⟩:ah)=bm b p L1 T:=rfl
  simp only[aU hk,if_true,aD hk,Option.bind_some,iR,kA,hex]
  rw[eU (l:=L1) hc.1 (by omega),eU (l:=b.ae) hc.1 hc.2]
  simp only[Option.bind_some,ah4 h cZ T hx hc]
  rw[aX (by omega)]
  have h1:=EU h cZ (k:=(gt o k).toNat) (by omega)
  have h2:=EY h (k:=(gt o k).toNat) (by omega)
  have h3:=MP (b:=b) (x:=x) (T:=T) (L:=L1) (c:=gt o k)
  unfold lO
  by_cases h0:0<iU b x T L1 (gt o k)
  · rw[dT (c:=iU b x T L1 (gt o k)>0) h0,if_pos h0,bO (by omega) (by omega),ww hc.1 (by omega)]
    simp only[if_true,Option.bind_some]
    rw[eU (l:=L1.set (gt o k).toNat _) hc.1 (by rw[List.length_set];omega)]
    simp only[Option.bind_some]
    rw[dI (by omega),if_pos rfl,c_ (by simp;omega)]
    rfl
  · rw[dF (c:=iU b x T L1 (gt o k)>0) h0,if_neg h0]
    simp only[Bool.false_eq_true,if_false,Option.bind_some]) (by
  unfold z_
  simp only[bA,Bool.false_eq_true,if_false,List.take_length]) (by omega)
 unfold Ed
 have xw:aC (z_ ⟨b,bm b p L T,a⟩ o (gt x.ai 0)) (0,b.ai,b.ab,b.aa,b.ae,b.aG,b.aB,L,a)=_:=fc
 simp only
 rw[show(bm b p L T).ar=L from rfl,xw]
 rfl
theorem ab1(hl:p.al.length≤b.ab.length)(T:List Int)(c:Int):eG (bm b p L T).al (fun i=>(gt b.ab i).Kind==3&&(gt b.ab i).B==c)=(bm b p L (T++[c])).al:=by
 show eG (eG p.al (mx b T)) _=eG p.al (mx b (T++[c]))
 rw[ab3]
 exact ab5 fun i _=>(Zx T c i).symm
theorem ZW(hp:bf p)(h:aH b p=0)(hL:g8 p L)(T:List Int){a:List Act}(ha:a.length≤1000000)(c:Int):
  Eb ⟨b,bm b p L T,a⟩ c=some (b.ai,b.ab,b.aa,b.ae,b.aG,b.aB,(bm b p L (T++[c])).al,p.aa,L,p.ax,c,a++(ee (bm b p L T).al fun i=>(gt b.ab i).Kind==3&&(gt b.ab i).B==c).map mm):=by
 obtain⟨s1,s2,s3,_⟩:=gF h
 have cg:(bm b p L T).al.length=p.al.length:=gR _ _
 unfold Eb
 have e1:aC (zY ⟨b,bm b p L T,a⟩ c) (0,[])=some (ee (bm b p L T).al fun i=>(gt b.ab i).Kind==3&&(gt b.ab i).B==c):=by
  have:=dP (step:=zY ⟨b,bm b p L T,a⟩ c) (r:=ee (bm b p L T).al fun i=>(gt b.ab i).Kind==3&&(gt b.ab i).B==c) (fun k=>((k:Int),aZ (fun i=>gt (bm b p L T).al i&&((gt b.ab i).Kind==3&&(gt b.ab i).B==c)) k)) b.ab.length (fun k hk=>by
   have iO:=ke (fun i=>gt (bm b p L T).al i&&((gt b.ab i).Kind==3&&(gt b.ab i).B==c)) k
   unfold zY I5
   simp only[aU hk,if_true,aD hk,Option.bind_some,aD (l:=(bm b p L T).al) (k:=k) (by omega)]
   rw[aX (by omega),kT]
   generalize aZ (fun i=>gt (bm b p L T).al i&&((gt b.ab i).Kind==3&&(gt b.ab i).B==c)) k=R at iO⊢
   cases gt (bm b p L T).al k with
   |false=>simp
   |true=>
    cases(gt b.ab k).Kind==3 with
    |false=>simp
    |true=>
     cases(gt b.ab k).B==c with
     |false=>simp
     |true=>
      simp only[if_true,Option.bind_some,Bool.and_self]
      rw[c_ (by simp;omega)]
      rfl) (by
   unfold zY
   simp only[bA,Bool.false_eq_true,if_false]
   unfold ee
   rw[cg,s1]) (by omega)
  simpa[aZ] using this
 rw[e1]
 have dG:=uV (bm b p L T).al fun i=>(gt b.ab i).Kind==3&&(gt b.ab i).B==c
 have e2:=Jz (b:=b) (p:=bm b p L T) (a:=a) (l:=ee (bm b p L T).al fun i=>(gt b.ab i).Kind==3&&(gt b.ab i).B==c) (by omega) (by omega) (by omega) uU
 rw[Mm,ab1 (by omega)] at e2
 simp only[Option.bind_some]
 rw[show aC (P' (ee (bm b p L T).al fun i=>(gt b.ab i).Kind==3&&(gt b.ab i).B==c)) (0,b.ai,b.ab,b.aa,b.ae,b.aG,b.aB,(bm b p L T).al,(bm b p L T).aa,(bm b p L T).ar,(bm b p L T).ax,a)=_ from e2]
 rfl
theorem Zy(hb:bL b)(hp:bf p)(h:aH b p=0)(hL:g8 p L)(T:List Int){x:aP}(hx:x∈aE b p)(hs:x.aa≠[]){o:List Int}(ho:∀c∈o,0≤c∧c<(b.ae.length:Int))(uw:o.length≤100){a:List Act}(ha:a.length≤500000):
  D9 ⟨b,bm b p L T,a⟩ o (gt x.ai 0)=some (b.ai,b.ab,b.aa,b.ae,b.aG,b.aB,(bm b p L (fY b p x L o (T,a)).1).al,p.aa,L,p.ax,o,(fY b p x L o (T,a)).2):=by
 obtain⟨s1,_,s3,_,_,h6⟩:=gF h
 have hlen:=hL.len
 have dz:∀k,(fY b p x L (o.take k) (T,a)).2.length≤a.length+1000*(o.take k).length:=fun k=>It (by omega)
 have fc:=dP (step:=zW o (gt x.ai 0)) (r:=cP b (bm b p L (fY b p x L o (T,a)).1) (fY b p x L o (T,a)).2) (fun k=>((k:Int),cP b (bm b p L (fY b p x L (o.take k) (T,a)).1) (fY b p x L (o.take k) (T,a)).2)) o.length (fun k hk=>by
  have lX:=dz k
  have hc:=ho _ (cr hk)
  rw[List.length_take] at lX
  rw[gN hk,Pb]
  generalize fY b p x L (o.take k) (T,a)=s at lX⊢
  obtain⟨T1,a1⟩:=s
  simp only at lX⊢
  have hex:=T7 hb hp h hL T1 hx hs a1
  have iR:(⟨b.ai,b.ab,b.aa,b.ae,b.aG,b.aB⟩:ak)=b:=rfl
  have kA:(⟨(bm b p L T1).al,(bm b p L T1).aa,(bm b p L T1).ar,(bm b p L T1).ax⟩:ah)=bm b p L T1:=rfl
  unfold zW
  simp only[cP,aU hk,if_true,aD hk,Option.bind_some,iR,kA,hex]
  rw[eU (l:=(bm b p L T1).ar) hc.1 (by show _<(L.length:Int);omega)]
  simp only[Option.bind_some]
  rw[aX (by omega)]
  have hT:lJ b p x L (T1,a1) (gt o k)=if 0<gt L (gt o k).toNat∧0<kH b x T1 L then(T1++[gt o k],a1++(ee (bm b p L T1).al fun i=>(gt b.ab i).Kind==3&&(gt b.ab i).B==gt o k).map mm) else(T1,a1):=rfl
  by_cases h1:0<gt L (gt o k).toNat
  · rw[dT (c:=gt (bm b p L T1).ar (gt o k).toNat>0) h1]
    by_cases h2:0<kH b x T1 L
    · rw[if_pos ⟨h1,h2⟩] at hT
      rw[hT,dT (c:=kH b x T1 L>0) h2]
      simp only[if_true,Option.bind_some,ZW hp h hL T1 (a:=a1) (by omega) (gt o k)]
      rfl
    · rw[if_neg fun c=>h2 c.2] at hT
      rw[hT,dF (c:=kH b x T1 L>0) h2]
      simp only[if_true,Bool.false_eq_true,if_false,Option.bind_some]
  · rw[if_neg fun c=>h1 c.1] at hT
    rw[hT,dF (c:=gt (bm b p L T1).ar (gt o k).toNat>0) h1]
    simp only[Bool.false_eq_true,if_false,Option.bind_some]) (by
  unfold zW
  simp only[cP,bA,Bool.false_eq_true,if_false,List.take_length]) (by omega)
 unfold D9
 have xw:aC (zW o (gt x.ai 0)) (0,b.ai,b.ab,b.aa,b.ae,b.aG,b.aB,(bm b p L T).al,(bm b p L T).aa,(bm b p L T).ar,(bm b p L T).ax,a)=_:=fc
 simp only
 rw[xw]
 rfl
theorem acK{a0 a:List Act}{x:aP}{c:Int}:lO b x T (L,a0++a) c=((lO b x T (L,a) c).1,a0++(lO b x T (L,a) c).2):=by
 unfold lO
 by_cases h:0<iU b x T L c
 · rw[if_pos h,if_pos h];simp
 · rw[if_neg h,if_neg h]
theorem Rc{a0:List Act}{x:aP}:∀{o:List Int} {L:List Int} {a:List Act},eH b x T o (L,a0++a)=((eH b x T o (L,a)).1,a0++(eH b x T o (L,a)).2)
 |[],L,a=>rfl
 |c::o,L,a=>by
  have e:∀s,eH b x T (c::o) s=eH b x T o (lO b x T s c):=fun _=>rfl
  rw[e,e,acK,Rc]
theorem ZB{a0 a:List Act}{x:aP}{c:Int}:lJ b p x L (T,a0++a) c=((lJ b p x L (T,a) c).1,a0++(lJ b p x L (T,a) c).2):=by
 unfold lJ
 by_cases h:0<gt L c.toNat∧0<kH b x T L
 · rw[if_pos h,if_pos h];simp
 · rw[if_neg h,if_neg h]
theorem Pc{a0:List Act}{x:aP}:∀{o:List Int} {T:List Int} {a:List Act},fY b p x L o (T,a0++a)=((fY b p x L o (T,a)).1,a0++(fY b p x L o (T,a)).2)
 |[],T,a=>rfl
 |c::o,T,a=>by
  have e:∀s,fY b p x L (c::o) s=fY b p x L o (lJ b p x L s c):=fun _=>rfl
  rw[e,e,ZB,Pc]
theorem Kq{l:List Int}(h:l.length≤1000000):tG l=some l:=by
 unfold tG
 rw[c_ (by simp;omega)]
 simp
def fC(b:ak)(p:ah):List Int×List Int×List Act:=fm b p (aE b p)
def lL(b:ak)(p:ah):ah:=bm b p (fC b p).1 (fC b p).2.1
theorem aaG(hb:bL b)(hp:bf p)(h:aH b p=0){a:List Act}(ha:a.length≤1000):Ec ⟨b,p,a⟩=some (cP b (lL b p) (a++(fC b p).2.2)):=by
 obtain⟨⟨hl,hg⟩,_⟩:=bG.1 h
 have LJ:jj b=0:=sL.2 ⟨hl,hg⟩
 have je:=rR (b:=b) (p:=p)
 have iD:=hl.ew
 have ln:=hl.eN
 have uw:(eT b).length≤16:=by rw[wX];exact ln
 unfold Ec
 simp only[QH hb LJ,xn hb hp h,Option.bind_some]
 have fc:=dP (step:=wM (eT b) (aE b p)) (r:=cP b (lL b p) (a++(fC b p).2.2)) (fun k=>((k:Int),cP b (bm b p (fm b p ((aE b p).take k)).1 (fm b p ((aE b p).take k)).2.1) (a++(fm b p ((aE b p).take k)).2.2))) (aE b p).length (fun k hk=>by
  obtain⟨cZ,lX⟩:=zK h k (by omega)
  have hx:=cr hk
  obtain⟨p1,p2,p3,p4,p5⟩:=ns hg.1 hx
  obtain⟨_,o1,o2⟩:=wT h hx
  rw[gN hk,I8]
  generalize fm b p ((aE b p).take k)=s at cZ lX⊢
  obtain⟨L1,T1,a1⟩:=s
  simp only at cZ lX⊢
  have de:Sm (gt (aE b p) k).ae:=by unfold Sm;omega
  unfold wM
  simp only[cP,aU hk,if_true,aD hk,Option.bind_some,Kq (l:=eT b) (by omega),Ul de (l:=eT b) (by omega)]
  have afM:(eT b).filter (fun c=>decide (c∈(gt (aE b p) k).ae))=bP b (gt (aE b p) k):=rfl
  rw[afM,aX (by omega)]
  unfold ni
  by_cases hs:(gt (aE b p) k).aa=[]
  · rw[if_pos hs,dF (c:=len (gt (aE b p) k).aa>0) (by rw[hs];decide)]
    simp only[Bool.false_eq_true,if_false,Option.bind_some]
  · have nu:len (gt (aE b p) k).aa>0:=by have:=List.length_pos_iff.2 hs;unfold len;omega
    have iR:(⟨b.ai,b.ab,b.aa,b.ae,b.aG,b.aB⟩:ak)=b:=rfl
    have kA:(⟨(bm b p L1 T1).al,(bm b p L1 T1).aa,(bm b p L1 T1).ar,(bm b p L1 T1).ax⟩:ah)=bm b p L1 T1:=rfl
    rw[if_neg hs,dT nu]
    simp only[if_true,Option.bind_some,iR,kA,show idx (gt (aE b p) k).ai 0=some (gt (gt (aE b p) k).ai 0) from aD p5,acH hb hp h cZ T1 hx hs o1 (by omega) (a:=a++a1) (by rw[List.length_append];omega),Rc]
    obtain⟨l1,l2⟩:=xc (x:=gt (aE b p) k) (T:=T1) (s:=(L1,a1)) h cZ o1
    generalize eH b (gt (aE b p) k) T1 (bP b (gt (aE b p) k)) (L1,a1)=s at l1 l2⊢
    obtain⟨L2,a2⟩:=s
    simp only at l1 l2⊢
    have aeK:(⟨(bm b p L1 T1).al,(bm b p L1 T1).aa,L2,(bm b p L1 T1).ax⟩:ah)=bm b p L2 T1:=rfl
    rw[aeK,Zy hb hp h l1 T1 hx hs o1 (by omega) (a:=a++a2) (by rw[List.length_append];omega),Pc]
    rfl) (by
  unfold wM
  simp only[cP,bA,Bool.false_eq_true,if_false,List.take_length]
  rfl) (by omega)
 have xw:aC (wM (eT b) (aE b p)) (0,cP b (bm b p p.ar []) (a++[]))=_:=fc
 rw[aac,List.append_nil] at xw
 rw[show aC (wM (eT b) (aE b p)) (0,b.ai,b.ab,b.aa,b.ae,b.aG,b.aB,p.al,p.aa,p.ar,p.ax,a)=_ from xw]
 rfl
end
end Rx
namespace Rx
section
variable {b:ak} {p:ah} {L T:List Int} {x:aP}
theorem rn(f:Nat→Int)(a:Int)(l:List Int):fb f (a::l)=f a.toNat+fb f l:=rfl
theorem Iw{f g:Nat→Int}:∀{l:List Int},(∀c∈l,f c.toNat=g c.toNat)→fb f l=fb g l
 |[],_=>rfl
 |a::l,h=>by rw[rn,rn,h a (by simp),Iw fun c hc=>h c (by simp[hc])]
theorem Pl{f:Nat→Int}:∀{l:List Int},(∀c∈l,f c.toNat=0)→fb f l=0
 |[],_=>rfl
 |a::l,h=>by rw[rn,h a (by simp),Pl fun c hc=>h c (by simp[hc])];rfl
theorem Pn{L:List Int}{c v:Int}(lZ:0≤c)(LN:c.toNat<L.length):∀{l:List Int},l.Nodup→(∀d∈l,0≤d)→c∈l→fb (gt (L.set c.toNat v)) l=fb (gt L) l-gt L c.toNat+v
 |[],_,_,h=>by cases h
 |a::l,hn,h0,h=>by
  rw[rn,rn]
  have A8:=List.nodup_cons.1 hn
  rw[dI LN]
  by_cases e:a=c
  · subst e
    rw[if_pos rfl]
    have:fb (gt (L.set a.toNat v)) l=fb (gt L) l:=Iw fun d hd=>by
     have FD:=h0 d (by simp[hd])
     have nC:d≠a:=fun e=>A8.1 (e▸hd)
     have amj:=h0 a (by simp)
     rw[dI LN,if_neg (by omega)]
    rw[this]
    omega
  · have ha0:=h0 a (by simp)
    rw[if_neg (by omega)]
    have hm:c∈l:=by
     rcases List.mem_cons.1 h with h|h
     · exact(e h.symm).elim
     · exact h
    rw[Pn lZ LN A8.2 (fun d hd=>h0 d (by simp[hd])) hm]
    omega
theorem Po{f:Nat→Int}{c:Int}:∀{l:List Int},l.Nodup→c∈l→fb f (l.filter fun d=> !decide (d=c))=fb f l-f c.toNat
 |[],_,h=>by cases h
 |a::l,hn,h=>by
  have A8:=List.nodup_cons.1 hn
  by_cases e:a=c
  · subst e
    have:l.filter (fun d=> !decide (d=a))=l:=List.filter_eq_self.2 fun d hd=>by
     have:d≠a:=fun e=>A8.1 (e▸hd)
     simp[this]
    rw[List.filter_cons,if_neg (by simp),this,rn]
    omega
  · have hm:c∈l:=by
     rcases List.mem_cons.1 h with h|h
     · exact(e h.symm).elim
     · exact h
    rw[List.filter_cons,if_pos (by simp[e]),rn,rn,Po A8.2 hm]
    omega
theorem ac5{T T' l:List Int}(h:∀c∈l,c∈T↔c∈T'):left T l=left T' l:=by
 unfold left
 refine List.filter_congr fun c hc=> ?_
 rw[decide_eq_decide.2 (h c hc)]
theorem Rn{T l:List Int}{c:Int}(h:c∈l)(h':c∉T):c∈left T l:=by
 unfold left
 rw[List.mem_filter]
 exact⟨h,by simp[h']⟩
theorem ac3(T l:List Int)(c:Int):left (T++[c]) l=(left T l).filter fun d=> !decide (d=c):=by
 unfold left
 rw[List.filter_filter]
 refine List.filter_congr fun d _=> ?_
 by_cases h1:d∈T<;>by_cases h2:d=c<;>simp[h1,h2]
def dr(x:aP)(T L:List Int):Int:=fb (gt L) (left T x.ae)
theorem Z5(hn:x.ae.Nodup){c:Int}(hc:c∈x.ae)(hT:c∉T):dr x (T++[c]) L=dr x T L-gt L c.toNat:=by
 unfold dr
 rw[ac3,Po (by unfold left;exact hn.filter _) (Rn hc hT)]
theorem Iv{L L' T T':List Int}(hL:∀c∈x.ae,gt L c.toNat=gt L' c.toNat)(hT:∀c∈x.ae,c∈T↔c∈T'):dr x T L=dr x T' L':=by
 unfold dr
 rw[ac5 hT]
 exact Iw fun c hc=>hL c (EV hc).1
theorem Mv:0<kH b x T L↔bU b x<dr x T L:=by
 unfold kH imax dr
 split<;>omega
theorem T8(h:bU b x<dr x T L):kH b x T L=dr x T L-bU b x:=by
 unfold kH imax
 unfold dr at h⊢
 split<;>omega
theorem aco{o:List Int}{n:Nat}(hn:n≤o.length){c:Int}:c∈o.take n↔∃i,i<n∧gt o i=c:=tT hn
theorem QW{o:List Int}(hn:o.Nodup){i j:Nat}(hi:i<o.length)(hj:j<o.length)(dQ:i≠j):gt o i≠gt o j:=by
 intro e
 rw[ep hi,ep hj] at e
 rcases Nat.lt_or_gt_of_ne dQ with h|h
 · exact(List.pairwise_iff_getElem.1 hn) i j hi hj h e
 · exact(List.pairwise_iff_getElem.1 hn) j i hj hi h e.symm
structure Row(b:ak)(x:aP)(o:List Int):Prop where
 nd:x.ae.Nodup
 QM:o.Nodup
 mem:∀c,c∈o↔c∈x.ae
 bd:∀c∈x.ae,0≤c∧c<(b.ae.length:Int)
theorem Row.at{o:List Int}(h:Row b x o){i:Nat}(hi:i<o.length):gt o i∈x.ae∧0≤gt o i∧gt o i<(b.ae.length:Int):=by
 have:=(h.mem _).1 (cr hi)
 exact⟨this,h.bd _ this⟩
theorem Jg(h:aH b p=0)(hx:x∈aE b p):Row b x (bP b x):=by
 obtain⟨h1,h2,h3⟩:=wT h hx
 refine⟨?_,abU b x,fun c=>Qz h1,h1⟩
 obtain⟨f,hf,e,_⟩:=oh.1 hx
 rw[e]
 exact abC _ _
structure alC(b:ak)(x:aP)(T L0 L:List Int)(o:List Int)(n:Nat):Prop where
 out:∀k:Nat,(∀i,i<n→gt o i≠(k:Int))→gt L k=gt L0 k
 lo:∀i,i<n→gt L (gt o i).toNat=gt L0 (gt o i).toNat∨gt L (gt o i).toNat<gt L0 (gt o i).toNat∧(gt b.ae (gt o i).toNat).cF≤gt L (gt o i).toNat
 ge:bU b x≤dr x T L∨L=L0
 le:dr x T L≤bU b x∨∀i,i<n→gt L (gt o i).toNat≤(gt b.ae (gt o i).toNat).cF
 AB:∀i j,i<j→j<n→gt L (gt o j).toNat<gt L0 (gt o j).toNat→gt L (gt o i).toNat≤(gt b.ae (gt o i).toNat).cF
theorem Ra(h:aH b p=0){o:List Int}(hr:Row b x o){s0:List Int×List Act}(hL:g8 p s0.1)(hT:∀c∈x.ae,c∉T):∀n,n≤o.length→alC b x T s0.1 (eH b x T (o.take n) s0).1 o n
 |0,_=>by
  have e:eH b x T (o.take 0) s0=s0:=rfl
  rw[e]
  exact⟨fun _ _=>rfl,fun i hi=>absurd hi (by omega),.inr rfl,.inr fun i hi=>absurd hi (by omega),fun i j _ hj=>absurd hj (by omega)⟩
 |n+1,hn=>by
  have ih:=Ra h hr hL hT n (by omega)
  have dz:=(xc (x:=x) (T:=T) h (o:=o.take n) hL fun c hc=>by
   have:=(hr.mem c).1 (List.mem_of_mem_take hc)
   exact hr.bd c this).1
  rw[gN (by omega),Rb]
  generalize eH b x T (o.take n) s0=s at ih dz⊢
  obtain⟨L1,a1⟩:=s
  simp only at ih dz⊢
  obtain⟨_,_,_,_,_,h6⟩:=gF h
  have hlen:=dz.len
  obtain⟨hc,lZ,d_⟩:=hr.at (i:=n) (by omega)
  have be:∀i,i<n→gt o i≠gt o n:=fun i hi=>QW hr.QM (by omega) (by omega) (by omega)
  have KT:∀i,i<n→(gt o i).toNat≠(gt o n).toNat:=fun i hi=>by
   have h1:=be i hi
   have h2:=(hr.at (i:=i) (by omega)).2
   omega
  have qJ:gt L1 (gt o n).toNat=gt s0.1 (gt o n).toNat:=ih.out _ fun i hi=>by have:=be i hi;omega
  have hb:=EY h (k:=(gt o n).toNat) (by omega)
  unfold lO
  by_cases ht:0<iU b x T L1 (gt o n)
  · rw[if_pos ht]
    simp only
    have h1:=MP (b:=b) (x:=x) (T:=T) (L:=L1) (c:=gt o n)
    have hex:bU b x<dr x T L1:=Mv.1 (by omega)
    have hee:=T8 hex
    have LM:iU b x T L1 (gt o n)=kH b x T L1∨iU b x T L1 (gt o n)=gt L1 (gt o n).toNat-(gt b.ae (gt o n).toNat).cF:=by
     unfold iU kq
     split
     · exact .inr rfl
     · exact .inl rfl
    have hS:dr x T (L1.set (gt o n).toNat (gt L1 (gt o n).toNat-iU b x T L1 (gt o n)))=dr x T L1-iU b x T L1 (gt o n):=by
     unfold dr
     rw[Pn lZ (by omega) (by unfold left;exact hr.nd.filter _) (fun d hd=>(hr.bd d (EV hd).1).1) (Rn hc (hT _ hc))]
     omega
    generalize iU b x T L1 (gt o n)=t at*
    have hg:∀k,gt (L1.set (gt o n).toNat (gt L1 (gt o n).toNat-t)) k=if k=(gt o n).toNat then gt L1 (gt o n).toNat-t else gt L1 k:=fun k=>dI (by omega)
    have iF:∀i,i<n→gt L1 (gt o i).toNat≤(gt b.ae (gt o i).toNat).cF:=by
     rcases ih.le with c|c
     · omega
     · exact c
    refine⟨fun k hk=> ?_,fun i hi=> ?_,.inl ?_, ?_,fun i j dQ hj hl=> ?_⟩
    · rw[hg,if_neg (by have:=hk n (by omega);omega)]
      exact ih.out k fun i hi=>hk i (by omega)
    · rw[hg]
      by_cases e:i=n
      · subst e
        rw[if_pos rfl]
        exact .inr ⟨by omega,by omega⟩
      · rw[if_neg (KT i (by omega))]
        exact ih.lo i (by omega)
    · rw[hS];omega
    · rw[hS]
      rcases LM with c|c
      · exact .inl (by omega)
      · refine .inr fun i hi=> ?_
        rw[hg]
        by_cases e:i=n
        · subst e
          rw[if_pos rfl]
          omega
        · rw[if_neg (KT i (by omega))]
          exact iF i (by omega)
    · rw[hg,if_neg (KT i (by omega))]
      exact iF i (by omega)
  · rw[if_neg ht]
    simp only
    have iw:dr x T L1≤bU b x∨gt L1 (gt o n).toNat≤(gt b.ae (gt o n).toNat).cF:=by
     by_cases hex:bU b x<dr x T L1
     · have hee:=T8 hex
       refine .inr ?_
       unfold iU kq at ht
       split at ht<;>omega
     · exact .inl (by omega)
    refine⟨fun k hk=>ih.out k fun i hi=>hk i (by omega),fun i hi=> ?_,ih.ge, ?_,fun i j dQ hj hl=> ?_⟩
    · by_cases e:i=n
      · subst e;exact .inl qJ
      · exact ih.lo i (by omega)
    · rcases iw with c|c
      · exact .inl c
      · rcases ih.le with d|d
        · exact .inl d
        · refine .inr fun i hi=> ?_
          by_cases e:i=n
          · subst e;exact c
          · exact d i (by omega)
    · by_cases e:j=n
      · subst e;omega
      · exact ih.AB i j dQ (by omega) hl
structure alw(b:ak)(x:aP)(L T0 T:List Int)(o:List Int)(n:Nat):Prop where
 out:∀c,(∀i,i<n→gt o i≠c)→(c∈T↔c∈T0)
 pos:∀i,i<n→gt o i∈T→0<gt L (gt o i).toNat
 le:dr x T L≤bU b x∨∀i,i<n→gt o i∈T∨gt L (gt o i).toNat=0
 ord:∀i j,i<j→j<n→gt o j∈T→gt o i∈T∨gt L (gt o i).toNat=0
 last:∀j,j<n→gt o j∈T→(∀i,j<i→i<n→gt o i∉T)→bU b x<dr x T L+gt L (gt o j).toNat
 none:dr x T0 L≤bU b x→T=T0
theorem Pa(h:aH b p=0){o:List Int}(hr:Row b x o)(hL:g8 p L){s0:List Int×List Act}(hT:∀c∈x.ae,c∉s0.1):∀n,n≤o.length→alw b x L s0.1 (fY b p x L (o.take n) s0).1 o n
 |0,_=>by
  have e:fY b p x L (o.take 0) s0=s0:=rfl
  rw[e]
  exact⟨fun _ _=>Iff.rfl,fun i hi=>absurd hi (by omega),.inr fun i hi=>absurd hi (by omega),fun i j _ hj=>absurd hj (by omega),fun i hi=>absurd hi (by omega),fun _=>rfl⟩
 |n+1,hn=>by
  have ih:=Pa h hr hL hT n (by omega)
  rw[gN (by omega),Pb]
  generalize fY b p x L (o.take n) s0=s at ih⊢
  obtain⟨T1,a1⟩:=s
  simp only at ih⊢
  obtain⟨hc,lZ,d_⟩:=hr.at (i:=n) (by omega)
  have be:∀i,i<n→gt o i≠gt o n:=fun i hi=>QW hr.QM (by omega) (by omega) (by omega)
  have Fp:gt o n∉T1:=fun hm=>hT _ hc ((ih.out _ be).1 hm)
  have hq:=EU h hL (k:=(gt o n).toNat) (by omega)
  unfold lJ
  by_cases ht:0<gt L (gt o n).toNat∧0<kH b x T1 L
  · rw[if_pos ht]
    simp only
    have hex:bU b x<dr x T1 L:=Mv.1 ht.2
    have hS:dr x (T1++[gt o n]) L=dr x T1 L-gt L (gt o n).toNat:=Z5 hr.nd hc Fp
    have hm:∀i,i<n→(gt o i∈T1++[gt o n]↔gt o i∈T1):=fun i hi=>by simp[be i hi]
    have iF:∀i,i<n→gt o i∈T1∨gt L (gt o i).toNat=0:=by
     rcases ih.le with c|c
     · omega
     · exact c
    refine⟨fun c hk=> ?_,fun i hi jx=> ?_,.inr fun i hi=> ?_,fun i j dQ hj _=> ?_,fun j hj xC Be=> ?_,fun h0=> ?_⟩
    · have:c≠gt o n:=fun e=>hk n (by omega) e.symm
      rw[List.mem_append]
      simp only[List.mem_singleton,this,or_false]
      exact ih.out c fun i hi=>hk i (by omega)
    · by_cases e:i=n
      · subst e;exact ht.1
      · exact ih.pos i (by omega) ((hm i (by omega)).1 jx)
    · by_cases e:i=n
      · subst e;exact .inl (by simp)
      · rcases iF i (by omega) with c|c
        · exact .inl ((hm i (by omega)).2 c)
        · exact .inr c
    · rcases iF i (by omega) with c|c
      · exact .inl ((hm i (by omega)).2 c)
      · exact .inr c
    · by_cases e:j=n
      · subst e;rw[hS];omega
      · exact(Be n (by omega) (by omega) (by simp)).elim
    · have:=ih.none h0
      subst this
      omega
  · rw[if_neg ht]
    simp only
    have iw:dr x T1 L≤bU b x∨gt L (gt o n).toNat=0:=by
     by_cases hex:bU b x<dr x T1 L
     · have:=Mv.2 hex
       exact .inr (by omega)
     · exact .inl (by omega)
    refine⟨fun c hk=>ih.out c fun i hi=>hk i (by omega),fun i hi jx=> ?_, ?_,fun i j dQ hj xC=> ?_,fun j hj xC Be=> ?_,ih.none⟩
    · by_cases e:i=n
      · subst e;exact(Fp jx).elim
      · exact ih.pos i (by omega) jx
    · rcases iw with c|c
      · exact .inl c
      · rcases ih.le with d|d
        · exact .inl d
        · refine .inr fun i hi=> ?_
          by_cases e:i=n
          · subst e;exact .inr c
          · exact d i (by omega)
    · by_cases e:j=n
      · subst e;exact(Fp xC).elim
      · exact ih.ord i j dQ (by omega) xC
    · by_cases e:j=n
      · subst e;exact(Fp xC).elim
      · exact ih.last j (by omega) xC fun i h1 h2=>Be i h1 (by omega)
end
end Rx
namespace Rx
section
variable {b:ak} {p:ah} {L T:List Int} {x:aP}
structure oU(b:ak)(p:ah)(x:aP)(L T:List Int):Prop where
 lo:∀c∈x.ae,gt L c.toNat=gt p.ar c.toNat∨gt L c.toNat<gt p.ar c.toNat∧(gt b.ae c.toNat).cF≤gt L c.toNat
 ge:bU b x≤dr x [] L∨∀c∈x.ae,gt L c.toNat=gt p.ar c.toNat
 le:dr x [] L≤bU b x∨∀c∈x.ae,gt L c.toNat≤(gt b.ae c.toNat).cF
 AB:∀i j,i<j→j<(bP b x).length→gt L (gt (bP b x) j).toNat<gt p.ar (gt (bP b x) j).toNat→gt L (gt (bP b x) i).toNat≤(gt b.ae (gt (bP b x) i).toNat).cF
 tz:dr x [] L≤bU b x→∀c∈x.ae,c∉T
 ZC:∀c∈x.ae,c∈T→0<gt L c.toNat
 Pd:∀i j,i<j→j<(bP b x).length→gt (bP b x) j∈T→gt (bP b x) i∈T∨gt L (gt (bP b x) i).toNat=0
 ZH:∀j,j<(bP b x).length→gt (bP b x) j∈T→(∀i,j<i→i<(bP b x).length→gt (bP b x) i∉T)→bU b x<dr x T L+gt L (gt (bP b x) j).toNat
 fin:dr x T L≤bU b x
def Kpt(p:ah)(x:aP)(L T:List Int):Prop:=∀c∈x.ae,gt L c.toNat=gt p.ar c.toNat∧c∉T
theorem oU.congr(hr:Row b x (bP b x)){L' T':List Int}(hL:∀c∈x.ae,gt L' c.toNat=gt L c.toNat)(hT:∀c∈x.ae,c∈T'↔c∈T)(h:oU b p x L T):oU b p x L' T':=by
 have e0:dr x [] L'=dr x [] L:=Iv hL fun _ _=>Iff.rfl
 have e1:dr x T' L'=dr x T L:=Iv hL hT
 refine⟨fun c hc=> ?_, ?_, ?_,fun i j dQ hj=> ?_,fun h0 c hc=> ?_,fun c hc=> ?_,fun i j dQ hj=> ?_,fun j hj=> ?_, ?_⟩
 · rw[hL c hc];exact h.lo c hc
 · rw[e0]
   exact h.ge.imp id fun g c hc=>by rw[hL c hc];exact g c hc
 · rw[e0]
   exact h.le.imp id fun g c hc=>by rw[hL c hc];exact g c hc
 · rw[hL _ (hr.at hj).1,hL _ (hr.at (i:=i) (by omega)).1]
   exact h.AB i j dQ hj
 · rw[hT c hc]
   exact h.tz (by rw[←e0];exact h0) c hc
 · rw[hT c hc,hL c hc]
   exact h.ZC c hc
 · rw[hT _ (hr.at hj).1,hT _ (hr.at (i:=i) (by omega)).1,hL _ (hr.at (i:=i) (by omega)).1]
   exact h.Pd i j dQ hj
 · rw[hT _ (hr.at hj).1,e1,hL _ (hr.at hj).1]
   exact fun hm hl=>h.ZH j hj hm fun i h1 h2 jx=>hl i h1 h2 ((hT _ (hr.at h2).1).2 jx)
 · rw[e1];exact h.fin
theorem Row.idx{o:List Int}(hr:Row b x o){c:Int}(hc:c∈x.ae):∃i,i<o.length∧gt o i=c:=jO ((hr.mem c).2 hc)
theorem aaI(h:aH b p=0)(hx:x∈aE b p)(hs:x.aa≠[]){s:List Int×List Int×List Act}(hL:g8 p s.1)(h0:∀c∈x.ae,gt s.1 c.toNat=gt p.ar c.toNat∧c∉s.2.1):
  oU b p x (ni b p s x).1 (ni b p s x).2.1∧∀c:Int,0≤c→c∉x.ae→gt (ni b p s x).1 c.toNat=gt s.1 c.toNat∧(c∈(ni b p s x).2.1↔c∈s.2.1):=by
 have hr:=Jg h hx
 have FL:∀c∈x.ae,c∉s.2.1:=fun c hc=>(h0 c hc).2
 unfold ni
 rw[if_neg hs]
 have hl:=Ra h hr (T:=s.2.1) (s0:=(s.1,s.2.2)) hL FL (bP b x).length (Nat.le_refl _)
 rw[List.take_length] at hl
 have dz:=(xc (x:=x) (T:=s.2.1) (s:=(s.1,s.2.2)) h (o:=bP b x) hL fun c hc=>hr.bd c ((hr.mem c).1 hc)).1
 generalize eH b x s.2.1 (bP b x) (s.1,s.2.2)=s1 at hl dz⊢
 obtain⟨L1,a1⟩:=s1
 simp only at hl dz⊢
 have ht:=Pa h hr dz (s0:=(s.2.1,a1)) FL (bP b x).length (Nat.le_refl _)
 rw[List.take_length] at ht
 generalize fY b p x L1 (bP b x) (s.2.1,a1)=s2 at ht⊢
 obtain⟨T1,a2⟩:=s2
 simp only at ht⊢
 have hS:∀L',dr x [] L'=dr x s.2.1 L':=fun L'=>Iv (fun _ _=>rfl) fun c hc=>by simp[FL c hc]
 refine⟨⟨fun c hc=> ?_, ?_, ?_,fun i j dQ hj=> ?_,fun g c hc=> ?_,fun c hc=> ?_,ht.ord,ht.last, ?_⟩,fun c lZ hc=>⟨?_, ?_⟩⟩
 · obtain⟨i,hi,rfl⟩:=hr.idx hc
   have:=hl.lo i hi
   rw[(h0 _ hc).1] at this
   exact this
 · rw[hS]
   exact hl.ge.imp id fun g c hc=>by rw[g];exact(h0 c hc).1
 · rw[hS]
   refine hl.le.imp id fun g c hc=> ?_
   obtain⟨i,hi,rfl⟩:=hr.idx hc
   exact g i hi
 · have:=hl.AB i j dQ hj
   rw[(h0 _ (hr.at hj).1).1] at this
   exact this
 · rw[hS] at g
   rw[ht.none g]
   exact FL c hc
 · obtain⟨i,hi,rfl⟩:=hr.idx hc
   exact ht.pos i hi
 · rcases ht.le with g|g
   · exact g
   · have:dr x T1 L1=0:=Pl fun c hc=>by
      obtain⟨h1,h2⟩:=EV hc
      obtain⟨i,hi,rfl⟩:=hr.idx h1
      exact(g i hi).resolve_left h2
     rw[this]
     exact(Qm h hx).1
 · refine hl.out c.toNat fun i hi e=>hc ?_
   have:=(hr.at hi).1
   rw[e] at this
   rwa[show((c.toNat:Nat):Int)=c by omega] at this
 · refine ht.out c fun i hi e=>hc ?_
   rw[←e]
   exact(hr.at hi).1
theorem J'{i j:Nat}(hi:i<(aE b p).length)(hj:j<(aE b p).length)(dQ:i≠j){c:Int}(h1:c∈(gt (aE b p) i).ae):c∉(gt (aE b p) j).ae:=by
 intro h2
 have key:∀i,i<(aE b p).length→∃f,gt (aE b p) i=cf b p f∧∃hf:i<((List.range b.ai.toNat).filter fun f=> !(cf b p f).ai.isEmpty).length,((List.range b.ai.toNat).filter fun f=> !(cf b p f).ai.isEmpty)[i]=f:=fun i hi=>by
  have hl:(aE b p).length=((List.range b.ai.toNat).filter fun f=> !(cf b p f).ai.isEmpty).length:=by rw[J_,List.length_map]
  refine⟨_, ?_,by omega,rfl⟩
  rw[ep hi]
  simp only[J_,List.getElem_map]
 obtain⟨f,e1,hf,e2⟩:=key i hi
 obtain⟨g,e3,hg,e4⟩:=key j hj
 rw[e1] at h1
 rw[e3] at h2
 obtain⟨u,_,_,hu,eu⟩:=w9.1 h1
 obtain⟨v,_,_,hv,ev⟩:=w9.1 h2
 have huv:u=v:=by omega
 subst huv
 have Te:f=g:=by omega
 have SE:((List.range b.ai.toNat).filter fun f=> !(cf b p f).ai.isEmpty).Nodup:=List.nodup_range.filter _
 rcases Nat.lt_or_gt_of_ne dQ with h|h
 · exact(List.pairwise_iff_getElem.1 SE) i j hf hg h (by rw[e2,e4,Te])
 · exact(List.pairwise_iff_getElem.1 SE) j i hg hf h (by rw[e2,e4,Te])
def One(b:ak)(p:ah)(x:aP)(L T:List Int):Prop:=(x.aa=[]→Kpt p x L T)∧(x.aa≠[]→oU b p x L T)
theorem One.congr(hr:Row b x (bP b x)){L' T':List Int}(hL:∀c∈x.ae,gt L' c.toNat=gt L c.toNat)(hT:∀c∈x.ae,c∈T'↔c∈T)(h:One b p x L T):One b p x L' T':=
 ⟨fun hs c hc=>by rw[hL c hc,hT c hc];exact h.1 hs c hc,fun hs=>(h.2 hs).congr hr hL hT⟩
theorem PL(h:aH b p=0):∀k,k≤(aE b p).length→(∀i,i<k→One b p (gt (aE b p) i) (fm b p ((aE b p).take k)).1 (fm b p ((aE b p).take k)).2.1)∧∀c:Int,0≤c→(∀i,i<k→c∉(gt (aE b p) i).ae)→gt (fm b p ((aE b p).take k)).1 c.toNat=gt p.ar c.toNat∧c∉(fm b p ((aE b p).take k)).2.1
 |0,_=>⟨fun i hi=>absurd hi (by omega),fun c _ _=>⟨rfl,by
    intro hm
    have e:(fm b p ((aE b p).take 0)).2.1=[]:=rfl
    rw[e] at hm
    cases hm⟩⟩
 |k+1,hk=>by
  obtain⟨i1,i2⟩:=PL h k (by omega)
  obtain⟨dz,_⟩:=zK h k (by omega)
  have hx:=cr (l:=aE b p) (k:=k) (by omega)
  have ul:∀i,i≤k→Row b (gt (aE b p) i) (bP b (gt (aE b p) i)):=fun i hi=>Jg h (cr (by omega))
  have h0:∀c∈(gt (aE b p) k).ae,gt (fm b p ((aE b p).take k)).1 c.toNat=gt p.ar c.toNat∧c∉(fm b p ((aE b p).take k)).2.1:=fun c hc=>i2 c ((ul k (Nat.le_refl _)).bd c hc).1 fun i hi=>J' (by omega) (by omega) (by omega) hc
  rw[gN (by omega),I8]
  generalize fm b p ((aE b p).take k)=s at*
  by_cases hs:(gt (aE b p) k).aa=[]
  · have e:ni b p s (gt (aE b p) k)=s:=by unfold ni;rw[if_pos hs]
    rw[e]
    refine⟨fun i hi=> ?_,fun c lZ hc=>i2 c lZ fun i hi=>hc i (by omega)⟩
    by_cases ei:i=k
    · subst ei
      exact⟨fun _=>h0,fun hn=>(hn hs).elim⟩
    · exact i1 i (by omega)
  · obtain⟨f1,f2⟩:=aaI h hx hs dz h0
    refine⟨fun i hi=> ?_,fun c lZ hc=> ?_⟩
    · by_cases ei:i=k
      · subst ei
        exact⟨fun hn=>(hs hn).elim,fun _=>f1⟩
      · have hr:=ul i (by omega)
        refine(i1 i (by omega)).congr hr (fun c hc=> ?_) fun c hc=> ?_
        · exact(f2 c (hr.bd c hc).1 (J' (by omega) (by omega) ei hc)).1
        · exact(f2 c (hr.bd c hc).1 (J' (by omega) (by omega) ei hc)).2
    · obtain⟨g1,g2⟩:=f2 c lZ (hc k (by omega))
      obtain⟨j1,j2⟩:=i2 c lZ fun i hi=>hc i (by omega)
      exact⟨by rw[g1,j1],fun hm=>j2 (g2.1 hm)⟩
theorem PK(h:aH b p=0)(hx:x∈aE b p):One b p x (fC b p).1 (fC b p).2.1:=by
 have:=(PL h (aE b p).length (Nat.le_refl _)).1
 rw[List.take_length] at this
 obtain⟨i,hi,rfl⟩:=jO hx
 exact this i hi
theorem wv(h:aH b p=0):g8 p (fC b p).1:=by
 have:=(zK h (aE b p).length (Nat.le_refl _)).1
 rw[List.take_length] at this
 exact this
theorem Z9(h:aH b p=0):aH b (lL b p)=0:=Df h (wv h) _
theorem aas(hp:bf p)(h:aH b p=0):bf (lL b p):=IE hp (wv h) _
end
end Rx
namespace Rx
section
variable {b:ak} {p:ah} {L T:List Int} {x:aP}
theorem abA(hs:x.aa=[]):bU b x=0:=by
 unfold bU
 rw[hs]
 rfl
theorem acV(hs:x.aa=[]):eI p x=0:=by
 unfold eI
 rw[if_pos hs]
end
end Rx
namespace Rx
section
variable {b:ak} {p:ah}
theorem Uk{q:ah}(hb:q.ax=p.ax)(hs:∀j,j<p.aa.length→(gt q.aa j).State=(gt p.aa j).State){x:aI}(hx:x.Kind=2→0≤x.B∧x.B<p.aa.length):fj q x=fj p x:=by
 unfold fj b_
 rw[hb]
 by_cases h2:x.Kind=2
 · have:=hx h2
   rw[hs x.B.toNat (by omega)]
 · by_cases h1:x.Kind=1
   · rw[if_pos h1,if_pos h1]
   · rw[if_neg h1,if_neg h2,if_neg h1,if_neg h2]
theorem Uy(h:aH b p=0){i:Nat}(hi:i<b.ab.length):gt (et b p).al i=(gt p.al i&& !fj p (gt b.ab i)&& !dead b (fV b p) (gt b.ab i)):=by
 obtain⟨s1,_⟩:=gF h
 show gt (eG (eG p.al _) _) i=_
 rw[lM (by rw[gR];omega),lM (by omega)]
theorem PP(h:aH b p=0):jm b (fV b p) (et b p):=(aaO h).trans (aaN (Dh h))
theorem nU(h:aH b p=0):aH b (et b p)=0:=Ix (Dh h)
theorem IG(hp:bf p):bf (et b p):=IF (PA hp)
theorem aa9{x1:ah}{x:aP}{out:List az}{i:Nat}(de:Sm x.aa)(hi:idx x.aa 0=some (i:Int))(cI:i<x1.aa.length)(h:∀k∈x.aa,0≤k∧k<out.length):
  aC (u6 x1 x) ((0:Int),out)=some (gp out (gt x1.aa i) x.aa):=by
 refine dP (step:=u6 x1 x) (fun k=>((k:Int),gp out (gt x1.aa i) (x.aa.take k))) x.aa.length (fun k hk=> ?_) (by simp only[u6,bA,Bool.false_eq_true,if_false,List.take_length])
 obtain⟨k0,k1⟩:=h _ (cr hk)
 obtain⟨j,hj⟩:=Int.eq_ofNat_of_zero_le k0
 have hj:gt x.aa k=(j:Int):=hj
 have bZ:j<(gp out (gt x1.aa i) (x.aa.take k)).length:=by rw[wx];omega
 have pI:j<((gp out (gt x1.aa i) (x.aa.take k)).set j {gt (gp out (gt x1.aa i) (x.aa.take k)) j with aB:=(gt x1.aa i).aB}).length:=by simpa using bZ
 simp only[u6,aU hk,if_true,aD hk,hi,aD cI,Option.bind_some,hj,aD bZ,fM bZ,aD pI,fM pI,aX (cN de hk),dI bZ,gN hk,I9,Int.toNat_natCast,List.set_set]
 rfl
theorem aa8(hb:bj b)(hl:dL b)(xt:p.aa.length=b.aa.length){x1:ah}(mG:x1.aa=p.aa):aC (F7 x1 (aE b p)) ((0:Int),p.aa)=some (cE b p):=by
 have iD:=hl.ew
 have iN:=hl.src
 have je:=rR (b:=b) (p:=p)
 refine Im.1 ?_
 refine hG (aE b p).length (fun k s=>∃out,s=((k:Int),out)∧out.length=p.aa.length∧∀j,j<p.aa.length→gt out j=if ∃q,q<k∧(j:Int)∈(gt (aE b p) q).aa then gj b p j else gt p.aa j) ⟨_,rfl,rfl,fun j hj=>by rw[if_neg (by rintro⟨q,hq,_⟩;omega)]⟩ ?_ ?_
 · rintro k s hk ⟨out,rfl,h1,h2⟩
   have hx:=cr hk
   have qI:∀s∈(gt (aE b p) k).aa,0≤s∧s<(p.aa.length:Int):=fun s hs=>by
    obtain⟨j,rfl,h,_⟩:=nr hx hs
    omega
   unfold F7
   simp only[aU hk,if_true,aD hk,Option.bind_some]
   have k7:∀j:Nat,(∃q,q<k+1∧(j:Int)∈(gt (aE b p) q).aa)↔(∃q,q<k∧(j:Int)∈(gt (aE b p) q).aa)∨(j:Int)∈(gt (aE b p) k).aa:=fun j=>by
    constructor
    · rintro⟨q,hq,h⟩
      by_cases KL:q=k
      · subst KL;exact .inr h
      · exact .inl ⟨q,by omega,h⟩
    · rintro(⟨q,hq,h⟩|h)
      · exact⟨q,by omega,h⟩
      · exact⟨k,by omega,h⟩
   by_cases h0:(gt (aE b p) k).aa.length=0
   · have e2:(gt (aE b p) k).aa=[]:=List.length_eq_zero_iff.1 h0
     have e3:aC (u6 x1 (gt (aE b p) k)) ((0:Int),out)=some out:=mB (.done (by simp[u6,e2,len])) (by omega)
     rw[e3]
     simp only[Option.bind_some]
     refine ay.2 ⟨out,by rw[aX (by omega)],h1,fun j hj=> ?_⟩
     rw[h2 j hj]
     have hi:(∃q,q<k+1∧(j:Int)∈(gt (aE b p) q).aa)↔(∃q,q<k∧(j:Int)∈(gt (aE b p) q).aa):=by
      rw[k7,e2];simp
     by_cases hh:∃q,q<k∧(j:Int)∈(gt (aE b p) q).aa
     · rw[if_pos hh,if_pos (hi.2 hh)]
     · rw[if_neg hh,if_neg (fun h=>hh (hi.1 h))]
   · have hlen:0<(gt (aE b p) k).aa.length:=by omega
     obtain⟨i,f1,f2,f3,f4⟩:=nr hx (cr hlen)
     have e0:idx (gt (aE b p) k).aa 0=some (i:Int):=by
      have:=aD hlen
      rw[f1] at this
      exact this
     have de:Sm (gt (aE b p) k).aa:=by
      obtain⟨f,_,e,_⟩:=oh.1 hx
      rw[e]
      have:=(pw (b:=b) (p:=p) f).2.1
      unfold Sm;omega
     rw[aa9 de e0 (by rw[mG];omega) (fun s hs=>by have:=qI s hs;omega),mG]
     simp only[Option.bind_some]
     refine ay.2 ⟨_,by rw[aX (by omega)],by rw[wx];exact h1,fun j hj=> ?_⟩
     rw[DS _ _ _ _ (fun s hs=>by have:=qI s hs;omega),h2 j hj]
     by_cases oB:(j:Int)∈(gt (aE b p) k).aa
     · rw[if_pos oB,if_pos ((k7 j).2 (.inr oB))]
       obtain⟨j',g1,g2,g3,g4⟩:=nr hx oB
       have:j'=j:=by omega
       subst this
       have lU:eJ b p j'=i:=by unfold eJ;rw[←g4,f1,Int.toNat_natCast]
       have hf:gj b p j'=oj (gt p.aa j') (gt p.aa i):=by unfold gj;rw[if_pos g3,lU]
       rw[hf]
       split<;>rfl
     · rw[if_neg oB]
       by_cases hh:∃q,q<k∧(j:Int)∈(gt (aE b p) q).aa
       · rw[if_pos hh,if_pos ((k7 j).2 (.inl hh))]
       · rw[if_neg hh,if_neg (fun h=>((k7 j).1 h).elim hh oB)]
 · rintro s ⟨out,rfl,h1,h2⟩
   unfold F7
   simp only[bA,Bool.false_eq_true,if_false]
   refine ay.2 ?_
   apply fi
   · rw[nE,h1]
   · intro j hj
     rw[h2 j (by omega),oI (by omega)]
     by_cases hc:(conn b p (j:Int)).2=true
     · obtain⟨g1,g2⟩:=Dl hb (show j<b.aa.length by omega) hc
       obtain⟨q,hq,e⟩:=jO g1
       rw[if_pos ⟨q,hq,by rw[e];exact g2⟩]
     · have hf:gj b p j=gt p.aa j:=by unfold gj;rw[if_neg hc]
       rw[hf]
       split<;>rfl
theorem aa'(h:bf p):Gf p=some (p.al,p.aa,p.ar,p.ax):=by
 obtain⟨h1,h2,h3,h4⟩:=h
 unfold Sm at*
 unfold Gf
 rw[c_ (by simp;omega),c_ (by simp;omega),c_ (by simp;omega),c_ (by simp;omega)]
 rfl
theorem aa7(hb:bL b)(hp:bf p)(h:aH b p=0):F8 b p=some (0,p.al,cE b p,p.ar,p.ax):=by
 obtain⟨⟨hl,hg⟩,⟨s1,s2,s3⟩,_⟩:=bG.1 h
 unfold F8 MH
 have e:(aH b p !=0)=false:=by rw[h];rfl
 simp only[Ad hb hp,Option.bind_some,e,Bool.false_eq_true,if_false,aa' hp,aa6 hb hp h,aa8 hg.1 hl s2 (x1:=p) rfl]
end
end Rx
namespace Rx
section
variable {b:ak} {p:ah} {L T:List Int} {x:aP}
def rb(b:ak)(c d:Int):Prop:=mA b c<mA b d∨mA b c=mA b d∧c<d
theorem Xs{c d:Int}(h:rb b c d)(h':rb b d c):False:=by
 unfold rb at h h'
 omega
theorem alf{c:Int}(h:rb b c c):False:=Xs h h
theorem QB{i k:Nat}(iQ:i<k)(hk:k<(bP b x).length):rb b (gt (bP b x) i) (gt (bP b x) k):=by
 have h:=List.pairwise_iff_getElem.1 ((Ep b).1.sublist (List.filter_sublist (p:=fun c=>decide (c∈x.ae)))) i k (by
  show i<(bP b x).length
  omega) hk iQ
 rw[ep (show i<(bP b x).length by omega),ep hk]
 exact h
theorem QA{i k:Nat}(hi:i<(bP b x).length)(h:rb b (gt (bP b x) i) (gt (bP b x) k)):i<k:=by
 rcases Nat.lt_trichotomy i k with c|c|c
 · exact c
 · subst c;exact(alf h).elim
 · exact(Xs h (QB c hi)).elim
theorem oU.abZ(hr:Row b x (bP b x))(h:oU b p x L T){c d:Int}(hc:c∈x.ae)(hd:d∈x.ae)(hb:rb b c d)(hT:d∈T):c∈T∨gt L c.toNat=0:=by
 obtain⟨i,hi,rfl⟩:=hr.idx hc
 obtain⟨j,hj,rfl⟩:=hr.idx hd
 exact h.Pd i j (QA hi hb) hj hT
theorem oU.acL(hr:Row b x (bP b x))(h:oU b p x L T){c d:Int}(hc:c∈x.ae)(hd:d∈x.ae)(hb:rb b c d)(hl:gt L d.toNat<gt p.ar d.toNat):gt L c.toNat≤(gt b.ae c.toNat).cF:=by
 obtain⟨i,hi,rfl⟩:=hr.idx hc
 obtain⟨j,hj,rfl⟩:=hr.idx hd
 exact h.AB i j (QA hi hb) hj hl
theorem oU.low(h:oU b p x L T){d:Int}(hd:d∈x.ae)(hT:d∈T){c:Int}(hc:c∈x.ae):gt L c.toNat≤(gt b.ae c.toNat).cF:=by
 rcases h.le with g|g
 · exact(h.tz g d hd hT).elim
 · exact g c hc
theorem aic(h:aH b p=0)(hx:x∈aE b p){c:Int}(hc:c∈x.ae):(cB b p 3 c).2=true:=by
 obtain⟨f,hf,rfl,_⟩:=oh.1 hx
 obtain⟨j,_,hj,_,rfl⟩:=w9.1 hc
 exact hj
theorem ahF(h:aH b p=0)(hL:g8 p L)(hx:x∈aE b p){c:Int}(hc:c∈x.ae):(iS b (bm b p L T) c).2= !decide (c∈T):=by
 unfold iS
 rw[if_pos (Df h hL T)]
 by_cases hT:c∈T
 · rw[Rp h L hT,decide_eq_true hT];rfl
 · rw[Rq h L hT,aic h hx hc,decide_eq_false hT];rfl
theorem Qb(l:List Int)(a:Int)(hl:l.length≤1000000000):oO l a=some (decide (a∈l)):=by
 unfold oO
 have e:=pt (step:=oN l a) (fun k=>(k:Int)) l.length (fun k=>gt l k=a) (r:=Sum.inr true) (e:=Sum.inl ()) (fun k hk hp=>by
  unfold oN
  simp only[aU hk,if_true,aD hk,Option.bind_some]
  rw[bW hp,aX (by omega)]
  rfl) (fun k hk hp=>by
  unfold oN
  simp only[aU hk,if_true,aD hk,Option.bind_some]
  rw[dU hp]
  rfl) (by
  unfold oN
  simp only[bA,Bool.false_eq_true,if_false])
 have e':aC (oN l a) 0=_:=e
 rw[e']
 have hm:dB (∃i,i<l.length∧gt l i=a)=decide (a∈l):=by
  by_cases hm:a∈l
  · rw[er (EH.1 hm),decide_eq_true hm]
  · rw[dj fun hh=>hm (EH.2 hh),decide_eq_false hm]
 rw[hm]
 cases decide (a∈l)<;>rfl
end
end Rx
namespace Rx
section
variable {b:ak} {p q:ah} {L T:List Int} {x:aP}
structure Clean(b:ak)(p:ah):Prop where
 fj:∀i,i<b.ab.length→gt p.al i=true→fj p (gt b.ab i)=false
 dead:∀i,i<b.ab.length→gt p.al i=true→dead b p (gt b.ab i)=false
 gj:cE b p=p.aa
theorem air(h:aH b p=0):Clean b (et b p):=by
 obtain⟨s1,s2,_⟩:=gF h
 refine⟨fun i hi hc=> ?_,fun i hi hc=> ?_,TQ (Dh h)⟩
 · rw[Uy h hi] at hc
   rw[Uk (q:=et b p) (p:=p) rfl (fun j hj=>(PP h).st j hj) (ID h hi)]
   cases LC:Rx.fj p (gt b.ab i) with
   |false=>rfl
   |true=>rw[LC] at hc;simp at hc
 · rw[Uy h hi] at hc
   unfold Rx.dead at hc⊢
   rw[(PP h).pu (Iy h) (nU h)]
   cases LC:((gt b.ab i).Kind==3&& !pu b (fV b p) (gt b.ab i).A) with
   |false=>rfl
   |true=>rw[LC] at hc;simp at hc
theorem ag_(hS:jm b p q)(hs:q.aa=p.aa):cE b q=cE b p:=by
 unfold cE
 rw[hs]
 refine List.map_congr_left fun j _=> ?_
 unfold Rx.gj eJ aT
 rw[hS.conn,hS.bl,(hS.IC _).1,hs]
theorem aiq(h:aH b p=0)(hC:Clean b p)(hL:g8 p L)(T:List Int):Clean b (bm b p L T):=by
 have hS:=Ja h L T
 refine⟨fun i hi hc=> ?_,fun i hi hc=> ?_, ?_⟩
 · rw[Uk (q:=bm b p L T) (p:=p) rfl (fun _ _=>rfl) (ID h hi)]
   exact hC.fj i hi (wY hc)
 · have:=hC.dead i hi (wY hc)
   unfold Rx.dead at this⊢
   rw[hS.pu h (Df h hL T)]
   exact this
 · rw[ag_ hS rfl]
   exact hC.gj
def bT(b:ak)(p:ah):ah:=lL b (et b p)
def rD(b:ak)(p:ah):List Act:=nJ b p++(fC b (et b p)).2.2
theorem Uz(h:aH b p=0):(nJ b p).length≤48:=by
 obtain⟨s1,_,s3,_⟩:=gF h
 have h1:=uV p.al fun i=>Rx.fj p (gt b.ab i)
 have h2:=uV (fV b p).al fun i=>Rx.dead b (fV b p) (gt b.ab i)
 have h3:(fV b p).al.length=p.al.length:=gR _ _
 unfold nJ
 simp only[List.length_append,List.length_map]
 omega
theorem Pq(h:aH b p=0):aH b (bT b p)=0:=Z9 (nU h)
theorem Px(hp:bf p)(h:aH b p=0):bf (bT b p):=aas (IG hp) (nU h)
theorem abI(hb:bL b)(hp:bf p)(h:aH b p=0):DN b p=some (0,(bT b p).al,(bT b p).aa,(bT b p).ar,(bT b p).ax,rD b p):=by
 unfold DN I3 I7
 rw[kR hb hp,h]
 simp only[Option.bind_some,bne_self_eq_false,Bool.false_eq_true,if_false,nK hp]
 rw[show(⟨b,⟨p.al,p.aa,p.ar,p.ax⟩,[]⟩:dA)=⟨b,p,[]⟩ from rfl,UE hb hp h]
 simp only[Option.bind_some]
 have e:=aaG hb (IG (b:=b) hp) (nU h) (a:=nJ b p) (by have:=Uz h;omega)
 rw[show(⟨⟨b.ai,b.ab,b.aa,b.ae,b.aG,b.aB⟩,⟨(et b p).al,(et b p).aa,(et b p).ar,(et b p).ax⟩,nJ b p⟩:dA)=⟨b,et b p,nJ b p⟩ from rfl,e]
 rfl
theorem Z3(h:aH b p=0)(hx:x∈aE b p)(hs:x.aa≠[]):dr x (fC b p).2.1 (fC b p).1≤bU b x:=((PK h hx).2 hs).fin
theorem QV(h:aH b p=0)(k:Int):eI (lL b p) (bM b (lL b p) k).1≤bU b (bM b (lL b p) k).1:=by
 unfold lL
 rw[QS h (wv h)]
 by_cases hk:0≤k∧k<b.ai
 · have hx:=(ud (p:=p) (bG.1 h).1.2.1 hk.1 hk.2).1
   have e:(bM b p k).1=aT b p k:=by unfold bM;rw[if_pos ⟨h,hk⟩]
   rw[e]
   by_cases hs:(aT b p k).aa=[]
   · have e1:eI (bm b p (fC b p).1 (fC b p).2.1) ⟨(aT b p k).ai,(aT b p k).aa,left (fC b p).2.1 (aT b p k).ae⟩=0:=acV hs
     have e2:bU b ⟨(aT b p k).ai,(aT b p k).aa,left (fC b p).2.1 (aT b p k).ae⟩=0:=abA hs
     rw[e1,e2]
     exact Int.le_refl _
   · have:=Z3 h hx hs
     have e2:eI (bm b p (fC b p).1 (fC b p).2.1) ⟨(aT b p k).ai,(aT b p k).aa,left (fC b p).2.1 (aT b p k).ae⟩=dr (aT b p k) (fC b p).2.1 (fC b p).1:=by
      unfold eI
      rw[if_neg hs]
      rfl
     rw[e2]
     exact this
 · have e:(bM b p k).1=⟨[],[],[]⟩:=by unfold bM;rw[if_neg fun hh=>hk hh.2]
   rw[e]
   exact Int.le_refl _
end
end Rx
namespace Rx
section
variable {b:ak} {p q:ah} {L T:List Int} {x:aP}
theorem Ub{a b:List az}(ha:Sm a):zB a b=some (dB (a=b)):=by
 unfold zB
 by_cases hl:a.length=b.length
 · have e1:(len a !=len b)=false:=by simp[len,hl]
   have h:=pt (step:=wg a b) (fun k=>(k:Int)) a.length (fun k=>gt a k≠gt b k) (r:= .inr false) (e:= .inl ())
    (fun k hk hp=>by
      have e2:=(PZ (gt a k) (gt b k)).2 (Classical.not_not.1 hp)
      simp only[wg,aU hk,if_true,aD hk,aD (show k<b.length by omega),Option.bind_some,e2,Bool.not_true,Bool.false_eq_true,if_false,aX (cN ha hk)])
    (fun k hk hp=>by
      have e2:((gt a k).State==(gt b k).State&&((gt a k).eD==(gt b k).eD&&((gt a k).aB==(gt b k).aB&&(gt a k).aG==(gt b k).aG)))=false:=by
       cases hh:((gt a k).State==(gt b k).State&&((gt a k).eD==(gt b k).eD&&((gt a k).aB==(gt b k).aB&&(gt a k).aG==(gt b k).aG))) with
       |false=>rfl
       |true=>exact(hp ((PZ _ _).1 hh)).elim
      simp only[wg,aU hk,if_true,aD hk,aD (show k<b.length by omega),Option.bind_some,e2,Bool.not_false])
    (by simp only[wg,bA,Bool.false_eq_true,if_false])
   have h':aC (wg a b) 0=_:=h
   simp only[e1,Bool.false_eq_true,if_false,h',Option.bind_some]
   by_cases he:a=b
   · subst he
     rw[dj (p:=∃k,k<a.length∧gt a k≠gt a k) (by simp),er rfl]
     rfl
   · have:∃k,k<a.length∧gt a k≠gt b k:=by
      apply Classical.byContradiction
      intro hn
      exact he (fi hl fun k hk=>Classical.byContradiction fun h=>hn ⟨k,hk,h⟩)
     rw[er this,dj he]
     rfl
 · have e1:(len a !=len b)=true:=by simp[len];omega
   have he:a≠b:=fun e=>hl (e▸rfl)
   rw[dj he]
   simp only[e1,if_true]
theorem Uc{a b:List Part}(ha:Sm a):zC a b=some (dB (a=b)):=by
 unfold zC
 by_cases hl:a.length=b.length
 · have e1:(len a !=len b)=false:=by simp[len,hl]
   have h:=pt (step:=wh a b) (fun k=>(k:Int)) a.length (fun k=>gt a k≠gt b k) (r:= .inr false) (e:= .inl ())
    (fun k hk hp=>by
      have e2:=(Ju (gt a k) (gt b k)).2 (Classical.not_not.1 hp)
      simp only[wh,aU hk,if_true,aD hk,aD (show k<b.length by omega),Option.bind_some,e2,Bool.not_true,Bool.false_eq_true,if_false,aX (cN ha hk)])
    (fun k hk hp=>by
      have e2:((gt a k).Kind==(gt b k).Kind&&(gt a k).Number==(gt b k).Number)=false:=by
       cases hh:((gt a k).Kind==(gt b k).Kind&&(gt a k).Number==(gt b k).Number) with
       |false=>rfl
       |true=>exact(hp ((Ju _ _).1 hh)).elim
      simp only[wh,aU hk,if_true,aD hk,aD (show k<b.length by omega),Option.bind_some,e2,Bool.not_false])
    (by simp only[wh,bA,Bool.false_eq_true,if_false])
   have h':aC (wh a b) 0=_:=h
   simp only[e1,Bool.false_eq_true,if_false,h',Option.bind_some]
   by_cases he:a=b
   · subst he
     rw[dj (p:=∃k,k<a.length∧gt a k≠gt a k) (by simp),er rfl]
     rfl
   · have:∃k,k<a.length∧gt a k≠gt b k:=by
      apply Classical.byContradiction
      intro hn
      exact he (fi hl fun k hk=>Classical.byContradiction fun h=>hn ⟨k,hk,h⟩)
     rw[er this,dj he]
     rfl
 · have e1:(len a !=len b)=true:=by simp[len];omega
   have he:a≠b:=fun e=>hl (e▸rfl)
   rw[dj he]
   simp only[e1,if_true]
def yO(p q:ah):Prop:=((∀k,k<q.al.length→gt q.al k=true→gt p.al k=true)∧∀k,k<q.ar.length→gt q.ar k≤gt p.ar k)∧p.aa=q.aa∧p.ax=q.ax
theorem ac0(hp:bf p)(hq:bf q)(h1:p.al.length=q.al.length)(h2:p.ar.length=q.ar.length):DM p q=some (dB (yO p q)):=by
 obtain⟨a1,a2,a3,a4⟩:=hp
 obtain⟨b1,b2,b3,b4⟩:=hq
 unfold DM
 have e1:=pt (step:=wo p q) (fun k=>(k:Int)) q.al.length (fun k=>gt q.al k=true∧gt p.al k=false) (r:= .inr false) (e:= .inl ())
  (fun k hk hn=>by
    unfold wo
    simp only[aU hk,if_true,aD hk,Option.bind_some,aD (l:=p.al) (k:=k) (by omega)]
    rw[aX (cN b1 hk)]
    cases hc:gt q.al k with
    |false=>simp
    |true=>
     cases hd:gt p.al k with
     |false=>exact(hn ⟨hc,hd⟩).elim
     |true=>simp)
  (fun k hk hp=>by
    unfold wo
    simp only[aU hk,if_true,aD hk,Option.bind_some,aD (l:=p.al) (k:=k) (by omega),hp.1,hp.2,Bool.not_false])
  (by
    unfold wo
    simp only[bA,Bool.false_eq_true,if_false])
 have e2:=pt (step:=wm p q) (fun k=>(k:Int)) q.ar.length (fun k=>gt p.ar k<gt q.ar k) (r:= .inr false) (e:= .inl ())
  (fun k hk hn=>by
    unfold wm
    simp only[aU hk,if_true,aD hk,Option.bind_some,aD (l:=p.ar) (k:=k) (by omega)]
    rw[aX (cN b3 hk),dF (by omega)]
    simp only[Bool.false_eq_true,if_false])
  (fun k hk hp=>by
    unfold wm
    simp only[aU hk,if_true,aD hk,Option.bind_some,aD (l:=p.ar) (k:=k) (by omega)]
    rw[dT (by omega)]
    simp only[if_true])
  (by
    unfold wm
    simp only[bA,Bool.false_eq_true,if_false])
 have BH:aC (wo p q) 0=_:=e1
 have u5:aC (wm p q) 0=_:=e2
 rw[BH]
 by_cases g1:∃k,k<q.al.length∧gt q.al k=true∧gt p.al k=false
 · obtain⟨k,hk,g,g'⟩:=g1
   rw[er ⟨k,hk,g,g'⟩,dj (p:=yO p q) fun hh=>by have:=hh.1.1 k hk g;rw[g'] at this;cases this]
   rfl
 · rw[dj g1,u5]
   by_cases g2:∃k,k<q.ar.length∧gt p.ar k<gt q.ar k
   · obtain⟨k,hk,g⟩:=g2
     rw[er ⟨k,hk,g⟩,dj (p:=yO p q) fun hh=>by have:=hh.1.2 k hk;omega]
     rfl
   · rw[dj g2]
     simp only[cond_false,Option.bind_some,Sum.elim_inl,Ub a2,Uc a4]
     have k1:∀k,k<q.al.length→gt q.al k=true→gt p.al k=true:=fun k hk hc=>by
      cases hd:gt p.al k with
      |true=>rfl
      |false=>exact(g1 ⟨k,hk,hc,hd⟩).elim
     have k2:∀k,k<q.ar.length→gt q.ar k≤gt p.ar k:=fun k hk=>by
      apply Classical.byContradiction
      intro hn
      exact g2 ⟨k,hk,by omega⟩
     by_cases g3:p.aa=q.aa
     · rw[er g3]
       simp only[if_true,Option.bind_some]
       congr 1
       exact Gp ⟨fun g4=>⟨⟨k1,k2⟩,g3,g4⟩,fun hh=>hh.2.2⟩
     · rw[dj g3,dj (p:=yO p q) fun hh=>g3 hh.2.1]
       rfl
def pS(b:ak)(q:ah)(c:Int):Bool:=(iS b q c).2&&decide ((gt b.ae c.toNat).cF<gt q.ar c.toNat)
def pP(b:ak)(q:ah)(c:Int):Bool:=(iS b q c).2&&decide (0<gt q.ar c.toNat)
def tq(b:ak)(q:ah):Int×List aI×List Source×List Consumer×Int×Int×List Bool×List az×List Int×List Part:=(b.ai,b.ab,b.aa,b.ae,b.aG,b.aB,q.al,q.aa,q.ar,q.ax)
theorem wW(hb:bL b)(hq:bf q)(c:Int):tH c b.ai b.ab b.aa b.ae b.aG b.aB q.al q.aa q.ar q.ax=some ((iS b q c).2,tq b q):=by
 have iR:(⟨b.ai,b.ab,b.aa,b.ae,b.aG,b.aB⟩:ak)=b:=rfl
 have uq:(⟨q.al,q.aa,q.ar,q.ax⟩:ah)=q:=rfl
 unfold tH
 rw[iR,uq,T6 hb hq]
 rfl
theorem QG(hb:bL b)(hq:bf q)(hl:q.ar.length=b.ae.length){c:Int}(hc:0≤c∧c<(b.ae.length:Int)):DK c b.ai b.ab b.aa b.ae b.aG b.aB q.al q.aa q.ar q.ax=some (pS b q c,tq b q):=by
 unfold DK pS
 rw[wW hb hq]
 simp only[Option.bind_some,tq]
 cases(iS b q c).2 with
 |false=>simp only[Bool.false_eq_true,if_false,Option.bind_some,Bool.false_and]
 |true=>
  simp only[if_true]
  rw[eU (l:=q.ar) hc.1 (by omega),eU (l:=b.ae) hc.1 hc.2]
  simp only[Option.bind_some,Bool.true_and]
theorem QF(hb:bL b)(hq:bf q)(hl:q.ar.length=b.ae.length){c:Int}(hc:0≤c∧c<(b.ae.length:Int)):DJ c b.ai b.ab b.aa b.ae b.aG b.aB q.al q.aa q.ar q.ax=some (pP b q c,tq b q):=by
 unfold DJ pP
 rw[wW hb hq]
 simp only[Option.bind_some,tq]
 cases(iS b q c).2 with
 |false=>simp only[Bool.false_eq_true,if_false,Option.bind_some,Bool.false_and]
 |true=>
  simp only[if_true]
  rw[eU (l:=q.ar) hc.1 (by omega)]
  simp only[Option.bind_some,Bool.true_and]
theorem T3{P:Int→Bool}{l:List Int}:l.any P=match(List.range l.length).find? (fun k=>P (gt l k)) with
  |some _=>true
  |none=>false:=by
 cases hf:(List.range l.length).find? (fun k=>P (gt l k)) with
 |some k=>
  have hk:=List.mem_range.1 (List.mem_of_find?_eq_some hf)
  have hp:=List.find?_some hf
  exact List.any_eq_true.2 ⟨_,cr hk,hp⟩
 |none=>
  refine List.any_eq_false.2 fun c hc=> ?_
  obtain⟨k,hk,rfl⟩:=jO hc
  exact List.find?_eq_none.1 hf k (List.mem_range.2 hk)
theorem Us(hb:bL b)(hq:bf q)(hl:q.ar.length=b.ae.length){l:List Int}(lh:l.length≤1000)(hc:∀c∈l,0≤c∧c<(b.ae.length:Int)):zF l b.ai b.ab b.aa b.ae b.aG b.aB q.al q.aa q.ar q.ax=some (l.any (pS b q),tq b q):=by
 unfold zF IM
 have h1:=km (step:=v5 l) (fun k=>((k:Int),tq b q)) l.length (fun k=>pS b q (gt l k)) (R:=fun k=> .inr ((k:Int),tq b q)) (e:= .inl (tq b q)) (fun k hk hp=>by
  unfold v5
  simp only[tq,aU hk,if_true,aD hk,Option.bind_some,QG hb hq hl (hc _ (cr hk)),hp,Bool.false_eq_true,if_false]
  rw[aX (by omega)]) (fun k hk hp=>by
  unfold v5
  simp only[tq,aU hk,if_true,aD hk,Option.bind_some,QG hb hq hl (hc _ (cr hk)),hp]) (by
  unfold v5
  simp only[tq,bA,Bool.false_eq_true,if_false]) (by omega)
 have fT:aC (v5 l) (0,b.ai,b.ab,b.aa,b.ae,b.aG,b.aB,q.al,q.aa,q.ar,q.ax)=_:=h1
 rw[fT,T3]
 cases(List.range l.length).find? (fun k=>pS b q (gt l k)) with
 |none=>rfl
 |some k=>
  simp only[Option.bind_some,Sum.elim_inr,tq]
  rw[dT (by omega)]
theorem Ur(hb:bL b)(hq:bf q)(hl:q.ar.length=b.ae.length){l:List Int}(lh:l.length≤1000)(hc:∀c∈l,0≤c∧c<(b.ae.length:Int)):DD l b.ai b.ab b.aa b.ae b.aG b.aB q.al q.aa q.ar q.ax=some (l.any (pP b q),tq b q):=by
 unfold DD IL
 have h1:=km (step:=vZ l) (fun k=>((k:Int),tq b q)) l.length (fun k=>pP b q (gt l k)) (R:=fun k=> .inr ((k:Int),tq b q)) (e:= .inl (tq b q)) (fun k hk hp=>by
  unfold vZ
  simp only[tq,aU hk,if_true,aD hk,Option.bind_some,QF hb hq hl (hc _ (cr hk)),hp,Bool.false_eq_true,if_false]
  rw[aX (by omega)]) (fun k hk hp=>by
  unfold vZ
  simp only[tq,aU hk,if_true,aD hk,Option.bind_some,QF hb hq hl (hc _ (cr hk)),hp]) (by
  unfold vZ
  simp only[tq,bA,Bool.false_eq_true,if_false]) (by omega)
 have fT:aC (vZ l) (0,b.ai,b.ab,b.aa,b.ae,b.aG,b.aB,q.al,q.aa,q.ar,q.ax)=_:=h1
 rw[fT,T3]
 cases(List.range l.length).find? (fun k=>pP b q (gt l k)) with
 |none=>rfl
 |some k=>
  simp only[Option.bind_some,Sum.elim_inr,tq]
  rw[dT (by omega)]
def oS(b:ak)(p q:ah)(o:List Int)(i:Nat):Bool:=
 ((decide (gt q.ar (gt o i).toNat<gt p.ar (gt o i).toNat)|| !(iS b q (gt o i)).2)&&(o.take i).any (pS b q))||(!(iS b q (gt o i)).2&&(o.take i).any (pP b q))
theorem PH{l:List Int}{i:Nat}(h:i≤l.length):dw l 0 (i:Int)=some (l.take i):=zH (by omega)
theorem QE(hb:bL b)(hq:bf q)(hl:q.ar.length=b.ae.length)(k9:p.ar.length=b.ae.length){o:List Int}(lh:o.length≤1000)(hc:∀c∈o,0≤c∧c<(b.ae.length:Int)):DL b p q o=some (!dB (∃i,i<o.length∧oS b p q o i=true)):=by
 unfold DL
 have h1:=pt (step:=wl p o) (fun k=>((k:Int),tq b q)) o.length (fun k=>oS b p q o k=true) (r:= .inr false) (e:= .inl (tq b q)) (fun k hk hp=>by
  have Bo:=hc _ (cr hk)
  have c2:=Us hb hq hl (l:=o.take k) (by rw[List.length_take];omega) (fun c hm=>hc c (List.mem_of_mem_take hm))
  have c3:=Ur hb hq hl (l:=o.take k) (by rw[List.length_take];omega) (fun c hm=>hc c (List.mem_of_mem_take hm))
  unfold wl
  simp only[tq,aU hk,if_true,aD hk,Option.bind_some,PH (show k≤o.length by omega)]
  rw[eU (l:=q.ar) Bo.1 (by omega),eU (l:=p.ar) Bo.1 (by omega),aX (by omega)]
  simp only[Option.bind_some,c2,c3,wW hb hq,tq]
  unfold oS at hp
  cases hd:decide (gt q.ar (gt o k).toNat<gt p.ar (gt o k).toNat)<;>cases hf:(iS b q (gt o k)).2<;>cases hu:(o.take k).any (pS b q)<;>cases hv:(o.take k).any (pP b q)<;>rw[hd,hf,hu,hv] at hp<;>simp[wW hb hq,c2,c3,hf,hu,hv,tq] at hp⊢) (fun k hk hp=>by
  have Bo:=hc _ (cr hk)
  have c2:=Us hb hq hl (l:=o.take k) (by rw[List.length_take];omega) (fun c hm=>hc c (List.mem_of_mem_take hm))
  have c3:=Ur hb hq hl (l:=o.take k) (by rw[List.length_take];omega) (fun c hm=>hc c (List.mem_of_mem_take hm))
  unfold wl
  simp only[tq,aU hk,if_true,aD hk,Option.bind_some,PH (show k≤o.length by omega)]
  rw[eU (l:=q.ar) Bo.1 (by omega),eU (l:=p.ar) Bo.1 (by omega),aX (by omega)]
  simp only[Option.bind_some,c2,c3,wW hb hq,tq]
  unfold oS at hp
  cases hd:decide (gt q.ar (gt o k).toNat<gt p.ar (gt o k).toNat)<;>cases hf:(iS b q (gt o k)).2<;>cases hu:(o.take k).any (pS b q)<;>cases hv:(o.take k).any (pP b q)<;>rw[hd,hf,hu,hv] at hp<;>simp[wW hb hq,c2,c3,hf,hu,hv,tq] at hp⊢) (by
  unfold wl
  simp only[tq,bA,Bool.false_eq_true,if_false]) (by omega)
 have fT:aC (wl p o) (0,b.ai,b.ab,b.aa,b.ae,b.aG,b.aB,q.al,q.aa,q.ar,q.ax)=_:=h1
 rw[fT]
 cases dB (∃i,i<o.length∧oS b p q o i=true)<;>rfl
theorem Um{x:aP}(hx:Sm x.ae){l:List Int}(hl:l.length≤1000):Dz l x=some (l.filter fun c=>decide (c∈x.ae)):=by
 have e1:DQ=wj:=rfl
 have e2:PE=v7:=rfl
 have e3:PF=zD:=rfl
 rw[←Ul hx hl]
 unfold Dz zE IN Dv
 rw[e2,e3]
def X1(b:ak)(c q:ah):Prop:=(yO c q∧∀k:Nat,k<b.ai.toNat→eI q (bM b q (k:Int)).1≤bU b (bM b q (k:Int)).1)∧∀x∈aE b c,∀i,i<(bP b x).length→oS b c q (bP b x) i=false
theorem ais(hb:bL b)(hp:bf p)(hq:bf q)(h:aH b p=0)(h':aH b q=0):DR b p q=some (dB (X1 b (et b p) q)):=by
 obtain⟨⟨hl,hg⟩,_⟩:=bG.1 h
 have iD:=hl.ew
 have ln:=hl.eN
 have LJ:jj b=0:=sL.2 ⟨hl,hg⟩
 have hc:=IG (b:=b) hp
 have hs:=nU h
 obtain⟨s1,s2,s3,s4,s5,s6⟩:=gF hs
 obtain⟨t1,t2,t3,t4,t5,t6⟩:=gF h'
 have LL:(⟨(et b p).al,(et b p).aa,(et b p).ar,(et b p).ax⟩:ah)=et b p:=rfl
 unfold DR
 simp only[ain hb hp h,Option.bind_some,show((0:Int) !=0)=false from rfl,Bool.false_eq_true,if_false,kR hb hq,h',LL,ac0 hc hq (by omega) (by omega)]
 generalize jh:et b p=c at*
 by_cases g1:yO c q
 case neg=>
  rw[dj g1,dj fun hh=>g1 hh.1.1]
  simp only[Bool.not_false,if_true]
 rw[er g1]
 simp only[Bool.not_true,Bool.false_eq_true,if_false]
 have e1:=pt (step:=wu b q) (fun k=>(k:Int)) b.ai.toNat (fun k=>bU b (bM b q (k:Int)).1<eI q (bM b q (k:Int)).1) (r:= .inr false) (e:= .inl ())
  (fun k hk hn=>by
    unfold wu
    rw[dT (by omega),Jx hb hq,dF hn,aX (by omega)]
    simp only[if_true,Option.bind_some,Bool.false_eq_true,if_false])
  (fun k hk hp=>by
    unfold wu
    rw[dT (by omega),Jx hb hq,dT hp]
    simp only[if_true,Option.bind_some])
  (by
    unfold wu
    rw[dF (by omega)]
    simp only[Bool.false_eq_true,if_false]) (by omega)
 have BH:aC (wu b q) 0=_:=e1
 rw[BH]
 by_cases g2:∃k,k<b.ai.toNat∧bU b (bM b q (k:Int)).1<eI q (bM b q (k:Int)).1
 · rw[er g2]
   obtain⟨k,hk,g⟩:=g2
   rw[dj fun hh=>by have:=hh.1.2 k hk;omega]
   rfl
 rw[dj g2]
 have k2:∀k:Nat,k<b.ai.toNat→eI q (bM b q (k:Int)).1≤bU b (bM b q (k:Int)).1:=fun k hk=>by
  apply Classical.byContradiction
  intro hn
  exact g2 ⟨k,hk,by omega⟩
 simp only[cond_false,Option.bind_some,Sum.elim_inl,QH hb LJ,xn hb hc hs]
 have je:=rR (b:=b) (p:=c)
 have e2:=pt (step:=wq b q ((0:Int),c.al,c.aa,c.ar,c.ax,nJ b p) (eT b) (aE b c)) (fun k=>(k:Int)) (aE b c).length (fun k=>∃i,i<(bP b (gt (aE b c) k)).length∧oS b c q (bP b (gt (aE b c) k)) i=true) (r:= .inr false) (e:= .inl ())
  (fun k hk hn=>by
    have hx:=cr hk
    obtain⟨p1,_,p3,_⟩:=ns hg.1 hx
    obtain⟨_,o1,o2⟩:=wT hs hx
    have LK:(⟨c.al,c.aa,c.ar,c.ax⟩:ah)=c:=rfl
    unfold wq
    simp only[aU hk,if_true,aD hk,Option.bind_some,Kq (l:=eT b) (by rw[wX];omega),Um (x:=gt (aE b c) k) (by unfold Sm;omega) (l:=eT b) (by rw[wX];omega),LK]
    rw[show(eT b).filter (fun d=>decide (d∈(gt (aE b c) k).ae))=bP b (gt (aE b c) k) from rfl,QE hb hq (by omega) (by omega) (by omega) o1,dj hn,aX (by omega)]
    rfl)
  (fun k hk hn=>by
    have hx:=cr hk
    obtain⟨p1,_,p3,_⟩:=ns hg.1 hx
    obtain⟨_,o1,o2⟩:=wT hs hx
    have LK:(⟨c.al,c.aa,c.ar,c.ax⟩:ah)=c:=rfl
    unfold wq
    simp only[aU hk,if_true,aD hk,Option.bind_some,Kq (l:=eT b) (by rw[wX];omega),Um (x:=gt (aE b c) k) (by unfold Sm;omega) (l:=eT b) (by rw[wX];omega),LK]
    rw[show(eT b).filter (fun d=>decide (d∈(gt (aE b c) k).ae))=bP b (gt (aE b c) k) from rfl,QE hb hq (by omega) (by omega) (by omega) o1,er hn]
    rfl)
  (by
    unfold wq
    simp only[bA,Bool.false_eq_true,if_false]) (by omega)
 have u5:aC (wq b q ((0:Int),c.al,c.aa,c.ar,c.ax,nJ b p) (eT b) (aE b c)) 0=_:=e2
 rw[u5]
 by_cases g3:∃k,k<(aE b c).length∧∃i,i<(bP b (gt (aE b c) k)).length∧oS b c q (bP b (gt (aE b c) k)) i=true
 · rw[er g3]
   obtain⟨k,hk,i,hi,g⟩:=g3
   rw[dj fun hh=>by have:=hh.2 _ (cr hk) i hi;rw[g] at this;cases this]
   rfl
 · rw[dj g3,er ⟨⟨g1,k2⟩,fun x hx i hi=>by
    obtain⟨k,hk,rfl⟩:=jO hx
    cases kE:oS b c q (bP b (gt (aE b c) k)) i with
    |false=>rfl
    |true=>exact(g3 ⟨k,hk,i,hi,kE⟩).elim⟩]
   rfl
end
end Rx
end Go.Proofs.YtaneejpkncdodaaGreat
