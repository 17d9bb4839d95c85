import Derived.Test.YtncbfgppjfcijaaGreatMb
set_option linter.unusedVariables false
set_option linter.unusedSimpArgs false
open Bool renaming false_eq_true→aqG,not_false→ard,not_true→aqW,true_and→ar6
open Classical renaming byContradiction→aq6,not_not→arF
open Int renaming toNat_natCast→aq8
open List renaming find?_eq_none→arB,length_append→aqY,length_cons→arz,length_map→ar0,length_set→arZ,length_take→arU,mem_range→aqV,range→aqN,take_length→arw
open Nat renaming le_refl→aqM
open Option renaming bind_some→aqF
noncomputable section
namespace Go.Proofs.YtncbfgppjfcijaaGreat
open Go Go.RowKit Dp
namespace Rx
section
variable {b:aj} {p:ae} {L T:List Int}
def mF(b:aj)(T:List Int)(i:Nat):Bool:=(gt b.ad i).Kind==3&&decide ((gt b.ad i).B∈T)
def bx(b:aj)(p:ae)(L T:List Int):ae:=⟨eG p.aq (mF b T),p.aa,L,p.aA⟩
structure ju(p:ae)(L:List Int):Prop where
 len:L.length=p.aE.length
 le:∀k,k<L.length→0≤gt L k∧gt L k≤gt p.aE k
theorem afR(h:aJ b p=0):ju p p.aE:=⟨rfl,fun k hk=>by
 obtain⟨_,_,_,_,_,h6⟩:=iK h
 have:=A3 h (k:=k) (by omega)
 omega⟩
theorem Lv(h:aJ b p=0){k:Nat}(hk:k<b.ai.length):0≤(gt b.ai k).dr∧(gt b.ai k).dr≤50000:=by
 obtain⟨⟨hl,hg⟩,_⟩:=bM.1 h
 have h1:=(hg.2.2.2.2 k hk).2
 omega
theorem Jf(h:aJ b p=0)(hL:ju p L)(T:List Int):aJ b (bx b p L T)=0:=by
 have hx:aJ b {p with aq:=eG p.aq (mF b T)}=0:=DH h (gV _ _) rfl rfl rfl fun k hk=>AS hk
 obtain⟨h1,⟨s1,s2,s3⟩,⟨g1,g2⟩,g3,g4⟩:=bM.1 hx
 refine bM.2 ⟨h1,⟨s1,s2,by show L.length=_;rw[hL.len];exact s3⟩,⟨g1,g2⟩,g3,fun k hk=> ?_⟩
 have bH:k<p.aE.length:=by rw[←hL.len];exact hk
 obtain⟨a,c⟩:=g4 k bH
 have h2:=hL.le k hk
 refine⟨⟨h2.1,Int.le_trans h2.2 a.2⟩, ?_⟩
 refine Nat.le_trans (V0 (b:=b) (p:={p with aq:=eG p.aq (mF b T)}) (q:=bx b p L T) (fun j hj=>hj) b.ad.length) c
theorem Jp(hp:bA p)(hL:ju p L)(T:List Int):bA (bx b p L T):=by
 obtain⟨h1,h2,h3,h4⟩:=hp
 refine⟨?_,h2, ?_,h4⟩
 · show Sm (eG p.aq _);unfold Sm at h1⊢;rw[gV];exact h1
 · show Sm L;unfold Sm at h3⊢;rw[hL.len];exact h3
theorem Kb(h:aJ b p=0)(L T:List Int):jt b p (bx b p L T):=by
 obtain⟨s1,_⟩:=iK h
 refine⟨rfl,fun _ _=>rfl,fun k hk h3=> ?_⟩
 show gt (eG p.aq _) k=_
 rw[lM (by omega)]
 unfold mF
 rw[bY h3]
 simp
theorem aeX(C:List Bool)(P Q:Nat→Bool):eG (eG C P) Q=eG C fun i=>P i||Q i:=by
 refine fp (by simp[gV]) fun i hi=> ?_
 rw[gV,gV] at hi
 rw[lM (by rw[gV];exact hi),lM hi,lM hi]
 cases gt C i<;>cases P i<;>rfl
theorem ae0{C:List Bool}{P Q:Nat→Bool}(h:∀i,i<C.length→P i=Q i):eG C P=eG C Q:=by
 refine fp (by simp[gV]) fun i hi=> ?_
 rw[gV] at hi
 rw[lM hi,lM hi,h i hi]
theorem aeY(C:List Bool){P:Nat→Bool}(h:∀i,P i=false):eG C P=C:=by
 refine fp (by simp[gV]) fun i hi=> ?_
 rw[gV] at hi
 rw[lM hi,h i]
 simp
theorem acV(p:ae):bx b p p.aE []=p:=by
 unfold bx
 rw[aeY p.aq fun i=>by unfold mF;simp]
theorem ach(T:List Int)(c:Int)(i:Nat):mF b (T++[c]) i=(mF b T i||((gt b.ad i).Kind==3&&(gt b.ad i).B==c)):=by
 unfold mF
 cases(gt b.ad i).Kind==3 with
 |false=>rfl
 |true=>
  simp only[ar6,List.mem_append,List.mem_singleton,Bool.decide_or]
  rw[show decide ((gt b.ad i).B=c)=((gt b.ad i).B==c) from rfl]
theorem afY(h:aJ b p=0)(L:List Int){T:List Int}{c:Int}(hc:c∉T):de b (bx b p L T) 3 c=de b p 3 c:=by
 obtain⟨s1,_⟩:=iK h
 refine SY fun k hk h3 hB=> ?_
 show gt (eG p.aq _) k=_
 rw[lM (by omega)]
 unfold mF
 rw[hB,decide_eq_false hc]
 simp
theorem afX(h:aJ b p=0)(L:List Int){T:List Int}{c:Int}(hc:c∈T):(de b (bx b p L T) 3 c).2=false:=by
 obtain⟨s1,_⟩:=iK h
 unfold de
 have:(aqN b.ad.length).find? (iE b (bx b p L T) 3 c)=none:=by
  rw[arB]
  intro k hk he
  have hk:=aqV.1 hk
  unfold iE at he
  simp only[Bool.and_eq_true,beq_iff_eq] at he
  obtain⟨⟨h3,hB⟩,cf⟩:=he
  have cf:gt (eG p.aq (mF b T)) k=true:=cf
  rw[lM (by omega)] at cf
  unfold mF at cf
  rw[h3,hB,decide_eq_true hc] at cf
  simp at cf
 rw[this]
theorem aeu(P:Nat→Bool)(Q:Int→Bool)(n:Nat):(a_ P n).filter Q=a_ (fun i=>P i&&Q (i:Int)) n:=by
 unfold a_
 rw[List.filter_map,List.filter_filter]
 congr 1
 refine List.filter_congr fun i _=> ?_
 simp[Bool.and_comm]
def left(T l:List Int):List Int:=l.filter fun c=> !decide (c∈T)
theorem agj(h:aJ b p=0)(L T:List Int)(f:Nat):cn b (bx b p L T) f=⟨(cn b p f).ak,(cn b p f).aa,left T (cn b p f).ai⟩:=by
 have hS:=Kb h L T
 obtain⟨e1,e2⟩:=hS.Jl f
 have e3:(cn b (bx b p L T) f).ai=left T (cn b p f).ai:=by
  show a_ (eT b (bx b p L T) f) _=left T (a_ (eT b p f) _)
  unfold left
  rw[aeu]
  congr 1
  funext j
  unfold eT
  rw[hS.bu]
  by_cases hc:(j:Int)∈T
  · rw[afX h L hc,decide_eq_true hc];simp
  · rw[afY h L hc,decide_eq_false hc];simp
 rw[←e1,←e2,←e3]
theorem ae8(h:aJ b p=0)(hL:ju p L)(T:List Int)(k:Int):(cD b (bx b p L T) k).1=⟨(cD b p k).1.ak,(cD b p k).1.aa,left T (cD b p k).1.ai⟩:=by
 unfold cD
 by_cases c:0≤k∧k<b.ak
 · rw[if_pos ⟨Jf h hL T,c⟩,if_pos ⟨h,c⟩]
   simp only
   unfold aW
   rw[(Kb h L T).bu]
   exact agj h L T _
 · rw[if_neg fun x=>c x.2,if_neg fun x=>c x.2]
   rfl
def p8(b:aj)(x:aR)(T L:List Int):Int:=imax 0 (jx (gt L) (left T x.ai)-fa b x)
theorem afV{T l:List Int}{c:Int}(h:c∈left T l):c∈l∧c∉T:=by
 unfold left at h
 rw[List.mem_filter] at h
 exact⟨h.1,by simpa using h.2⟩
theorem afW(T l:List Int):(left T l).length≤l.length:=List.length_filter_le _ _
theorem Lp(h:aJ b p=0)(hL:ju p L){k:Nat}(hk:k<b.ai.length):0≤gt L k∧gt L k≤50000:=by
 obtain⟨_,_,_,_,_,h6⟩:=iK h
 have h1:=hL.le k (by rw[hL.len];omega)
 have h2:=A3 h hk
 omega
theorem aes(h:aJ b p=0){x:aR}(hx:x∈aT b p):0≤fa b x∧fa b x≤400000:=by
 obtain⟨⟨hl,hg⟩,_⟩:=bM.1 h
 obtain⟨h1,h2,h3,h4,_⟩:=qK hg.1 hx
 have h8:=hl.src
 have:=zK (f:=fun k=>(gt b.aa k).dg) (l:=x.aa) (B:=50000) (fun c hc=>by
  have:=h2 c hc
  have:=AL h (k:=c.toNat) (by omega)
  exact⟨by omega,this.2⟩)
 unfold fa
 omega
theorem acK(h:aJ b p=0)(hL:ju p L){x:aR}(hx:x∈aT b p)(T:List Int):0≤jx (gt L) (left T x.ai)∧jx (gt L) (left T x.ai)≤800000:=by
 obtain⟨⟨hl,hg⟩,_⟩:=bM.1 h
 obtain⟨h1,h2,h3,h4,_⟩:=qK hg.1 hx
 have h8:=hl.eL
 have h9:=afW T x.ai
 have:=zK (f:=gt L) (l:=left T x.ai) (B:=50000) (fun c hc=>by
  have:=h1 c (afV hc).1
  exact Lp h hL (by omega))
 omega
theorem Vv(hb:bP b)(hp:bA p)(h:aJ b p=0)(hL:ju p L)(T:List Int){x:aR}(hx:x∈aT b p)(hs:x.aa≠[])(a:List Act):AB ⟨b,bx b p L T,a⟩ (gt x.ak 0)=some (p8 b x T L):=by
 unfold AB
 simp only[Lk hb (Jp (b:=b) hp hL T),Ks hb (Jp (b:=b) hp hL T),aqF]
 rw[ae8 h hL T,agn h hx]
 have h1:=acK h hL hx T
 have h2:=aes h hx
 have e1:jk (bx b p L T) ⟨x.ak,x.aa,left T x.ai⟩=jx (gt L) (left T x.ai):=by
  unfold jk
  rw[if_neg hs]
  rfl
 have e2:fa b ⟨x.ak,x.aa,left T x.ai⟩=fa b x:=rfl
 rw[e1,e2,be (by omega) (by omega)]
 rfl
def nQ(b:aj)(x:aR)(T L:List Int)(c:Int):Int:=dx (p8 b x T L) (gt L c.toNat-(gt b.ai c.toNat).dr)
def mJ(b:aj)(x:aR)(T:List Int)(s:List Int×List Act)(c:Int):List Int×List Act:=
 if 0<nQ b x T s.1 c then(s.1.set c.toNat (gt s.1 c.toNat-nQ b x T s.1 c),s.2++[⟨5,c,gt s.1 c.toNat-nQ b x T s.1 c⟩]) else s
def fv(b:aj)(x:aR)(T o:List Int)(s:List Int×List Act):List Int×List Act:=o.foldl (mJ b x T) s
theorem VL{x:aR}{c:Int}:nQ b x T L c≤gt L c.toNat-(gt b.ai c.toNat).dr∧nQ b x T L c≤p8 b x T L:=by
 unfold nQ dx
 split<;>omega
theorem afE(h:aJ b p=0){x:aR}{T:List Int}{s:List Int×List Act}(hL:ju p s.1){c:Int}(hc:0≤c∧c<(b.ai.length:Int)):ju p (mJ b x T s c).1∧(mJ b x T s c).2.length≤s.2.length+1:=by
 obtain⟨_,_,_,_,_,h6⟩:=iK h
 have hlen:=hL.len
 unfold mJ
 by_cases h0:0<nQ b x T s.1 c
 · rw[if_pos h0]
   have h1:=VL (b:=b) (x:=x) (T:=T) (L:=s.1) (c:=c)
   have h2:=Lv h (k:=c.toNat) (by omega)
   refine⟨⟨by simp[hlen],fun k hk=> ?_⟩,by simp⟩
   rw[arZ] at hk
   simp only
   rw[dz (by omega)]
   have h3:=hL.le k hk
   by_cases e:k=c.toNat
   · subst e;rw[if_pos rfl];omega
   · rw[if_neg e];exact h3
 · rw[if_neg h0];exact⟨hL,by omega⟩
theorem Fm(h:aJ b p=0){x:aR}{T:List Int}:∀{o:List Int} {s:List Int×List Act},ju p s.1→(∀c∈o,0≤c∧c<(b.ai.length:Int))→ju p (fv b x T o s).1∧(fv b x T o s).2.length≤s.2.length+o.length
 |[],s,hL,ho=>⟨hL,aqM _⟩
 |c::o,s,hL,ho=>by
  obtain⟨h1,h2⟩:=afE (T:=T) (x:=x) h hL (ho c (by simp))
  obtain⟨h3,h4⟩:=Fm (x:=x) (T:=T) h (o:=o) h1 (fun d hd=>ho d (by simp[hd]))
  have e:fv b x T (c::o) s=fv b x T o (mJ b x T s c):=rfl
  rw[e]
  exact⟨h3,by simp only[arz];omega⟩
theorem afG{x:aR}{o:List Int}{c:Int}{s:List Int×List Act}:fv b x T (o++[c]) s=mJ b x T (fv b x T o s) c:=by
 unfold fv
 rw[List.foldl_append]
 rfl
def mG(b:aj)(p:ae)(x:aR)(L:List Int)(s:List Int×List Act)(c:Int):List Int×List Act:=
 if 0<gt L c.toNat∧0<p8 b x s.1 L then(s.1++[c],s.2++(ef (bx b p L s.1).aq fun i=>(gt b.ad i).Kind==3&&(gt b.ad i).B==c).map mq) else s
def ix(b:aj)(p:ae)(x:aR)(L o:List Int)(s:List Int×List Act):List Int×List Act:=o.foldl (mG b p x L) s
theorem acn{x:aR}{o:List Int}{c:Int}{s:List Int×List Act}:ix b p x L (o++[c]) s=mG b p x L (ix b p x L o s) c:=by
 unfold ix
 rw[List.foldl_append]
 rfl
theorem ack{x:aR}{s:List Int×List Act}{c:Int}(h:p.aq.length≤1000):(mG b p x L s c).2.length≤s.2.length+1000:=by
 unfold mG
 split
 · have:=vz (bx b p L s.1).aq fun i=>(gt b.ad i).Kind==3&&(gt b.ad i).B==c
   have e:(bx b p L s.1).aq.length=p.aq.length:=gV _ _
   simp only[aqY,ar0]
   omega
 · omega
theorem Ja{x:aR}(h:p.aq.length≤1000):∀{o:List Int} {s:List Int×List Act},(ix b p x L o s).2.length≤s.2.length+1000*o.length
 |[],s=>aqM _
 |c::o,s=>by
  have h1:=ack (b:=b) (p:=p) (L:=L) (x:=x) (s:=s) (c:=c) h
  have h2:=Ja (x:=x) h (o:=o) (s:=mG b p x L s c)
  have e:ix b p x L (c::o) s=ix b p x L o (mG b p x L s c):=rfl
  rw[e]
  simp only[arz]
  omega
def Ag(b:aj)(p:ae)(s:List Int×List Int×List Act)(x:aR):List Int×List Int×List Act:=
 if x.aa=[] then s else
  ((fv b x s.2.1 (lL b x) (s.1,s.2.2)).1,ix b p x (fv b x s.2.1 (lL b x) (s.1,s.2.2)).1 (lL b x) (s.2.1,(fv b x s.2.1 (lL b x) (s.1,s.2.2)).2))
def iN(b:aj)(p:ae)(l:List aR):List Int×List Int×List Act:=l.foldl (Ag b p) (p.aE,[],[])
theorem Rj(l:List aR)(x:aR):iN b p (l++[x])=Ag b p (iN b p l) x:=by
 unfold iN
 rw[List.foldl_append]
 rfl
theorem KC(h:aJ b p=0){x:aR}(hx:x∈aT b p):(∀c∈x.ai,0≤c∧c<(b.ai.length:Int))∧(∀c∈lL b x,0≤c∧c<(b.ai.length:Int))∧(lL b x).length≤16:=by
 obtain⟨⟨hl,hg⟩,_⟩:=bM.1 h
 obtain⟨h1,_⟩:=qK hg.1 hx
 have h2:∀c∈x.ai,0≤c∧c<(b.ai.length:Int):=fun c hc=>by have:=h1 c hc;omega
 refine⟨h2,fun c hc=>h2 c ((aeP h2).1 hc), ?_⟩
 have:=aeQ b x
 have:=hl.eL
 omega
theorem Ei(h:aJ b p=0):∀k,k≤(aT b p).length→ju p (iN b p ((aT b p).take k)).1∧(iN b p ((aT b p).take k)).2.2.length≤20000*k
 |0,_=>⟨afR h,aqM _⟩
 |k+1,hk=>by
  obtain⟨h1,h2⟩:=Ei h k (by omega)
  obtain⟨s1,_,s3,_⟩:=iK h
  rw[iM (by omega),Rj]
  have hx:=cV (l:=aT b p) (k:=k) (by omega)
  obtain⟨_,o1,o2⟩:=KC h hx
  unfold Ag
  split
  · exact⟨h1,by omega⟩
  · obtain⟨l1,l2⟩:=Fm (x:=gt (aT b p) k) (T:=(iN b p ((aT b p).take k)).2.1) (s:=((iN b p ((aT b p).take k)).1,(iN b p ((aT b p).take k)).2.2)) h h1 o1
    refine⟨l1, ?_⟩
    have:=Ja (b:=b) (p:=p) (L:=(fv b (gt (aT b p) k) (iN b p ((aT b p).take k)).2.1 (lL b (gt (aT b p) k)) ((iN b p ((aT b p).take k)).1,(iN b p ((aT b p).take k)).2.2)).1) (x:=gt (aT b p) k) (by omega) (o:=lL b (gt (aT b p) k)) (s:=((iN b p ((aT b p).take k)).2.1,(fv b (gt (aT b p) k) (iN b p ((aT b p).take k)).2.1 (lL b (gt (aT b p) k)) ((iN b p ((aT b p).take k)).1,(iN b p ((aT b p).take k)).2.2)).2))
    simp only at this l2⊢
    omega
end
end Rx
namespace Rx
section
variable {b:aj} {p:ae} {L T:List Int}
theorem ak6(h:aJ b p=0)(hL:ju p L)(T:List Int){x:aR}(hx:x∈aT b p){c:Int}(hc:0≤c∧c<(b.ai.length:Int)):dx (p8 b x T L) (W (gt L c.toNat-(gt b.ai c.toNat).dr))=nQ b x T L c:=by
 have h1:=Lp h hL (k:=c.toNat) (by omega)
 have h2:=Lv h (k:=c.toNat) (by omega)
 rw[be (by omega) (by omega)]
 rfl
theorem afC(hb:bP b)(hp:bA p)(h:aJ b p=0)(hL:ju p L)(T:List Int){x:aR}(hx:x∈aT b p)(hs:x.aa≠[]){o:List Int}(ho:∀c∈o,0≤c∧c<(b.ai.length:Int))(uT:o.length≤1000){a:List Act}(ha:a.length≤10000000):
  EH ⟨b,bx b p L T,a⟩ o (gt x.ak 0)=some (b.ak,b.ad,b.aa,b.ai,b.aG,b.aB,(bx b p L T).aq,(bx b p L T).aa,(fv b x T o (L,a)).1,(bx b p L T).aA,o,(fv b x T o (L,a)).2):=by
 have fS:∀k,ju p (fv b x T (o.take k) (L,a)).1∧(fv b x T (o.take k) (L,a)).2.length≤a.length+(o.take k).length:=fun k=>Fm h (s:=(L,a)) hL fun c hc=>ho c (List.mem_of_mem_take hc)
 obtain⟨_,_,_,_,_,h6⟩:=iK h
 have fb:=dE (step:=AA ⟨b,bx b p L T,a⟩ o (gt x.ak 0)) (r:=(b.ak,b.ad,b.aa,b.ai,b.aG,b.aB,(fv b x T o (L,a)).1,(fv b x T o (L,a)).2)) (fun k=>((k:Int),b.ak,b.ad,b.aa,b.ai,b.aG,b.aB,(fv b x T (o.take k) (L,a)).1,(fv b x T (o.take k) (L,a)).2)) o.length (fun k hk=>by
  obtain⟨cZ,lY⟩:=fS k
  have hc:=ho _ (cV hk)
  rw[arU] at lY
  rw[iM hk,afG]
  generalize fv b x T (o.take k) (L,a)=s at cZ lY⊢
  obtain⟨L1,a1⟩:=s
  simp only at cZ lY⊢
  have hlen:=cZ.len
  unfold AA
  have hex:=Vv hb hp h cZ T hx hs a1
  have nL:(⟨b.ak,b.ad,b.aa,b.ai,b.aG,b.aB⟩:aj)=b:=rfl
  have lj:(⟨(bx b p L T).aq,(bx b p L T).aa,L1,(bx b p L T).aA⟩:ae)=bx b p L1 T:=rfl
  simp only[aQ hk,if_true,az hk,aqF,nL,lj,hex]
  rw[fQ (l:=L1) hc.1 (by omega),fQ (l:=b.ai) hc.1 hc.2]
  simp only[aqF,ak6 h cZ T hx hc]
  rw[aU (by omega)]
  have h1:=Lp h cZ (k:=(gt o k).toNat) (by omega)
  have h2:=Lv h (k:=(gt o k).toNat) (by omega)
  have h3:=VL (b:=b) (x:=x) (T:=T) (L:=L1) (c:=gt o k)
  unfold mJ
  by_cases h0:0<nQ b x T L1 (gt o k)
  · rw[dT (c:=nQ b x T L1 (gt o k)>0) h0,if_pos h0,be (by omega) (by omega),wT hc.1 (by omega)]
    simp only[if_true,aqF]
    rw[fQ (l:=L1.set (gt o k).toNat _) hc.1 (by rw[arZ];omega)]
    simp only[aqF]
    rw[dz (by omega),if_pos rfl,cp (by simp;omega)]
    rfl
  · rw[dF (c:=nQ b x T L1 (gt o k)>0) h0,if_neg h0]
    simp only[aqG,if_false,aqF]) (by
  unfold AA
  simp only[bl,aqG,if_false,arw]) (by omega)
 unfold EH
 have xO:ay (AA ⟨b,bx b p L T,a⟩ o (gt x.ak 0)) (0,b.ak,b.ad,b.aa,b.ai,b.aG,b.aB,L,a)=_:=fb
 simp only
 rw[show(bx b p L T).aE=L from rfl,xO]
 rfl
theorem aeV(hl:p.aq.length≤b.ad.length)(T:List Int)(c:Int):eG (bx b p L T).aq (fun i=>(gt b.ad i).Kind==3&&(gt b.ad i).B==c)=(bx b p L (T++[c])).aq:=by
 show eG (eG p.aq (mF b T)) _=eG p.aq (mF b (T++[c]))
 rw[aeX]
 exact ae0 fun i _=>(ach T c i).symm
theorem acG(hp:bA p)(h:aJ b p=0)(hL:ju p L)(T:List Int){a:List Act}(ha:a.length≤1000000)(c:Int):
  EF ⟨b,bx b p L T,a⟩ c=some (b.ak,b.ad,b.aa,b.ai,b.aG,b.aB,(bx b p L (T++[c])).aq,p.aa,L,p.aA,c,a++(ef (bx b p L T).aq fun i=>(gt b.ad i).Kind==3&&(gt b.ad i).B==c).map mq):=by
 obtain⟨s1,s2,s3,_⟩:=iK h
 have cf:(bx b p L T).aq.length=p.aq.length:=gV _ _
 unfold EF
 have e1:ay (Ay ⟨b,bx b p L T,a⟩ c) (0,[])=some (ef (bx b p L T).aq fun i=>(gt b.ad i).Kind==3&&(gt b.ad i).B==c):=by
  have:=dE (step:=Ay ⟨b,bx b p L T,a⟩ c) (r:=ef (bx b p L T).aq fun i=>(gt b.ad i).Kind==3&&(gt b.ad i).B==c) (fun k=>((k:Int),a_ (fun i=>gt (bx b p L T).aq i&&((gt b.ad i).Kind==3&&(gt b.ad i).B==c)) k)) b.ad.length (fun k hk=>by
   have iT:=ky (fun i=>gt (bx b p L T).aq i&&((gt b.ad i).Kind==3&&(gt b.ad i).B==c)) k
   unfold Ay JW
   simp only[aQ hk,if_true,az hk,aqF,az (l:=(bx b p L T).aq) (k:=k) (by omega)]
   rw[aU (by omega),kU]
   generalize a_ (fun i=>gt (bx b p L T).aq i&&((gt b.ad i).Kind==3&&(gt b.ad i).B==c)) k=R at iT⊢
   cases gt (bx b p L T).aq k with
   |false=>simp
   |true=>
    cases(gt b.ad k).Kind==3 with
    |false=>simp
    |true=>
     cases(gt b.ad k).B==c with
     |false=>simp
     |true=>
      simp only[if_true,aqF,Bool.and_self]
      rw[cp (by simp;omega)]
      rfl) (by
   unfold Ay
   simp only[bl,aqG,if_false]
   unfold ef
   rw[cf,s1]) (by omega)
  simpa[a_] using this
 rw[e1]
 have dG:=vz (bx b p L T).aq fun i=>(gt b.ad i).Kind==3&&(gt b.ad i).B==c
 have e2:=KF (b:=b) (p:=bx b p L T) (a:=a) (l:=ef (bx b p L T).aq fun i=>(gt b.ad i).Kind==3&&(gt b.ad i).B==c) (by omega) (by omega) (by omega) vw
 rw[Nx,aeV (by omega)] at e2
 simp only[aqF]
 rw[show ay (RO (ef (bx b p L T).aq fun i=>(gt b.ad i).Kind==3&&(gt b.ad i).B==c)) (0,b.ak,b.ad,b.aa,b.ai,b.aG,b.aB,(bx b p L T).aq,(bx b p L T).aa,(bx b p L T).aE,(bx b p L T).aA,a)=_ from e2]
 rfl
theorem aci(hb:bP b)(hp:bA p)(h:aJ b p=0)(hL:ju p L)(T:List Int){x:aR}(hx:x∈aT b p)(hs:x.aa≠[]){o:List Int}(ho:∀c∈o,0≤c∧c<(b.ai.length:Int))(uT:o.length≤100){a:List Act}(ha:a.length≤500000):
  EC ⟨b,bx b p L T,a⟩ o (gt x.ak 0)=some (b.ak,b.ad,b.aa,b.ai,b.aG,b.aB,(bx b p L (ix b p x L o (T,a)).1).aq,p.aa,L,p.aA,o,(ix b p x L o (T,a)).2):=by
 obtain⟨s1,_,s3,_,_,h6⟩:=iK h
 have hlen:=hL.len
 have fS:∀k,(ix b p x L (o.take k) (T,a)).2.length≤a.length+1000*(o.take k).length:=fun k=>Ja (by omega)
 have fb:=dE (step:=Aw o (gt x.ak 0)) (r:=cL b (bx b p L (ix b p x L o (T,a)).1) (ix b p x L o (T,a)).2) (fun k=>((k:Int),cL b (bx b p L (ix b p x L (o.take k) (T,a)).1) (ix b p x L (o.take k) (T,a)).2)) o.length (fun k hk=>by
  have lY:=fS k
  have hc:=ho _ (cV hk)
  rw[arU] at lY
  rw[iM hk,acn]
  generalize ix b p x L (o.take k) (T,a)=s at lY⊢
  obtain⟨T1,a1⟩:=s
  simp only at lY⊢
  have hex:=Vv hb hp h hL T1 hx hs a1
  have nL:(⟨b.ak,b.ad,b.aa,b.ai,b.aG,b.aB⟩:aj)=b:=rfl
  have lj:(⟨(bx b p L T1).aq,(bx b p L T1).aa,(bx b p L T1).aE,(bx b p L T1).aA⟩:ae)=bx b p L T1:=rfl
  unfold Aw
  simp only[cL,aQ hk,if_true,az hk,aqF,nL,lj,hex]
  rw[fQ (l:=(bx b p L T1).aE) hc.1 (by show _<(L.length:Int);omega)]
  simp only[aqF]
  rw[aU (by omega)]
  have hT:mG b p x L (T1,a1) (gt o k)=if 0<gt L (gt o k).toNat∧0<p8 b x T1 L then(T1++[gt o k],a1++(ef (bx b p L T1).aq fun i=>(gt b.ad i).Kind==3&&(gt b.ad i).B==gt o k).map mq) else(T1,a1):=rfl
  by_cases h1:0<gt L (gt o k).toNat
  · rw[dT (c:=gt (bx b p L T1).aE (gt o k).toNat>0) h1]
    by_cases h2:0<p8 b x T1 L
    · rw[if_pos ⟨h1,h2⟩] at hT
      rw[hT,dT (c:=p8 b x T1 L>0) h2]
      simp only[if_true,aqF,acG hp h hL T1 (a:=a1) (by omega) (gt o k)]
      rfl
    · rw[if_neg fun c=>h2 c.2] at hT
      rw[hT,dF (c:=p8 b x T1 L>0) h2]
      simp only[if_true,aqG,if_false,aqF]
  · rw[if_neg fun c=>h1 c.1] at hT
    rw[hT,dF (c:=gt (bx b p L T1).aE (gt o k).toNat>0) h1]
    simp only[aqG,if_false,aqF]) (by
  unfold Aw
  simp only[cL,bl,aqG,if_false,arw]) (by omega)
 unfold EC
 have xO:ay (Aw o (gt x.ak 0)) (0,b.ak,b.ad,b.aa,b.ai,b.aG,b.aB,(bx b p L T).aq,(bx b p L T).aa,(bx b p L T).aE,(bx b p L T).aA,a)=_:=fb
 simp only
 rw[xO]
 rfl
theorem afF{a0 a:List Act}{x:aR}{c:Int}:mJ b x T (L,a0++a) c=((mJ b x T (L,a) c).1,a0++(mJ b x T (L,a) c).2):=by
 unfold mJ
 by_cases h:0<nQ b x T L c
 · rw[if_pos h,if_pos h];simp
 · rw[if_neg h,if_neg h]
theorem SL{a0:List Act}{x:aR}:∀{o:List Int} {L:List Int} {a:List Act},fv b x T o (L,a0++a)=((fv b x T o (L,a)).1,a0++(fv b x T o (L,a)).2)
 |[],L,a=>rfl
 |c::o,L,a=>by
  have e:∀s,fv b x T (c::o) s=fv b x T o (mJ b x T s c):=fun _=>rfl
  rw[e,e,afF,SL]
theorem acm{a0 a:List Act}{x:aR}{c:Int}:mG b p x L (T,a0++a) c=((mG b p x L (T,a) c).1,a0++(mG b p x L (T,a) c).2):=by
 unfold mG
 by_cases h:0<gt L c.toNat∧0<p8 b x T L
 · rw[if_pos h,if_pos h];simp
 · rw[if_neg h,if_neg h]
theorem QR{a0:List Act}{x:aR}:∀{o:List Int} {T:List Int} {a:List Act},ix b p x L o (T,a0++a)=((ix b p x L o (T,a)).1,a0++(ix b p x L o (T,a)).2)
 |[],T,a=>rfl
 |c::o,T,a=>by
  have e:∀s,ix b p x L (c::o) s=ix b p x L o (mG b p x L s c):=fun _=>rfl
  rw[e,e,acm,QR]
theorem agI{l:List Int}(h:l.length≤1000000):wP l=some l:=by
 unfold wP
 rw[cp (by simp;omega)]
 simp
def rM(b:aj)(p:ae):List Int×List Int×List Act:=iN b p (aT b p)
def Ad(b:aj)(p:ae):ae:=bx b p (rM b p).1 (rM b p).2.1
theorem adt(hb:bP b)(hp:bA p)(h:aJ b p=0){a:List Act}(ha:a.length≤1000):EG ⟨b,p,a⟩=some (cL b (Ad b p) (a++(rM b p).2.2)):=by
 obtain⟨⟨hl,hg⟩,_⟩:=bM.1 h
 have aiJ:jL b=0:=vJ.2 ⟨hl,hg⟩
 have ke:=xF (b:=b) (p:=p)
 have jI:=hl.fe
 have l7:=hl.eL
 have uT:(ig b).length≤16:=by rw[Sc];exact l7
 unfold EG
 simp only[aeR hb aiJ,Fy hb hp h,aqF]
 have fb:=dE (step:=xd (ig b) (aT b p)) (r:=cL b (Ad b p) (a++(rM b p).2.2)) (fun k=>((k:Int),cL b (bx b p (iN b p ((aT b p).take k)).1 (iN b p ((aT b p).take k)).2.1) (a++(iN b p ((aT b p).take k)).2.2))) (aT b p).length (fun k hk=>by
  obtain⟨cZ,lY⟩:=Ei h k (by omega)
  have hx:=cV hk
  obtain⟨p1,p2,p3,p4,p5⟩:=qK hg.1 hx
  obtain⟨_,o1,o2⟩:=KC h hx
  rw[iM hk,Rj]
  generalize iN b p ((aT b p).take k)=s at cZ lY⊢
  obtain⟨L1,T1,a1⟩:=s
  simp only at cZ lY⊢
  have df:Sm (gt (aT b p) k).ai:=by unfold Sm;omega
  unfold xd
  simp only[cL,aQ hk,if_true,az hk,aqF,agI (l:=ig b) (by omega),ak2 df (l:=ig b) (by omega)]
  have aiA:(ig b).filter (fun c=>decide (c∈(gt (aT b p) k).ai))=lL b (gt (aT b p) k):=rfl
  rw[aiA,aU (by omega)]
  unfold Ag
  by_cases hs:(gt (aT b p) k).aa=[]
  · rw[if_pos hs,dF (c:=len (gt (aT b p) k).aa>0) (by rw[hs];decide)]
    simp only[aqG,if_false,aqF]
  · have nE:len (gt (aT b p) k).aa>0:=by have:=List.length_pos_iff.2 hs;unfold len;omega
    have nL:(⟨b.ak,b.ad,b.aa,b.ai,b.aG,b.aB⟩:aj)=b:=rfl
    have lj:(⟨(bx b p L1 T1).aq,(bx b p L1 T1).aa,(bx b p L1 T1).aE,(bx b p L1 T1).aA⟩:ae)=bx b p L1 T1:=rfl
    rw[if_neg hs,dT nE]
    simp only[if_true,aqF,nL,lj,show idx (gt (aT b p) k).ak 0=some (gt (gt (aT b p) k).ak 0) from az p5,afC hb hp h cZ T1 hx hs o1 (by omega) (a:=a++a1) (by rw[aqY];omega),SL]
    obtain⟨l1,l2⟩:=Fm (x:=gt (aT b p) k) (T:=T1) (s:=(L1,a1)) h cZ o1
    generalize fv b (gt (aT b p) k) T1 (lL b (gt (aT b p) k)) (L1,a1)=s at l1 l2⊢
    obtain⟨L2,a2⟩:=s
    simp only at l1 l2⊢
    have ahD:(⟨(bx b p L1 T1).aq,(bx b p L1 T1).aa,L2,(bx b p L1 T1).aA⟩:ae)=bx b p L2 T1:=rfl
    rw[ahD,aci hb hp h l1 T1 hx hs o1 (by omega) (a:=a++a2) (by rw[aqY];omega),QR]
    rfl) (by
  unfold xd
  simp only[cL,bl,aqG,if_false,arw]
  rfl) (by omega)
 have xO:ay (xd (ig b) (aT b p)) (0,cL b (bx b p p.aE []) (a++[]))=_:=fb
 rw[acV,List.append_nil] at xO
 rw[show ay (xd (ig b) (aT b p)) (0,b.ak,b.ad,b.aa,b.ai,b.aG,b.aB,p.aq,p.aa,p.aE,p.aA,a)=_ from xO]
 rfl
end
end Rx
namespace Rx
section
variable {b:aj} {p:ae} {L T:List Int} {x:aR}
structure Row(b:aj)(x:aR)(o:List Int):Prop where
 nd:x.ai.Nodup
 ond:o.Nodup
 mem:∀c,c∈o↔c∈x.ai
 bd:∀c∈x.ai,0≤c∧c<(b.ai.length:Int)
theorem Row.at{o:List Int}(h:Row b x o){i:Nat}(hi:i<o.length):gt o i∈x.ai∧0≤gt o i∧gt o i<(b.ai.length:Int):=by
 have:=(h.mem _).1 (cV hi)
 exact⟨this,h.bd _ this⟩
end
end Rx
namespace Rx
section
variable {b:aj} {p:ae} {L T:List Int} {x:aR}
theorem J4(h:aJ b p=0):ju p (rM b p).1:=by
 have:=(Ei h (aT b p).length (aqM _)).1
 rw[arw] at this
 exact this
theorem acP(h:aJ b p=0):aJ b (Ad b p)=0:=Jf h (J4 h) _
theorem ac'(hp:bA p)(h:aJ b p=0):bA (Ad b p):=Jp hp (J4 h) _
end
end Rx
namespace Rx
section
variable {b:aj} {p:ae} {L T:List Int} {x:aR}
end
end Rx
namespace Rx
section
variable {b:aj} {p:ae}
theorem VH{q:ae}(hb:q.aA=p.aA)(hs:∀j,j<p.aa.length→(gt q.aa j).State=(gt p.aa j).State){x:aO}(hx:x.Kind=2→0≤x.B∧x.B<p.aa.length):fH q x=fH p x:=by
 unfold fH bV
 rw[hb]
 by_cases h2:x.Kind=2
 · have:=hx h2
   rw[hs x.B.toNat (by omega)]
 · by_cases h1:x.Kind=1
   · rw[if_pos h1,if_pos h1]
   · rw[if_neg h1,if_neg h2,if_neg h1,if_neg h2]
theorem VX(h:aJ b p=0){i:Nat}(hi:i<b.ad.length):gt (iJ b p).aq i=(gt p.aq i&& !fH p (gt b.ad i)&& !dead b (fX b p) (gt b.ad i)):=by
 obtain⟨s1,_⟩:=iK h
 show gt (eG (eG p.aq _) _) i=_
 rw[lM (by rw[gV];omega),lM (by omega)]
theorem Rs(h:aJ b p=0):jt b (fX b p) (iJ b p):=(adB h).trans (adA (DI h))
theorem rI(h:aJ b p=0):aJ b (iJ b p)=0:=Jg (DI h)
theorem Q_(hp:bA p):bA (iJ b p):=Jq (Ra hp)
theorem adV{x1:ae}{x:aR}{out:List aC}{i:Nat}(df:Sm x.aa)(hi:idx x.aa 0=some (i:Int))(cF:i<x1.aa.length)(h:∀k∈x.aa,0≤k∧k<out.length):
  ay (vF x1 x) ((0:Int),out)=some (gD out (gt x1.aa i) x.aa):=by
 refine dE (step:=vF x1 x) (fun k=>((k:Int),gD out (gt x1.aa i) (x.aa.take k))) x.aa.length (fun k hk=> ?_) (by simp only[vF,bl,aqG,if_false,arw])
 obtain⟨k0,k1⟩:=h _ (cV hk)
 obtain⟨j,hj⟩:=Int.eq_ofNat_of_zero_le k0
 have hj:gt x.aa k=(j:Int):=hj
 have bW:j<(gD out (gt x1.aa i) (x.aa.take k)).length:=by rw[wU];omega
 have pR:j<((gD out (gt x1.aa i) (x.aa.take k)).set j {gt (gD out (gt x1.aa i) (x.aa.take k)) j with aB:=(gt x1.aa i).aB}).length:=by simpa using bW
 simp only[vF,aQ hk,if_true,az hk,hi,az cF,aqF,hj,az bW,fg bW,az pR,fg pR,aU (cM df hk),dz bW,iM hk,J5,aq8,List.set_set]
 rfl
theorem adU(hb:bn b)(hl:dS b)(xL:p.aa.length=b.aa.length){x1:ae}(mN:x1.aa=p.aa):ay (Gy x1 (aT b p)) ((0:Int),p.aa)=some (cH b p):=by
 have jI:=hl.fe
 have iS:=hl.src
 have ke:=xF (b:=b) (p:=p)
 refine I7.1 ?_
 refine dO (aT b p).length (fun k s=>∃out,s=((k:Int),out)∧out.length=p.aa.length∧∀j,j<p.aa.length→gt out j=if ∃q,q<k∧(j:Int)∈(gt (aT b p) q).aa then gm b p j else gt p.aa j) ⟨_,rfl,rfl,fun j hj=>by rw[if_neg (by rintro⟨q,hq,_⟩;omega)]⟩ ?_ ?_
 · rintro k s hk ⟨out,rfl,h1,h2⟩
   have hx:=cV hk
   have sv:∀s∈(gt (aT b p) k).aa,0≤s∧s<(p.aa.length:Int):=fun s hs=>by
    obtain⟨j,rfl,h,_⟩:=pF hx hs
    omega
   unfold Gy
   simp only[aQ hk,if_true,az hk,aqF]
   have ld:∀j:Nat,(∃q,q<k+1∧(j:Int)∈(gt (aT b p) q).aa)↔(∃q,q<k∧(j:Int)∈(gt (aT b p) q).aa)∨(j:Int)∈(gt (aT b p) k).aa:=fun j=>by
    constructor
    · rintro⟨q,hq,h⟩
      by_cases Mh:q=k
      · subst Mh;exact .inr h
      · exact .inl ⟨q,by omega,h⟩
    · rintro(⟨q,hq,h⟩|h)
      · exact⟨q,by omega,h⟩
      · exact⟨k,by omega,h⟩
   by_cases h0:(gt (aT b p) k).aa.length=0
   · have e2:(gt (aT b p) k).aa=[]:=List.length_eq_zero_iff.1 h0
     have e3:ay (vF x1 (gt (aT b p) k)) ((0:Int),out)=some out:=lO (.done (by simp[vF,e2,len])) (by omega)
     rw[e3]
     simp only[aqF]
     refine al.2 ⟨out,by rw[aU (by omega)],h1,fun j hj=> ?_⟩
     rw[h2 j hj]
     have hi:(∃q,q<k+1∧(j:Int)∈(gt (aT b p) q).aa)↔(∃q,q<k∧(j:Int)∈(gt (aT b p) q).aa):=by
      rw[ld,e2];simp
     by_cases hh:∃q,q<k∧(j:Int)∈(gt (aT b p) q).aa
     · rw[if_pos hh,if_pos (hi.2 hh)]
     · rw[if_neg hh,if_neg (fun h=>hh (hi.1 h))]
   · have hlen:0<(gt (aT b p) k).aa.length:=by omega
     obtain⟨i,f1,f2,f3,f4⟩:=pF hx (cV hlen)
     have e0:idx (gt (aT b p) k).aa 0=some (i:Int):=by
      have:=az hlen
      rw[f1] at this
      exact this
     have df:Sm (gt (aT b p) k).aa:=by
      obtain⟨f,_,e,_⟩:=uv.1 hx
      rw[e]
      have:=(qJ (b:=b) (p:=p) f).2.1
      unfold Sm;omega
     rw[adV df e0 (by rw[mN];omega) (fun s hs=>by have:=sv s hs;omega),mN]
     simp only[aqF]
     refine al.2 ⟨_,by rw[aU (by omega)],by rw[wU];exact h1,fun j hj=> ?_⟩
     rw[Ej _ _ _ _ (fun s hs=>by have:=sv s hs;omega),h2 j hj]
     by_cases oJ:(j:Int)∈(gt (aT b p) k).aa
     · rw[if_pos oJ,if_pos ((ld j).2 (.inr oJ))]
       obtain⟨j',g1,g2,g3,g4⟩:=pF hx oJ
       have:j'=j:=by omega
       subst this
       have lV:eH b p j'=i:=by unfold eH;rw[←g4,f1,aq8]
       have hf:gm b p j'=oy (gt p.aa j') (gt p.aa i):=by unfold gm;rw[if_pos g3,lV]
       rw[hf]
       split<;>rfl
     · rw[if_neg oJ]
       by_cases hh:∃q,q<k∧(j:Int)∈(gt (aT b p) q).aa
       · rw[if_pos hh,if_pos ((ld j).2 (.inl hh))]
       · rw[if_neg hh,if_neg (fun h=>((ld j).1 h).elim hh oJ)]
 · rintro s ⟨out,rfl,h1,h2⟩
   unfold Gy
   simp only[bl,aqG,if_false]
   refine al.2 ?_
   apply fp
   · rw[nN,h1]
   · intro j hj
     rw[h2 j (by omega),pZ (by omega)]
     by_cases hc:(conn b p (j:Int)).2=true
     · obtain⟨g1,g2⟩:=DM hb (show j<b.aa.length by omega) hc
       obtain⟨q,hq,e⟩:=kY g1
       rw[if_pos ⟨q,hq,by rw[e];exact g2⟩]
     · have hf:gm b p j=gt p.aa j:=by unfold gm;rw[if_neg hc]
       rw[hf]
       split<;>rfl
theorem adX(h:bA p):GI p=some (p.aq,p.aa,p.aE,p.aA):=by
 obtain⟨h1,h2,h3,h4⟩:=h
 unfold Sm at*
 unfold GI
 rw[cp (by simp;omega),cp (by simp;omega),cp (by simp;omega),cp (by simp;omega)]
 rfl
theorem adT(hb:bP b)(hp:bA p)(h:aJ b p=0):Gz b p=some (0,p.aq,cH b p,p.aE,p.aA):=by
 obtain⟨⟨hl,hg⟩,⟨s1,s2,s3⟩,_⟩:=bM.1 h
 unfold Gz NS
 have e:(aJ b p !=0)=false:=by rw[h];rfl
 simp only[AE hb hp,aqF,e,aqG,if_false,adX hp,adS hb hp h,adU hg.1 hl s2 (x1:=p) rfl]
end
end Rx
namespace Rx
section
variable {b:aj} {p:ae} {L T:List Int} {x:aR}
end
end Rx
namespace Rx
section
variable {b:aj} {p q:ae} {L T:List Int} {x:aR}
structure Clean(b:aj)(p:ae):Prop where
 fH:∀i,i<b.ad.length→gt p.aq i=true→fH p (gt b.ad i)=false
 dead:∀i,i<b.ad.length→gt p.aq i=true→dead b p (gt b.ad i)=false
 gm:cH b p=p.aa
theorem als(h:aJ b p=0):Clean b (iJ b p):=by
 obtain⟨s1,s2,_⟩:=iK h
 refine⟨fun i hi hc=> ?_,fun i hi hc=> ?_,Vg (DI h)⟩
 · rw[VX h hi] at hc
   rw[VH (q:=iJ b p) (p:=p) rfl (fun j hj=>(Rs h).st j hj) (Jn h hi)]
   cases MV:Rx.fH p (gt b.ad i) with
   |false=>rfl
   |true=>rw[MV] at hc;simp at hc
 · rw[VX h hi] at hc
   unfold Rx.dead at hc⊢
   rw[(Rs h).nC (Jh h) (rI h)]
   cases MV:((gt b.ad i).Kind==3&& !nC b (fX b p) (gt b.ad i).A) with
   |false=>rfl
   |true=>rw[MV] at hc;simp at hc
theorem ajW(hS:jt b p q)(hs:q.aa=p.aa):cH b q=cH b p:=by
 unfold cH
 rw[hs]
 refine List.map_congr_left fun j _=> ?_
 unfold Rx.gm eH aW
 rw[hS.conn,hS.bu,(hS.Jl _).1,hs]
theorem alr(h:aJ b p=0)(hC:Clean b p)(hL:ju p L)(T:List Int):Clean b (bx b p L T):=by
 have hS:=Kb h L T
 refine⟨fun i hi hc=> ?_,fun i hi hc=> ?_, ?_⟩
 · rw[VH (q:=bx b p L T) (p:=p) rfl (fun _ _=>rfl) (Jn h hi)]
   exact hC.fH i hi (AS hc)
 · have:=hC.dead i hi (AS hc)
   unfold Rx.dead at this⊢
   rw[hS.nC h (Jf h hL T)]
   exact this
 · rw[ajW hS rfl]
   exact hC.gm
def iP(b:aj)(p:ae):ae:=Ad b (iJ b p)
def rT(b:aj)(p:ae):List Act:=rh b p++(rM b (iJ b p)).2.2
theorem VY(h:aJ b p=0):(rh b p).length≤48:=by
 obtain⟨s1,_,s3,_⟩:=iK h
 have h1:=vz p.aq fun i=>Rx.fH p (gt b.ad i)
 have h2:=vz (fX b p).aq fun i=>Rx.dead b (fX b p) (gt b.ad i)
 have h3:(fX b p).aq.length=p.aq.length:=gV _ _
 unfold rh
 simp only[aqY,ar0]
 omega
theorem acQ(h:aJ b p=0):aJ b (iP b p)=0:=acP (rI h)
theorem ada(hp:bA p)(h:aJ b p=0):bA (iP b p):=ac' (Q_ hp) (rI h)
theorem aeA(hb:bP b)(hp:bA p)(h:aJ b p=0):Ed b p=some (0,(iP b p).aq,(iP b p).aa,(iP b p).aE,(iP b p).aA,rT b p):=by
 unfold Ed JV JZ
 rw[mH hb hp,h]
 simp only[aqF,bne_self_eq_false,aqG,if_false,oY hp]
 rw[show(⟨b,⟨p.aq,p.aa,p.aE,p.aA⟩,[]⟩:dP)=⟨b,p,[]⟩ from rfl,aln hb hp h]
 simp only[aqF]
 have e:=adt hb (Q_ (b:=b) hp) (rI h) (a:=rh b p) (by have:=VY h;omega)
 rw[show(⟨⟨b.ak,b.ad,b.aa,b.ai,b.aG,b.aB⟩,⟨(iJ b p).aq,(iJ b p).aa,(iJ b p).aE,(iJ b p).aA⟩,rh b p⟩:dP)=⟨b,iJ b p,rh b p⟩ from rfl,e]
 rfl
end
end Rx
namespace Rx
section
variable {b:aj} {p q:ae} {L T:List Int} {x:aR}
theorem akL{a b:List aC}(ha:Sm a):DW a b=some (dB (a=b)):=by
 unfold DW
 by_cases hl:a.length=b.length
 · have e1:(len a !=len b)=false:=by simp[len,hl]
   have h:=Fo (step:=wN a b) (fun k=>(k:Int)) a.length (fun k=>gt a k≠gt b k) (r:= .inr false) (e:= .inl ())
    (fun k hk hp=>by
      have e2:=(RE (gt a k) (gt b k)).2 (arF.1 hp)
      simp only[wN,aQ hk,if_true,az hk,az (show k<b.length by omega),aqF,e2,aqW,aqG,if_false,aU (cM ha hk)])
    (fun k hk hp=>by
      have e2:((gt a k).State==(gt b k).State&&((gt a k).ew==(gt b k).ew&&((gt a k).aB==(gt b k).aB&&(gt a k).aG==(gt b k).aG)))=false:=by
       cases hh:((gt a k).State==(gt b k).State&&((gt a k).ew==(gt b k).ew&&((gt a k).aB==(gt b k).aB&&(gt a k).aG==(gt b k).aG))) with
       |false=>rfl
       |true=>exact(hp ((RE _ _).1 hh)).elim
      simp only[wN,aQ hk,if_true,az hk,az (show k<b.length by omega),aqF,e2,ard])
    (by simp only[wN,bl,aqG,if_false])
   have h':ay (wN a b) 0=_:=h
   simp only[e1,aqG,if_false,h',aqF]
   by_cases he:a=b
   · subst he
     rw[fq (p:=∃k,k<a.length∧gt a k≠gt a k) (by simp),il rfl]
     rfl
   · have:∃k,k<a.length∧gt a k≠gt b k:=by
      apply aq6
      intro hn
      exact he (fp hl fun k hk=>aq6 fun h=>hn ⟨k,hk,h⟩)
     rw[il this,fq he]
     rfl
 · have e1:(len a !=len b)=true:=by simp[len];omega
   have he:a≠b:=fun e=>hl (e▸rfl)
   rw[fq he]
   simp only[e1,if_true]
theorem akM{a b:List Part}(ha:Sm a):DX a b=some (dB (a=b)):=by
 unfold DX
 by_cases hl:a.length=b.length
 · have e1:(len a !=len b)=false:=by simp[len,hl]
   have h:=Fo (step:=wO a b) (fun k=>(k:Int)) a.length (fun k=>gt a k≠gt b k) (r:= .inr false) (e:= .inl ())
    (fun k hk hp=>by
      have e2:=(KA (gt a k) (gt b k)).2 (arF.1 hp)
      simp only[wO,aQ hk,if_true,az hk,az (show k<b.length by omega),aqF,e2,aqW,aqG,if_false,aU (cM ha hk)])
    (fun k hk hp=>by
      have e2:((gt a k).Kind==(gt b k).Kind&&(gt a k).Number==(gt b k).Number)=false:=by
       cases hh:((gt a k).Kind==(gt b k).Kind&&(gt a k).Number==(gt b k).Number) with
       |false=>rfl
       |true=>exact(hp ((KA _ _).1 hh)).elim
      simp only[wO,aQ hk,if_true,az hk,az (show k<b.length by omega),aqF,e2,ard])
    (by simp only[wO,bl,aqG,if_false])
   have h':ay (wO a b) 0=_:=h
   simp only[e1,aqG,if_false,h',aqF]
   by_cases he:a=b
   · subst he
     rw[fq (p:=∃k,k<a.length∧gt a k≠gt a k) (by simp),il rfl]
     rfl
   · have:∃k,k<a.length∧gt a k≠gt b k:=by
      apply aq6
      intro hn
      exact he (fp hl fun k hk=>aq6 fun h=>hn ⟨k,hk,h⟩)
     rw[il this,fq he]
     rfl
 · have e1:(len a !=len b)=true:=by simp[len];omega
   have he:a≠b:=fun e=>hl (e▸rfl)
   rw[fq he]
   simp only[e1,if_true]
end
end Rx
namespace Rx
section
variable {b:aj} {p q:ae}
def Zz(b:aj)(p:ae)(c:Int):Bool:=(nO b p c).2&&(nC b p (nO b p c).1&&(!bV p 4 c&& !decide (gt p.aE c.toNat<(gt b.ai c.toNat).dr)))
def qx(b:aj)(p:ae):Nat→Int→Bool
 |0,_=>false
 |n+1,c=>Zz b p c&&(gt b.ai c.toNat).bF.all (qx b p n)
theorem afd(hg:mw b){c:Int}(hc:0≤c∧c<(b.ai.length:Int)):(gt b.ai c.toNat).bF.length≤4∧∀d∈(gt b.ai c.toNat).bF,0≤d∧d<c:=by
 have h:=hg.2.2.2.2 c.toNat (by omega)
 refine⟨h.2.2.2.2.2,fun d hd=> ?_⟩
 obtain⟨i,hi,rfl⟩:=kY hd
 have:=(h.1 i hi).1
 omega
theorem aky{P:Int→Bool}{l:List Int}:l.all P=match(aqN l.length).find? (fun k=> !P (gt l k)) with
  |some _=>false
  |none=>true:=by
 cases hf:(aqN l.length).find? (fun k=> !P (gt l k)) with
 |some k=>
  have hk:=aqV.1 (List.mem_of_find?_eq_some hf)
  have hp:=List.find?_some hf
  refine List.all_eq_false.2 ⟨_,cV hk, ?_⟩
  simpa using hp
 |none=>
  refine List.all_eq_true.2 fun c hc=> ?_
  obtain⟨k,hk,rfl⟩:=kY hc
  have:=arB.1 hf k (aqV.2 hk)
  simpa using this
theorem Rm(hb:bP b)(hp:bA p)(h:aJ b p=0):∀(n:Nat) (c:Int),0≤c→c<(b.ai.length:Int)→c<(n:Int)→qA n b p c=some (qx b p n c)
 |0,c,h0,h1,h2=>by omega
 |n+1,c,h0,h1,h2=>by
  obtain⟨⟨hl,hg⟩,⟨s1,s2,s3⟩,_⟩:=bM.1 h
  obtain⟨n1,n2⟩:=afd hg ⟨h0,h1⟩
  have ih:=Rm hb hp h n
  show JY (qA n) b p c=_
  unfold JY qx Zz
  rw[Vu hb hp]
  simp only[aqF]
  cases hf:(nO b p c).2 with
  |false=>simp only[ard,if_true,aqF,Bool.false_and]
  |true=>
   simp only[aqW,aqG,if_false,SV hb hp,aqF,ar6]
   cases hv:nC b p (nO b p c).1 with
   |false=>simp only[ard,if_true,aqF,Bool.false_and]
   |true=>
    simp only[aqW,aqG,if_false,Zq hp,aqF,ar6]
    cases hk:bV p 4 c with
    |true=>simp only[if_true,aqF,aqW,Bool.false_and]
    |false=>
     simp only[aqG,if_false,ard,ar6]
     rw[fQ (l:=p.aE) h0 (by omega),fQ (l:=b.ai) h0 h1]
     simp only[aqF]
     cases hle:decide (gt p.aE c.toNat<(gt b.ai c.toNat).dr) with
     |true=>simp only[if_true,aqW,Bool.false_and]
     |false=>
      simp only[aqG,if_false,ard,ar6]
      generalize (gt b.ai c.toNat).bF=l at n1 n2⊢
      unfold JJ Jw
      have kb:=kZ (step:=wF (qA n) l b p) (fun k=>(k:Int)) l.length (fun k=> !qx b p n (gt l k)) (R:=fun k=> .inr (k:Int)) (e:= .inl ()) (fun k hk hp=>by
       have hd:=n2 _ (cV hk)
       unfold wF Eb
       simp only[aQ hk,if_true,az hk,aqF,ih (gt l k) hd.1 (by omega) (by omega),hp,aqG,if_false]
       rw[aU (by omega)]) (fun k hk hp=>by
       have hd:=n2 _ (cV hk)
       unfold wF Eb
       simp only[aQ hk,if_true,az hk,aqF,ih (gt l k) hd.1 (by omega) (by omega),hp]) (by
       unfold wF
       simp only[bl,aqG,if_false]) (by omega)
      have ahS:ay (wF (qA n) l b p) 0=_:=kb
      rw[ahS,aky]
      cases(aqN l.length).find? (fun k=> !qx b p n (gt l k)) with
      |none=>rfl
      |some k=>
       simp only[aqF,Sum.elim_inr]
       rw[dT (by omega)]
       rfl
theorem Rn(hb:bP b)(hp:bA p)(h:aJ b p=0){c:Int}(hc:0≤c∧c<(b.ai.length:Int)):Ec b p c=some (qx b p 64 c):=by
 have l7:=(bM.1 h).1.1.eL
 exact Rm hb hp h 64 c hc.1 hc.2 (by omega)
end
end Rx
end Go.Proofs.YtncbfgppjfcijaaGreat
