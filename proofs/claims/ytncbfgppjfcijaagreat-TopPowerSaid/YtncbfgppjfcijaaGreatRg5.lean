import Derived.Test.YtncbfgppjfcijaaGreatRt
import Derived.Test.YtncbfgppjfcijaaGreatHi
import Derived.Test.YtncbfgppjfcijaaGreatRg2
import Derived.Test.YtncbfgppjfcijaaGreatRg3
import Derived.Test.YtncbfgppjfcijaaGreatRg4
set_option linter.unusedVariables false
set_option maxRecDepth 100000
open Array renaming getElem?_eq_some_iff→aq5
open Int renaming toNat_natCast→aq8
open List renaming append_assoc→aq4,flatten_append→aro,length_append→aqY,take_append_drop→arv
open Nat renaming add_mul→aq_,le_refl→aqM,mul_le_mul_right→arl
noncomputable section
namespace Go.Proofs.YtncbfgppjfcijaaGreat
open Go Go.RowKit Dp
namespace Rx
def DP(a0:List Part)(a1:Int)(a2:List Part):Option (List Part):=A8 a0 a1 a2
def Xy:ar D:=⟨232,[.lf (.sl 11),.lf (.int .i64),.lf (.sl 11)],[.lf (.sl 11)],[.one (.own 1000),.one (.h 1 []),.one (.own 1001)],[(1000,.sl 11 177 0 []),(1001,.sl 11 177 2 [])],[.one (.own 1002)],[(1002,.sl 11 177 0 [])],fun h=>DP h.1 h.2.1 h.2.2⟩
theorem amV:CK Xy:=by
 refine⟨Tryz.call232,rfl,rfl,rfl,rfl,fun h0 r0 jm dA di has j_ γ w vs hv hO=> ?_⟩
 cases has
 cases j_
 match vs,hv with
 |[],hv=>exact hv.elim
 |[_],hv=>exact hv.2.elim
 |[_,_],hv=>exact hv.2.2.elim
 |_::_::_::_::_,hv=>exact hv.2.2.2.elim
 |[v1,v2,v3],hv=>
 obtain⟨xs,dj⟩:∃xs:List (D 11),xs=h0.1:=⟨_,rfl⟩
 obtain⟨iz,u6⟩:∃iz:Int,iz=h0.2.1:=⟨_,rfl⟩
 obtain⟨ys,pI⟩:∃ys:List (D 11),ys=h0.2.2:=⟨_,rfl⟩
 obtain⟨r,fR⟩:∃r:List (D 11),r=r0:=⟨_,rfl⟩
 have hr:A8 xs iz ys=some r:=by rw[dj,u6,pI,fR];exact jm
 have g1:Ow 177 γ.o 1000 [0] w v1 xs:=by rw[dj,hv.1.2.1];exact(hO.ob 1000 _ rfl).2.2.1
 have g3:Ow 177 γ.o 1001 [0] w v3 ys:=by rw[pI,hv.2.2.1.2.1];exact(hO.ob 1001 _ rfl).2.2.1
 have g2:v2= .int .i64 iz:=by rw[u6];exact hv.2.1.1
 subst fR
 clear jm hv hO dj u6 pI
 haveI:Flat (D 11):=Nz
 have hT:=qz.2
 have hu:=qz.1
 obtain⟨b1,b2,b3,b4,b5,rfl⟩:=agq hr
 obtain⟨q,rfl⟩:∃q:Nat,iz=(q:Int):=⟨iz.toNat,by omega⟩
 have hq:q≤xs.length:=by omega
 have hm:0<ys.length:=List.length_pos_iff.2 b3
 obtain⟨p,cap,rfl,uV,vj⟩:=Ow.shape g1
 obtain⟨bv,vL,rfl⟩:=Ow.Ri g3 b3
 subst g2
 have aqa:cap≤maxLen:=vj
 have M_:W ((xs.length:Int)+(ys.length:Int))=((xs.length+ys.length:Nat):Int):=by rw[qe (by omega) (by omega)];omega
 have BM:W ((q:Int)+(ys.length:Int))=((q+ys.length:Nat):Int):=by rw[qe (by omega) (by omega)];omega
 refine enter (l:=[.slice p xs.length cap,.int .i64 q,.slice (some ⟨bv,0,none⟩) ys.length vL]) Tryz.func232 rfl Tryz.ntmps232 rfl ?_
 refine CW.sub (L':=[(0,.slice p xs.length cap),(1,.int .i64 q),(2,.slice (some ⟨bv,0,none⟩) ys.length vL)]) ⟨rfl,rfl,rfl,trivial⟩ ?_
 refine CW.sr fun K0 Nj=> ?_
 refine WL.p (.slice none 0 0) rfl rfl ?_
 refine WL.nx Nj ?_
 refine CW.sr fun K1 fc=> ?_
 refine WL.p (.slice p xs.length cap) rfl rfl ?_
 refine WL.p (.int .i64 q) rfl rfl ?_
 refine WL.Jk (OW.acr hu hT rfl rfl hq uV) rfl fun _ _=> ?_
 refine WL.nx fc ?_
 refine CW.sr fun K2 fU=> ?_
 refine WL.p (.slice (some ⟨bv,0,none⟩) ys.length vL) rfl rfl ?_
 refine WL.gC (OW.uB hu rfl) rfl ?_
 refine WL.p (.int .i64 ys.length) rfl rfl ?_
 refine WL.nx fU ?_
 refine CW.seq fun K3 iX=> ?_
 refine CW.sr fun K4 jJ=> ?_
 refine WL.p (.int .i64 ys.length) rfl rfl ?_
 refine WL.pe (v':= .bool false) rfl (congrArg Value.bool (beq_eq_false_iff_ne.2 (by omega))) rfl ?_
 refine WL.nx jJ ?_
 refine CW.cond (b:=false) rfl (fun h=>nomatch h) (fun _=> ?_)
 refine CW.skip ?_
 refine iX _ _ ?_
 refine CW.sr fun K5 ki=> ?_
 refine WL.p (.slice p xs.length cap) rfl rfl ?_
 refine WL.gC (OW.uB hu rfl) rfl ?_
 refine WL.p (.int .i64 xs.length) rfl rfl ?_
 refine WL.nx ki ?_
 refine CW.seq fun K6 Ni=> ?_
 refine CW.sr fun K7 Gb=> ?_
 refine WL.p (.int .i64 q) rfl rfl ?_
 refine WL.p (.int .i64 xs.length) rfl rfl ?_
 by_cases Bn:q=xs.length
 · refine WL.pe (v':= .bool true) rfl (congrArg Value.bool (beq_iff_eq.2 (by omega))) rfl ?_
   refine WL.nx Gb ?_
   refine CW.cond (b:=true) rfl (fun _=> ?_) (fun h=>nomatch h)
   refine CW.sr fun K8 Nh=> ?_
   refine WL.p (.slice p xs.length cap) rfl rfl ?_
   refine WL.p (.slice (some ⟨bv,0,none⟩) ys.length vL) rfl rfl ?_
   refine WL.step (OW.append (K:=[0]) hu hT rfl rfl g1 g3.bS b4 rfl) rfl ?_
   rintro v' w' ⟨o',ev,gl⟩
   refine WL.p v' rfl rfl ?_
   refine WL.nx Nh ?_
   have oF:xs.take (q:Int).toNat++ys++xs.drop (q:Int).toNat=xs++ys:=by
    rw[aq8,Bn,List.take_length,List.drop_length,List.append_nil]
   rw[←oF] at gl
   exact CW.jg (vs:=[v']) Tryz.results232 ⟨rfl,trivial⟩ ⟨_,rfl,BY (n:=11) (e:=177) (q:=1002) (k:=1000) (K:=[]) (M:=[1000]) (N:=[1000]) rfl rfl rfl (by omega) (by omega) (by simp) (by simp) ev gl (fun x hx=>by simp at hx)⟩ (fun _ _ h=>h)
 refine WL.pe (v':= .bool false) rfl (congrArg Value.bool (beq_eq_false_iff_ne.2 (by omega))) rfl ?_
 refine WL.nx Gb ?_
 refine CW.cond (b:=false) rfl (fun h=>nomatch h) (fun _=> ?_)
 refine CW.skip ?_
 refine Ni _ _ ?_
 obtain⟨b,rfl⟩:=Ow.block g1 (fun h=>by rw[h] at hq Bn;simp at hq Bn;omega)
 obtain⟨c1,c2,S,r1,r2,r3,r4,r5,r6,r7,_,_,_⟩:=Ow.split g1 hq
 obtain⟨z1,cv,Sv,s1,s2,s3,s4,s5,s6,s7,_,_,_⟩:=Ow.split g3 (Nat.zero_le _)
 have uI:z1.flatten=[]:=List.eq_nil_of_length_eq_zero (by rw[s4];omega)
 rw[uI] at s1
 rw[List.drop_zero] at s3
 have M4:bv≠b:=fun h=>by rw[h,r7] at s7;cases s7
 have vn:b<w.heap.size:=(aq5.1 r1).1
 have aiP:bv<w.heap.size:=(aq5.1 s1).1
 have dy:0<ab.sz (D 11):=ab.pos
 have UI:cv.flatten.length=min ys.length (xs.length+ys.length-q)*ab.sz (D 11):=by rw[s5,Nat.min_eq_left (by omega)];rfl
 have xP:((q:Int)).toNat=q:=aq8 q
 have iH:bC (ab.rd (In γ.o [0]) w) (c1++cv++c2) (xs.take (q:Int).toNat++ys++xs.drop (q:Int).toNat):=by rw[xP];exact(r2.append s3).append r3
 have hlen:(xs.take (q:Int).toNat++ys++xs.drop (q:Int).toNat).length=xs.length+ys.length:=by rw[xP];simp;omega
 refine CW.seq fun K9 Ng=> ?_
 refine CW.sr fun K10 U4=> ?_
 refine WL.p (.int .i64 xs.length) rfl rfl ?_
 refine WL.p (.int .i64 ys.length) rfl rfl ?_
 refine WL.pe (v':= .int .i64 ((xs.length+ys.length:Nat):Int)) rfl (congrArg _ M_) rfl ?_
 refine WL.p (.slice (some ⟨b,0,none⟩) xs.length cap) rfl rfl ?_
 refine WL.gC (OW.cap hu rfl vj) rfl ?_
 by_cases hg:cap<xs.length+ys.length
 · refine WL.pe (v':= .bool true) rfl (congrArg Value.bool (decide_eq_true (by omega))) rfl ?_
   refine WL.nx U4 ?_
   refine CW.cond (b:=true) rfl (fun _=> ?_) (fun h=>nomatch h)
   refine CW.sr fun K11 ajp=> ?_
   refine WL.p (.slice (some ⟨b,0,none⟩) xs.length cap) rfl rfl ?_
   refine WL.p (.int .i64 q) rfl rfl ?_
   refine WL.gC (OW.pre hu hT rfl rfl (by omega)) rfl ?_
   refine WL.p (.int .i64 xs.length) rfl rfl ?_
   refine WL.p (.int .i64 ys.length) rfl rfl ?_
   refine WL.pe (v':= .int .i64 ((xs.length+ys.length:Nat):Int)) rfl (congrArg _ M_) rfl ?_
   refine WL.p (.int .i64 q) rfl rfl ?_
   refine WL.pe (v':= .int .i64 ((xs.length+ys.length-q:Nat):Int)) rfl (congrArg _ (by rw[qe (by omega) (by omega)];omega)) rfl ?_
   refine WL.step (OW.apa (A:=c1.flatten) (B:=c2.flatten++S) hu hT Tryz.underlying3 rfl rfl (by rw[←aq4];exact r1) r4 (by omega) (by omega) (by omega)) rfl ?_
   rintro v' w' ⟨G,Z,rfl,Ge,hG2,hZ,rfl⟩
   rw[show q+(xs.length+ys.length-q)=xs.length+ys.length by omega] at Ge⊢
   obtain⟨Y,X,S2,rfl,hY,hX,BN⟩:=NZ Z (ys.length*ab.sz (D 11)) ((xs.length-q)*ab.sz (D 11)) (by rw[hZ,←aq_];exact arl _ (by omega))
   refine WL.p (.slice (some ⟨w.heap.size,0,none⟩) (xs.length+ys.length) G) rfl rfl ?_
   refine WL.nx ajp ?_
   obtain⟨w1,uL⟩:∃w1,w1=w.drew.alloc (.cells (c1.flatten++(Y++X++S2)).toArray 177):=⟨_,rfl⟩
   rw[←uL]
   have UY:w1.heap[w.heap.size]? =some (.cells (c1.flatten++Y++(X++S2)).toArray 177 (0,0)):=by rw[uL,show c1.flatten++Y++(X++S2)=c1.flatten++(Y++X++S2) by simp only[aq4]];exact heap_alloc_new w.drew _
   have Nd:∀x,x<w.heap.size→w1.heap[x]? =w.heap[x]? :=fun x hx=>by rw[uL];exact Below.heap_alloc w.drew _ x hx
   have g9:ba [] [1000] γ.o w (grow γ.o w 1000) w1:=by rw[uL];exact ba.fresh 1000 ((Below.refl _ _).drew.alloc (aqM _) _)
   refine CW.sr fun K12 ajo=> ?_
   refine WL.p (.slice (some ⟨w.heap.size,0,none⟩) (xs.length+ys.length) G) rfl rfl ?_
   refine WL.p (.int .i64 q) rfl rfl ?_
   refine WL.gC (OW.tl hu hT rfl rfl (by omega) Ge (by omega)) rfl ?_
   refine WL.p (.slice (some ⟨bv,0,none⟩) ys.length vL) rfl rfl ?_
   refine WL.step (OW.GV (A:=c1.flatten) (X:=Y) (B:=X++S2) (src:=cv.flatten) hu hT rfl rfl UY r4 (by rw[hY,s5];rfl) UI (w5 (A:=[]) (B:=Sv) (by rw[Nd _ aiP];exact s1) rfl) (uq s3)) rfl ?_
   rintro v2 w2 eQ
   have sN:w2.heap[w.heap.size]? =some (.cells (c1.flatten++cv.flatten++X++S2).toArray 177 (0,0)):=by rw[eQ,aq4 _ X S2];exact setRow_heap _ _ _ _ _ _ UY
   have hO2:∀x,x<w.heap.size→w2.heap[x]? =w.heap[x]? :=fun x hx=>by rw[eQ,setRow_other _ _ _ _ (by omega)];exact Nd x hx
   have da:ba [1000] [1000] γ.o w (grow γ.o w 1000) w2:=by rw[eQ];exact(g9.weaken (by simp) (by simp)).trans (yg _ (nM _ _ _ _ (aqM _)))
   clear eQ uL Nd g9
   refine WL.nx ajo ?_
   refine CW.seq fun K13 ajn=> ?_
   refine CW.draw fj 8 [46,47,48,49,50,51,52,53] [.slice (some ⟨w.heap.size,0,none⟩) (xs.length+ys.length) G,.int .i64 q,.int .i64 ys.length,.int .i64 ((q+ys.length:Nat):Int),.slice (some ⟨w.heap.size,(q+ys.length)*ab.sz (D 11),none⟩) (xs.length+ys.length-(q+ys.length)) (G-(q+ys.length)),.slice (some ⟨b,0,none⟩) xs.length cap,.int .i64 q,.slice (some ⟨b,q*ab.sz (D 11),none⟩) (xs.length-q) (cap-q)] rfl rfl ⟨OW.pv rfl,OW.pv rfl,OW.pv rfl,OW.R6 rfl (congrArg _ BM),OW.tl hu hT rfl rfl (by omega) Ge (by omega),OW.pv rfl,OW.pv rfl,OW.tl hu hT rfl rfl hq uV (by omega),trivial⟩ ?_
   refine WL.step (OW.GV (A:=c1.flatten++cv.flatten) (X:=X) (B:=S2) (src:=c2.flatten) hu hT rfl rfl sN (by rw[aqY,r4,s5,←aq_];rfl) (by rw[hX,r5]) (by rw[r5];congr 1;rw[Nat.min_eq_left]<;>omega) (w5 (A:=c1.flatten) (B:=S) (by rw[show w2.drew.heap=w2.heap from rfl,hO2 _ vn];exact r1) r4) (uq r3)) rfl ?_
   rintro v3 w3 sq
   have BO:w3.heap[w.heap.size]? =some (.cells ((c1++cv++c2).flatten++S2).toArray 177 (0,0)):=by rw[sq,aro,aro];exact setRow_heap w2.drew _ _ _ _ _ sN
   have BX:ba [1000] [1000] γ.o w (grow γ.o w 1000) w3:=by rw[sq];exact da.trans (NI (yg _ (nM _ _ _ _ (aqM _))))
   refine WL.nx ajn ?_
   refine CW.sr fun K14 ajm=> ?_
   refine WL.p (.slice (some ⟨w.heap.size,0,none⟩) (xs.length+ys.length) G) rfl rfl ?_
   refine WL.p (.slice (some ⟨w.heap.size,0,none⟩) (xs.length+ys.length) G) rfl rfl ?_
   refine WL.nx ajm ?_
   have gl:Ow 177 (grow γ.o w 1000) 1000 [] w3 (.slice (some ⟨w.heap.size,0,none⟩) (xs.take (q:Int).toNat++ys++xs.drop (q:Int).toNat).length G) (xs.take (q:Int).toNat++ys++xs.drop (q:Int).toNat):=
    Ow.KJ BO (nM _ _ _ _ (aqM _)) iH (by rw[hlen];exact Ge) hG2 (by rw[BN,hlen,←aq_,show(Y++X++S2).length=(G-q)*ab.sz (D 11) from hZ,←Nat.sub_mul];congr 1;omega)
   rw[hlen] at gl
   exact CW.jg (vs:=[.slice (some ⟨w.heap.size,0,none⟩) (xs.length+ys.length) G]) Tryz.results232 ⟨rfl,trivial⟩ ⟨_,rfl,BY (n:=11) (e:=177) (q:=1002) (k:=1000) (K:=[]) (M:=[1000]) (N:=[1000]) rfl rfl rfl (by omega) (by omega) (by simp) (by simp) BX gl (fun x hx=>by simp at hx)⟩ (fun _ _ h=>h)
 refine WL.pe (v':= .bool false) rfl (congrArg Value.bool (decide_eq_false (by omega))) rfl ?_
 refine WL.nx U4 ?_
 refine CW.cond (b:=false) rfl (fun h=>nomatch h) (fun _=> ?_)
 refine CW.skip ?_
 refine Ng _ _ ?_
 obtain⟨Y,X,S2,hS,hY,hX,BN⟩:=NZ (c2.flatten++S) (ys.length*ab.sz (D 11)) ((xs.length-q)*ab.sz (D 11)) (by rw[aqY,r5,r6,←aq_,←aq_];exact arl _ (by omega))
 have FG:c1.flatten++c2.flatten++S=c1.flatten++Y++X++S2:=by rw[aq4,hS];simp only[aq4]
 refine CW.sr fun K15 ajl=> ?_
 refine WL.p (.slice (some ⟨b,0,none⟩) xs.length cap) rfl rfl ?_
 refine WL.p (.int .i64 xs.length) rfl rfl ?_
 refine WL.p (.int .i64 ys.length) rfl rfl ?_
 refine WL.pe (v':= .int .i64 ((xs.length+ys.length:Nat):Int)) rfl (congrArg _ M_) rfl ?_
 refine WL.gC (OW.pre hu hT rfl rfl (by omega)) rfl ?_
 refine WL.p (.slice (some ⟨b,0,none⟩) (xs.length+ys.length) cap) rfl rfl ?_
 refine WL.nx ajl ?_
 refine CW.seq fun K16 aqf=> ?_
 refine CW.sr fun K17 ajk=> ?_
 refine WL.p (.slice (some ⟨bv,0,none⟩) ys.length vL) rfl rfl ?_
 refine WL.p (.slice (some ⟨b,0,none⟩) (xs.length+ys.length) cap) rfl rfl ?_
 refine WL.p (.int .i64 q) rfl rfl ?_
 refine WL.p (.int .i64 ys.length) rfl rfl ?_
 refine WL.pe (v':= .int .i64 ((q+ys.length:Nat):Int)) rfl (congrArg _ BM) rfl ?_
 refine WL.gC (OW.tl hu hT rfl rfl (by omega) (by omega) (by omega)) rfl ?_
 refine WL.gC (OW.overlaps (f:=250) (fn:=Tryz.f250) (tR:=4) hu hT Tryz.func250 rfl rfl rfl rfl rfl rfl M4 s1 r1 (by simp only[List.size_toArray,aqY,r4,r5,r6,←aq_];exact Nat.ne_of_gt (Nat.mul_pos (by omega) dy))) rfl ?_
 refine WL.p (.bool true) rfl rfl ?_
 refine WL.nx ajk ?_
 refine CW.cond (b:=true) rfl (fun _=> ?_) (fun h=>nomatch h)
 rw[FG] at r1
 refine CW.seq fun K18 ajj=> ?_
 refine CW.draw fj 8 [69,70,71,72,73,74,75,76] [.slice (some ⟨b,0,none⟩) (xs.length+ys.length) cap,.int .i64 q,.int .i64 ys.length,.int .i64 ((q+ys.length:Nat):Int),.slice (some ⟨b,(q+ys.length)*ab.sz (D 11),none⟩) (xs.length+ys.length-(q+ys.length)) (cap-(q+ys.length)),.slice (some ⟨b,0,none⟩) (xs.length+ys.length) cap,.int .i64 q,.slice (some ⟨b,q*ab.sz (D 11),none⟩) (xs.length+ys.length-q) (cap-q)] rfl rfl ⟨OW.pv rfl,OW.pv rfl,OW.pv rfl,OW.R6 rfl (congrArg _ BM),OW.tl hu hT rfl rfl (by omega) (by omega) (by omega),OW.pv rfl,OW.pv rfl,OW.tl hu hT rfl rfl (by omega) (by omega) (by omega),trivial⟩ ?_
 refine WL.step (OW.GV (A:=c1.flatten++Y) (X:=X) (B:=S2) (src:=c2.flatten) hu hT rfl rfl r1 (by rw[aqY,r4,hY,←aq_]) (by rw[hX,r5]) (by rw[r5];congr 1;rw[Nat.min_eq_right]<;>omega) (w5 (A:=c1.flatten) (B:=S) (by rw[←FG] at r1;exact r1) r4) (uq r3)) rfl ?_
 rintro v2 w2 eQ
 have sN:w2.heap[b]? =some (.cells (c1.flatten++Y++(c2.flatten++S2)).toArray 177 (0,0)):=by rw[eQ,←aq4];exact setRow_heap w.drew _ _ _ _ _ r1
 have hV2:w2.heap[bv]? =w.heap[bv]? :=by rw[eQ];exact setRow_other w.drew _ _ _ M4
 have da:ba [1000] [1000] γ.o w γ.o w2:=by rw[eQ];exact NI (yg _ r7)
 clear eQ
 refine WL.nx ajj ?_
 refine CW.sr fun K19 aji=> ?_
 refine WL.p (.slice (some ⟨b,0,none⟩) (xs.length+ys.length) cap) rfl rfl ?_
 refine WL.p (.int .i64 q) rfl rfl ?_
 refine WL.gC (OW.tl hu hT rfl rfl (by omega) (by omega) (by omega)) rfl ?_
 refine WL.p (.slice (some ⟨bv,0,none⟩) ys.length vL) rfl rfl ?_
 refine WL.step (OW.GV (A:=c1.flatten) (X:=Y) (B:=c2.flatten++S2) (src:=cv.flatten) hu hT rfl rfl sN r4 (by rw[hY,s5];rfl) UI (w5 (A:=[]) (B:=Sv) (by rw[hV2];exact s1) rfl) (uq s3)) rfl ?_
 rintro v3 w3 sq
 have BO:w3.heap[b]? =some (.cells ((c1++cv++c2).flatten++S2).toArray 177 (0,0)):=by rw[sq,aro,aro,aq4 _ c2.flatten S2];exact setRow_heap _ _ _ _ _ _ sN
 have BX:ba [1000] [1000] γ.o w γ.o w3:=by rw[sq];exact da.trans (yg _ r7)
 refine WL.nx aji ?_
 refine CW.sr fun K20 ajh=> ?_
 refine WL.p (.slice (some ⟨b,0,none⟩) (xs.length+ys.length) cap) rfl rfl ?_
 refine WL.p (.slice (some ⟨b,0,none⟩) (xs.length+ys.length) cap) rfl rfl ?_
 refine WL.nx ajh ?_
 have gl:Ow 177 γ.o 1000 [] w3 (.slice (some ⟨b,0,none⟩) (xs.take (q:Int).toNat++ys++xs.drop (q:Int).toNat).length cap) (xs.take (q:Int).toNat++ys++xs.drop (q:Int).toNat):=
  Ow.KJ BO r7 iH (by rw[hlen];omega) vj (by rw[BN,hlen,aqY,r5,r6,←aq_,←aq_,←Nat.sub_mul];congr 1;omega)
 rw[hlen] at gl
 exact CW.jg (vs:=[.slice (some ⟨b,0,none⟩) (xs.length+ys.length) cap]) Tryz.results232 ⟨rfl,trivial⟩ ⟨_,rfl,BY (n:=11) (e:=177) (q:=1002) (k:=1000) (K:=[]) (M:=[1000]) (N:=[1000]) rfl rfl rfl (by omega) (by omega) (by simp) (by simp) BX gl (fun x hx=>by simp at hx)⟩ (fun _ _ h=>h)
def DY(a0:List Part)(a1:Int)(a2:Int):Option (List Part):=B_ a0 a1 a2
def Xx:ar D:=⟨233,Dg,[.lf (.sl 11)],[.one (.own 1000),.one (.h 1 []),.one (.h 2 [])],[(1000,.sl 11 177 0 [])],[.one (.own 1001)],[(1001,.sl 11 177 0 [])],fun h=>DY h.1 h.2.1 h.2.2⟩
theorem amU:CK Xx:=by
 refine⟨Tryz.call233,rfl,rfl,rfl,rfl,fun h0 r0 jm dA di has j_ γ w vs hv hO=> ?_⟩
 cases has
 cases j_
 match vs,hv with
 |[],hv=>exact hv.elim
 |[_],hv=>exact hv.2.elim
 |[_,_],hv=>exact hv.2.2.elim
 |_::_::_::_::_,hv=>exact hv.2.2.2.elim
 |[v1,v2,v3],hv=>
 obtain⟨xs,dj⟩:∃xs:List (D 11),xs=h0.1:=⟨_,rfl⟩
 obtain⟨iz,u6⟩:∃iz:Int,iz=h0.2.1:=⟨_,rfl⟩
 obtain⟨jz,ME⟩:∃jz:Int,jz=h0.2.2:=⟨_,rfl⟩
 obtain⟨r,fR⟩:∃r:List (D 11),r=r0:=⟨_,rfl⟩
 have hr:B_ xs iz jz=some r:=by rw[dj,u6,ME,fR];exact jm
 have g1:Ow 177 γ.o 1000 [0] w v1 xs:=by rw[dj,hv.1.2.1];exact(hO.ob 1000 _ rfl).2.2.1
 have g2:v2= .int .i64 iz:=by rw[u6];exact hv.2.1.1
 have g3:v3= .int .i64 jz:=by rw[ME];exact hv.2.2.1.1
 subst fR
 clear jm hv hO dj u6 ME
 haveI:Flat (D 11):=Nz
 have hT:=qz.2
 have hu:=qz.1
 obtain⟨b1,b2,b3,rfl⟩:=ak4 hr
 obtain⟨q,rfl⟩:∃q:Nat,iz=(q:Int):=⟨iz.toNat,by omega⟩
 obtain⟨s,rfl⟩:∃s:Nat,jz=(s:Int):=⟨jz.toNat,by omega⟩
 have hqs:q≤s:=by omega
 have hs:s≤xs.length:=by omega
 obtain⟨p,cap,rfl,uV,vj⟩:=Ow.shape g1
 subst g2 g3
 have xP:((q:Int)).toNat=q:=aq8 q
 have bD:((s:Int)).toNat=s:=aq8 s
 refine enter (l:=[.slice p xs.length cap,.int .i64 q,.int .i64 s]) Tryz.func233 rfl Tryz.ntmps233 rfl ?_
 refine CW.sub (L':=[(0,.slice p xs.length cap),(1,.int .i64 q),(2,.int .i64 s)]) ⟨rfl,rfl,rfl,trivial⟩ ?_
 refine CW.sr fun K0 Nj=> ?_
 refine WL.p (.slice none 0 0) rfl rfl ?_
 refine WL.nx Nj ?_
 refine CW.sr fun K1 fc=> ?_
 refine WL.p (.slice p xs.length cap) rfl rfl ?_
 refine WL.p (.int .i64 q) rfl rfl ?_
 refine WL.p (.int .i64 s) rfl rfl ?_
 refine WL.p (.slice p xs.length cap) rfl rfl ?_
 refine WL.gC (OW.uB hu rfl) rfl ?_
 refine WL.Jk (OW.slice3 hu hT rfl rfl rfl rfl (by omega) (by omega) (by omega) (by omega)) rfl fun _ _=> ?_
 refine WL.nx fc ?_
 refine CW.seq fun K2 fU=> ?_
 refine CW.sr fun K3 iX=> ?_
 refine WL.p (.int .i64 q) rfl rfl ?_
 refine WL.p (.int .i64 s) rfl rfl ?_
 by_cases Bn:q=s
 · refine WL.pe (v':= .bool true) rfl (congrArg Value.bool (beq_iff_eq.2 (by omega))) rfl ?_
   refine WL.nx iX ?_
   refine CW.cond (b:=true) rfl (fun _=> ?_) (fun h=>nomatch h)
   refine CW.sr fun K8 Nh=> ?_
   refine WL.p (.slice p xs.length cap) rfl rfl ?_
   refine WL.p (.slice p xs.length cap) rfl rfl ?_
   refine WL.nx Nh ?_
   have oF:xs.take (q:Int).toNat++xs.drop (s:Int).toNat=xs:=by rw[xP,bD,Bn,arv]
   have gl:=g1
   conv at gl=>rhs;rw[←oF]
   exact CW.jg (vs:=[.slice p xs.length cap]) Tryz.results233 ⟨rfl,trivial⟩ ⟨_,rfl,BY (n:=11) (e:=177) (q:=1001) (k:=1000) (K:=[]) (M:=[]) (N:=[]) rfl rfl rfl (by omega) (by omega) (by simp) (by simp) (ba.refl _ _ γ.o w) gl (fun x hx=>by simp at hx)⟩ (fun _ _ h=>h)
 refine WL.pe (v':= .bool false) rfl (congrArg Value.bool (beq_eq_false_iff_ne.2 (by omega))) rfl ?_
 refine WL.nx iX ?_
 refine CW.cond (b:=false) rfl (fun h=>nomatch h) (fun _=> ?_)
 refine CW.skip ?_
 refine fU _ _ ?_
 obtain⟨b,rfl⟩:=Ow.block g1 (fun h=>by rw[h] at hs;simp at hs;omega)
 obtain⟨c1,c2,S,r1,r2,r3,r4,r5,r6,r7,_,_,_⟩:=Ow.split g1 (Nat.le_trans hqs hs)
 have r8:bC (ab.rd (In γ.o [0]) w) (c2.drop (s-q)) (xs.drop s):=by
  have:=r3.drop (s-q)
  rwa[List.drop_drop,show q+(s-q)=s by omega] at this
 have gG:c2.flatten=(c2.take (s-q)).flatten++(c2.drop (s-q)).flatten:=by rw[←aro,arv]
 have r9:(c2.drop (s-q)).flatten.length=(xs.length-s)*ab.sz (D 11):=by rw[mb r8,List.length_drop]
 have r10:(c2.take (s-q)).flatten.length=(s-q)*ab.sz (D 11):=by
  have h1:(c2.take (s-q)).flatten.length+(c2.drop (s-q)).flatten.length=(xs.length-q)*ab.sz (D 11):=by rw[←aqY,←gG,r5]
  have h2:(xs.length-q)*ab.sz (D 11)=(s-q)*ab.sz (D 11)+(xs.length-s)*ab.sz (D 11):=by rw[←aq_];congr 1;omega
  omega
 obtain⟨X,Y,S2,hS,hX,hY,BN⟩:=NZ (c2.flatten++S) ((xs.length-s)*ab.sz (D 11)) ((s-q)*ab.sz (D 11)) (by rw[aqY,r5,r6,←aq_,←aq_];exact arl _ (by omega))
 have FG:c1.flatten++c2.flatten++S=c1.flatten++X++(Y++S2):=by rw[aq4,hS];simp only[aq4]
 have ahl:c1.flatten++c2.flatten++S=(c1.flatten++(c2.take (s-q)).flatten)++(c2.drop (s-q)).flatten++S:=by rw[gG];simp only[aq4]
 have iH:bC (ab.rd (In γ.o [0]) w) (c1++c2.drop (s-q)) (xs.take (q:Int).toNat++xs.drop (s:Int).toNat):=by rw[xP,bD];exact r2.append r8
 have hlen:(xs.take (q:Int).toNat++xs.drop (s:Int).toNat).length=q+(xs.length-s):=by rw[xP,bD];simp;omega
 refine CW.sr fun K5 ki=> ?_
 refine WL.p (.slice (some ⟨b,0,none⟩) xs.length cap) rfl rfl ?_
 refine WL.gC (OW.uB hu rfl) rfl ?_
 refine WL.p (.int .i64 xs.length) rfl rfl ?_
 refine WL.nx ki ?_
 refine CW.seq fun K6 Ni=> ?_
 refine CW.draw fj 6 [20,21,22,23,24,25] [.slice (some ⟨b,0,none⟩) xs.length cap,.int .i64 q,.slice (some ⟨b,0,none⟩) q cap,.slice (some ⟨b,0,none⟩) xs.length cap,.int .i64 s,.slice (Dw b s cap (ab.sz (D 11))) (xs.length-s) (cap-s)] rfl rfl ⟨OW.pv rfl,OW.pv rfl,OW.pre hu hT rfl rfl (by omega),OW.pv rfl,OW.pv rfl,OW.tl2 hu hT rfl rfl hs uV,trivial⟩ ?_
 refine WL.step (OW.apb (A:=c1.flatten) (X:=X) (B:=Y++S2) (src:=(c2.drop (s-q)).flatten) hu hT rfl rfl (by rw[←FG];exact r1) r4 (by rw[hX,r9]) r9 (fun hm=>⟨⟨b,s*ab.sz (D 11),none⟩,by unfold Dw;rw[if_neg (by omega)],w5 (A:=c1.flatten++(c2.take (s-q)).flatten) (B:=S) (by rw[←ahl];exact r1) (by rw[aqY,r4,r10,←aq_];congr 1;omega)⟩) (uq r8) (by omega)) rfl ?_
 rintro v' w2 ⟨rfl,eQ⟩
 have sN:w2.heap[b]? =some (.cells (c1.flatten++(c2.drop (s-q)).flatten++Y++S2).toArray 177 (0,0)):=by rw[eQ,aq4 _ Y S2];exact setRow_heap w.drew _ _ _ _ _ r1
 have da:ba [1000] [1000] γ.o w γ.o w2:=by rw[eQ];exact NI (yg _ r7)
 clear eQ
 refine WL.p (.slice (some ⟨b,0,none⟩) (q+(xs.length-s)) cap) rfl rfl ?_
 refine WL.nx Ni ?_
 refine CW.sr fun K7 Gb=> ?_
 refine WL.p (.slice (some ⟨b,0,none⟩) (q+(xs.length-s)) cap) rfl rfl ?_
 refine WL.p (.slice (some ⟨b,0,none⟩) (q+(xs.length-s)) cap) rfl rfl ?_
 refine WL.gC (OW.uB hu rfl) rfl ?_
 refine WL.p (.int .i64 xs.length) rfl rfl ?_
 refine WL.gC (OW.mid (l:=q+(xs.length-s)) (h:=xs.length) hu hT rfl rfl rfl (by omega) uV) rfl ?_
 obtain⟨k,hk⟩:∃k,xs.length-(q+(xs.length-s))=k+1:=⟨xs.length-(q+(xs.length-s))-1,by omega⟩
 rw[hk]
 refine WL.ac0 (OW.alq (A:=c1.flatten++(c2.drop (s-q)).flatten) (X:=Y) (B:=S2) hu hT rfl sN (by rw[aqY,r4,r9,←aq_]) (by rw[hY,←hk];congr 1;omega)) ?_
 rintro v3 w3 ⟨Z,hZ,sq⟩
 have BO:w3.heap[b]? =some (.cells ((c1++c2.drop (s-q)).flatten++(Z++S2)).toArray 177 (0,0)):=by rw[sq,aro,←aq4 _ Z S2];exact setRow_heap _ _ _ _ _ _ sN
 have BX:ba [1000] [1000] γ.o w γ.o w3:=by rw[sq];exact da.trans (yg _ r7)
 refine WL.nx Gb ?_
 refine CW.sr fun K9 Ng=> ?_
 refine WL.p (.slice (some ⟨b,0,none⟩) (q+(xs.length-s)) cap) rfl rfl ?_
 refine WL.p (.slice (some ⟨b,0,none⟩) (q+(xs.length-s)) cap) rfl rfl ?_
 refine WL.nx Ng ?_
 have gl:Ow 177 γ.o 1000 [] w3 (.slice (some ⟨b,0,none⟩) (xs.take (q:Int).toNat++xs.drop (s:Int).toNat).length cap) (xs.take (q:Int).toNat++xs.drop (s:Int).toNat):=
  Ow.KJ BO r7 iH (by rw[hlen];omega) vj (by rw[hlen,aqY,hZ,hY,BN,aqY,r5,r6,←aq_,←aq_,←Nat.sub_mul,←aq_];congr 1;omega)
 rw[hlen] at gl
 exact CW.jg (vs:=[.slice (some ⟨b,0,none⟩) (q+(xs.length-s)) cap]) Tryz.results233 ⟨rfl,trivial⟩ ⟨_,rfl,BY (n:=11) (e:=177) (q:=1001) (k:=1000) (K:=[]) (M:=[1000]) (N:=[1000]) rfl rfl rfl (by omega) (by omega) (by simp) (by simp) BX gl (fun x hx=>by simp at hx)⟩ (fun _ _ h=>h)
def Dm(a0:kq)(a1:Part)(a2:Bool):Option (Int×Int×List aO×List Source×List Consumer×Int×Int×Int×List Bool×List aC×List Int×List Part):=(D9 a0.aP.aA a1).bind fun x1=>if(x1.2==a2)=true then some (11,a0.ax.ak,a0.ax.ad,a0.ax.aa,a0.ax.ai,a0.ax.aG,a0.ax.aB,a0.time,a0.aP.aq,a0.aP.aa,a0.aP.aE,a0.aP.aA) else(if a2=true then some (decide (len a0.aP.aA≥32)) else some false).bind fun x2=>if x2=true then some (2,a0.ax.ak,a0.ax.ad,a0.ax.aa,a0.ax.ai,a0.ax.aG,a0.ax.aB,a0.time,a0.aP.aq,a0.aP.aa,a0.aP.aE,a0.aP.aA) else(if a2=true then(DP a0.aP.aA x1.1 [a1]).bind fun x4=>some (a0.ax.ak,a0.ax.ad,a0.ax.aa,a0.ax.ai,a0.ax.aG,a0.ax.aB,a0.time,x4) else(DY a0.aP.aA x1.1 (W (x1.1+1))).bind fun x3=>some (a0.ax.ak,a0.ax.ad,a0.ax.aa,a0.ax.ai,a0.ax.aG,a0.ax.aB,a0.time,x3)).bind fun x5=>(if(a1.Kind==1)=true then(idx a0.aP.aa a1.Number).bind fun x6=>(idx a0.aP.aa a1.Number).bind fun x7=>(cm a0.aP.aa a1.Number (aC.mk 0 x7.ew x7.aB x7.aG)).bind fun x8=>(if a2=true then(idx x8 a1.Number).bind fun x9=>(idx x8 a1.Number).bind fun aH=>(cm x8 a1.Number (aC.mk 3 aH.ew aH.aB aH.aG)).bind some else some x8).bind some else some a0.aP.aa).bind fun aY=>some (0,x5.1,x5.2.1,x5.2.2.1,x5.2.2.2.1,x5.2.2.2.2.1,x5.2.2.2.2.2.1,x5.2.2.2.2.2.2.1,a0.aP.aq,aY,a0.aP.aE,x5.2.2.2.2.2.2.2)
def X_:ar D:=⟨196,[.lf (.int .i64),.lf (.sl 5),.lf (.sl 6),.lf (.sl 7),.lf (.int .i64),.lf (.int .i64),.lf (.sl 1),.lf (.sl 10),.lf (.sl 0),.lf (.sl 11),.lf (.int .i64),.lf (.int .i64),.lf (.int .i64),.lf .bool],z6,[.one (.ptr 1000 0),.agg [.h 11 [],.h 12 []],.one (.h 13 [])],wi,z7,[(1000,.box [.h 1 [],.h 2 [0],.h 3 [0],.h 4 [0],.h 5 [],.h 6 [],.own 1001,.own 1002,.own 1003,.own 1005,.h 7 []]),(1001,.sl 1 4 8 []),(1002,.sl 10 148 9 []),(1003,.sl 0 3 10 []),(1005,.sl 11 177 11 [])],fun h=>let g:=h.2.2.2.2.2.2;Dm ⟨⟨h.1,h.2.1,h.2.2.1,h.2.2.2.1,h.2.2.2.2.1,h.2.2.2.2.2.1⟩,⟨g.1,g.2.1,g.2.2.1,g.2.2.2.1⟩,g.2.2.2.2.1⟩ ⟨g.2.2.2.2.2.1,g.2.2.2.2.2.2.1⟩ g.2.2.2.2.2.2.2⟩
theorem anw:CK X_:=fo [XA,Xy,Xx] [.tmp 6] (.n none .o (.n none .o (.n none (.n none (.n none .o (.n none .o (.n none (.r (some (true,[(.normal,⟨[.lf .bool],[(36,.one (.h 0 []))],[],[],3216⟩)])) .nil) (.n none .o (.n none .o (.n (some (true,[(.normal,⟨[.lf (.int .i64),.lf (.sl 5),.lf (.sl 6),.lf (.sl 7),.lf (.int .i64),.lf (.int .i64),.lf (.int .i64),.lf (.sl 11)],[],[(1000,.box [.h 0 [],.h 1 [0],.h 2 [0],.h 3 [0],.h 4 [],.h 5 [],.own 1001,.own 1002,.own 1003,.own 3345,.h 6 []]),(3345,.sl 11 177 7 [])],[1000,1004],3409⟩)])) .o .o)))))) .o) (.n none (.n none .o (.n (some (true,[(.normal,⟨kn,[],[(1002,.sl 10 148 0 [])],[1002],3673⟩)])) (.n none .o (.n none .o (.n (some (true,[(.normal,⟨kn,[],[(1002,.sl 10 148 0 [])],[1002],4377⟩)])) .o .o))) .o)) .o)))) ⟨amX,amV,amU,trivial⟩ Tryz.call196 Tryz.func196 rfl rfl
def Dq(a0:kq)(a1:Act):Option (Int×Int×List aO×List Source×List Consumer×Int×Int×Int×List Bool×List aC×List Int×List Part):=(if(a1.Kind==1)=true then(ud a0.ax a0.aP a1.Unit).bind fun bO=>some (bO.1,a0.ax.ak,a0.ax.ad,a0.ax.aa,a0.ax.ai,a0.ax.aG,a0.ax.aB,a0.time,bO.2.1,bO.2.2.1,bO.2.2.2.1,bO.2.2.2.2) else(if(a1.Kind==2)=true then(DD a0.ax a0.aP a1.Unit).bind fun aM=>some (aM.1,a0.ax.ak,a0.ax.ad,a0.ax.aa,a0.ax.ai,a0.ax.aG,a0.ax.aB,a0.time,aM.2.1,aM.2.2.1,aM.2.2.2.1,aM.2.2.2.2) else(if(a1.Kind==6)=true then(DE a0.ax a0.aP a1.Unit a1.Value).bind fun aH=>some (aH.1,a0.ax.ak,a0.ax.ad,a0.ax.aa,a0.ax.ai,a0.ax.aG,a0.ax.aB,a0.time,aH.2.1,aH.2.2.1,aH.2.2.2.1,aH.2.2.2.2) else(if(a1.Kind==3)=true then(Dk a0 a1.Unit).bind fun x8=>some (x8.1,x8.2.1,x8.2.2.1,x8.2.2.2.1,x8.2.2.2.2.1,x8.2.2.2.2.2.1,x8.2.2.2.2.2.2.1,x8.2.2.2.2.2.2.2.1,x8.2.2.2.2.2.2.2.2.1,x8.2.2.2.2.2.2.2.2.2.1,x8.2.2.2.2.2.2.2.2.2.2.1,x8.2.2.2.2.2.2.2.2.2.2.2) else(if(a1.Kind==4)=true then(Dj a0 a1.Unit).bind fun x6=>some (x6.1,x6.2.1,x6.2.2.1,x6.2.2.2.1,x6.2.2.2.2.1,x6.2.2.2.2.2.1,x6.2.2.2.2.2.2.1,x6.2.2.2.2.2.2.2.1,x6.2.2.2.2.2.2.2.2.1,x6.2.2.2.2.2.2.2.2.2.1,x6.2.2.2.2.2.2.2.2.2.2.1,x6.2.2.2.2.2.2.2.2.2.2.2) else(if(a1.Kind==5)=true then(Dl a0 a1.Unit a1.Value).bind fun x4=>some (x4.1,x4.2.1,x4.2.2.1,x4.2.2.2.1,x4.2.2.2.2.1,x4.2.2.2.2.2.1,x4.2.2.2.2.2.2.1,x4.2.2.2.2.2.2.2.1,x4.2.2.2.2.2.2.2.2.1,x4.2.2.2.2.2.2.2.2.2.1,x4.2.2.2.2.2.2.2.2.2.2.1,x4.2.2.2.2.2.2.2.2.2.2.2) else(if(a1.Kind==7)=true then(Di a0).bind fun x2=>some (0,x2.1,x2.2.1,x2.2.2.1,x2.2.2.2.1,x2.2.2.2.2.1,x2.2.2.2.2.2.1,x2.2.2.2.2.2.2.1,x2.2.2.2.2.2.2.2.2.2.2.2.1,x2.2.2.2.2.2.2.2.2.2.2.2.2.1,x2.2.2.2.2.2.2.2.2.2.2.2.2.2.1,x2.2.2.2.2.2.2.2.2.2.2.2.2.2.2) else(Dm a0 (Part.mk a1.Value a1.Unit) (a1.Kind==8)).bind fun x1=>some (x1.1,x1.2.1,x1.2.2.1,x1.2.2.2.1,x1.2.2.2.2.1,x1.2.2.2.2.2.1,x1.2.2.2.2.2.2.1,x1.2.2.2.2.2.2.2.1,x1.2.2.2.2.2.2.2.2.1,x1.2.2.2.2.2.2.2.2.2.1,x1.2.2.2.2.2.2.2.2.2.2.1,x1.2.2.2.2.2.2.2.2.2.2.2)).bind fun x3=>some (x3.1,x3.2.1,x3.2.2.1,x3.2.2.2.1,x3.2.2.2.2.1,x3.2.2.2.2.2.1,x3.2.2.2.2.2.2.1,x3.2.2.2.2.2.2.2.1,x3.2.2.2.2.2.2.2.2.1,x3.2.2.2.2.2.2.2.2.2.1,x3.2.2.2.2.2.2.2.2.2.2.1,x3.2.2.2.2.2.2.2.2.2.2.2)).bind fun x5=>some (x5.1,x5.2.1,x5.2.2.1,x5.2.2.2.1,x5.2.2.2.2.1,x5.2.2.2.2.2.1,x5.2.2.2.2.2.2.1,x5.2.2.2.2.2.2.2.1,x5.2.2.2.2.2.2.2.2.1,x5.2.2.2.2.2.2.2.2.2.1,x5.2.2.2.2.2.2.2.2.2.2.1,x5.2.2.2.2.2.2.2.2.2.2.2)).bind fun x7=>some (x7.1,x7.2.1,x7.2.2.1,x7.2.2.2.1,x7.2.2.2.2.1,x7.2.2.2.2.2.1,x7.2.2.2.2.2.2.1,x7.2.2.2.2.2.2.2.1,x7.2.2.2.2.2.2.2.2.1,x7.2.2.2.2.2.2.2.2.2.1,x7.2.2.2.2.2.2.2.2.2.2.1,x7.2.2.2.2.2.2.2.2.2.2.2)).bind fun x9=>some (x9.1,x9.2.1,x9.2.2.1,x9.2.2.2.1,x9.2.2.2.2.1,x9.2.2.2.2.2.1,x9.2.2.2.2.2.2.1,x9.2.2.2.2.2.2.2.1,x9.2.2.2.2.2.2.2.2.1,x9.2.2.2.2.2.2.2.2.2.1,x9.2.2.2.2.2.2.2.2.2.2.1,x9.2.2.2.2.2.2.2.2.2.2.2)).bind fun aN=>some (aN.1,aN.2.1,aN.2.2.1,aN.2.2.2.1,aN.2.2.2.2.1,aN.2.2.2.2.2.1,aN.2.2.2.2.2.2.1,aN.2.2.2.2.2.2.2.1,aN.2.2.2.2.2.2.2.2.1,aN.2.2.2.2.2.2.2.2.2.1,aN.2.2.2.2.2.2.2.2.2.2.1,aN.2.2.2.2.2.2.2.2.2.2.2)).bind fun aY=>some (aY.1,aY.2.1,aY.2.2.1,aY.2.2.2.1,aY.2.2.2.2.1,aY.2.2.2.2.2.1,aY.2.2.2.2.2.2.1,aY.2.2.2.2.2.2.2.1,aY.2.2.2.2.2.2.2.2.1,aY.2.2.2.2.2.2.2.2.2.1,aY.2.2.2.2.2.2.2.2.2.2.1,aY.2.2.2.2.2.2.2.2.2.2.2)).bind fun aS=>some (aS.1,aS.2.1,aS.2.2.1,aS.2.2.2.1,aS.2.2.2.2.1,aS.2.2.2.2.2.1,aS.2.2.2.2.2.2.1,aS.2.2.2.2.2.2.2.1,aS.2.2.2.2.2.2.2.2.1,aS.2.2.2.2.2.2.2.2.2.1,aS.2.2.2.2.2.2.2.2.2.2.1,aS.2.2.2.2.2.2.2.2.2.2.2)
def Zc:ar D:=⟨121,P3,z6,[.one (.ptr 1000 0),.agg [.h 11 [],.h 12 [],.h 13 []]],wi,z7,[(1000,.box [.h 1 [],.h 2 [0],.h 3 [0],.h 4 [0],.h 5 [],.h 6 [],.own 1005,.own 1006,.own 1007,.own 1008,.h 7 []]),(1005,.sl 1 4 8 []),(1006,.sl 10 148 9 []),(1007,.sl 0 3 10 []),(1008,.sl 11 177 11 [])],fun h=>let g:=h.2.2.2.2.2.2;Dq ⟨⟨h.1,h.2.1,h.2.2.1,h.2.2.2.1,h.2.2.2.2.1,h.2.2.2.2.2.1⟩,⟨g.1,g.2.1,g.2.2.1,g.2.2.2.1⟩,g.2.2.2.2.1⟩ ⟨g.2.2.2.2.2.1,g.2.2.2.2.2.2.1,g.2.2.2.2.2.2.2⟩⟩
theorem aot:CK Zc:=fo [Yf,Ye,Yd,Yc,Yb,Ya,X',X_] [.tmp 4] (.n none .o (.n none (.n none .o (.n none (.n none .o (.n (some (true,[(.normal,⟨z6,kQ,[(1000,.box [.h 1 [],.h 2 [0],.h 3 [0],.h 4 [0],.h 5 [],.h 6 [],.own 2384,.own 2385,.own 2386,.own 2387,.h 7 []]),(2384,.sl 1 4 8 []),(2385,.sl 10 148 9 []),(2386,.sl 0 3 10 []),(2387,.sl 11 177 11 [])],[1000,1001,1002,1003,1004],2448⟩)])) .o (.n none .o (.n (some (true,[(.normal,⟨z6,kQ,[(1000,.box [.h 1 [],.h 2 [0],.h 3 [0],.h 4 [0],.h 5 [],.h 6 [],.own 2512,.own 2513,.own 2514,.own 2515,.h 7 []]),(2512,.sl 1 4 8 []),(2513,.sl 10 148 9 []),(2514,.sl 0 3 10 []),(2515,.sl 11 177 11 [])],[1000,1001,1002,1003,1004],2576⟩)])) .o (.n none .o (.n (some (true,[(.normal,⟨z6,kQ,[(1000,.box [.h 1 [],.h 2 [0],.h 3 [0],.h 4 [0],.h 5 [],.h 6 [],.own 2640,.own 2641,.own 2642,.own 2643,.h 7 []]),(2640,.sl 1 4 8 []),(2641,.sl 10 148 9 []),(2642,.sl 0 3 10 []),(2643,.sl 11 177 11 [])],[1000,1001,1002,1003,1004],2704⟩)])) .o (.n none .o (.n (some (true,[(.normal,⟨z6,kQ,[(1000,.box [.h 1 [],.h 2 [0],.h 3 [0],.h 4 [0],.h 5 [],.h 6 [],.own 2768,.own 2769,.own 2770,.own 2771,.h 7 []]),(2768,.sl 1 4 8 []),(2769,.sl 10 148 9 []),(2770,.sl 0 3 10 []),(2771,.sl 11 177 11 [])],[1000,1001,1002,1003,1004],2832⟩)])) .o (.n none .o (.n (some (true,[(.normal,⟨z6,kQ,[(1000,.box [.h 1 [],.h 2 [0],.h 3 [0],.h 4 [0],.h 5 [],.h 6 [],.own 2896,.own 2897,.own 2898,.own 2899,.h 7 []]),(2896,.sl 1 4 8 []),(2897,.sl 10 148 9 []),(2898,.sl 0 3 10 []),(2899,.sl 11 177 11 [])],[1000,1001,1002,1003,1004],2960⟩)])) .o (.n none .o (.n (some (true,[(.normal,⟨z6,kQ,[(1000,.box [.h 1 [],.h 2 [0],.h 3 [0],.h 4 [0],.h 5 [],.h 6 [],.own 3024,.own 3025,.own 3026,.own 3027,.h 7 []]),(3024,.sl 1 4 8 []),(3025,.sl 10 148 9 []),(3026,.sl 0 3 10 []),(3027,.sl 11 177 11 [])],[1000,1001,1002,1003,1004],3088⟩)])) .o (.n none .o (.n (some (true,[(.normal,⟨z6,kQ,[(1000,.box [.h 1 [],.h 2 [0],.h 3 [0],.h 4 [0],.h 5 [],.h 6 [],.own 3152,.own 3153,.own 3154,.own 3155,.h 7 []]),(3152,.sl 1 4 8 []),(3153,.sl 10 148 9 []),(3154,.sl 0 3 10 []),(3155,.sl 11 177 11 [])],[1000,1001,1002,1003,1004],3216⟩)])) .o .o)))))))))))))) .o)) .o)) ⟨anE,anD,anC,anB,anA,anz,anx,anw,trivial⟩ Tryz.call121 Tryz.func121 rfl rfl
def Av(a0:aj)(a1:ae)(a2:Int)(a3:Act):Option (Int×List Bool×List aC×List Int×List Part):=(lB a0 a1).bind fun x1=>if(x1 !=0)=true then some (x1,[],[],[],[]) else(if decide (a2<0)=true then some true else if decide (a2>2147483648)=true then some true else if decide (a3.Kind<1)=true then some true else some (decide (a3.Kind>9))).bind fun x2=>if x2=true then some (1,[],[],[],[]) else(As a0 a3).bind fun x3=>if(!x3)=true then some (10,[],[],[],[]) else(lJ a1).bind fun x4=>(Dq (kq.mk a0 (ae.mk x4.1 x4.2.1 x4.2.2.1 x4.2.2.2) a2) a3).bind fun x5=>if(x5.1 !=0)=true then some (x5.1,[],[],[],[]) else some (0,x5.2.2.2.2.2.2.2.2.1,x5.2.2.2.2.2.2.2.2.2.1,x5.2.2.2.2.2.2.2.2.2.2.1,x5.2.2.2.2.2.2.2.2.2.2.2)
def yL:ar D:=⟨55,P3,rA,[.agg [.h 0 [],.h 1 [0],.h 2 [0],.h 3 [0],.h 4 [],.h 5 []],.agg [.h 6 [0],.h 7 [0],.h 8 [0],.h 9 [0]],.one (.h 10 []),.agg [.h 11 [],.h 12 [],.h 13 []]],[],tO,tQ,fun h=>let g:=h.2.2.2.2.2.2;Av ⟨h.1,h.2.1,h.2.2.1,h.2.2.2.1,h.2.2.2.2.1,h.2.2.2.2.2.1⟩ ⟨g.1,g.2.1,g.2.2.1,g.2.2.2.1⟩ g.2.2.2.2.1 ⟨g.2.2.2.2.2.1,g.2.2.2.2.2.2.1,g.2.2.2.2.2.2.2⟩⟩
theorem Oq:CK yL:=fo [gn,jM,Zd,Zc] [.cell 8 38,.tmp 9] (.n none .o (.n none (.n none .o (.n none (.n none .o (.n none .o (.n none (.r (some (true,[(.normal,⟨[.lf .bool],[(21,.one (.h 0 []))],[],[],2832⟩)])) .nil) .o))) .o)) .o)) ⟨kK,nh,aou,aot,trivial⟩ Tryz.call55 Tryz.func55 rfl rfl
def wR(a0:Int)(a1:Int)(a2:dP):Option (Bool×dP):=(jO a2.aP a0 a1).bind fun x1=>some (x1,a2)
def Xs:ar D:=⟨240,[.lf (.int .i64),.lf (.int .i64),.el 20],[.lf .bool,.el 20],[.one (.h 0 []),.one (.h 1 []),.one (.ptr 1000 0)],[(1000,.box [.rp 2 20 [0]])],z7,[(1000,.box [.rp 1 20 [0]])],fun h=>wR h.1 h.2.1 h.2.2⟩
theorem amQ:CK Xs:=fo [gK] [.tmp 5] .o ⟨nT,trivial⟩ Tryz.call240 Tryz.func240 rfl rfl
def EI(a0:dP)(a1:aO):Option (Bool):=(wR 3 a1.A a0).bind fun x1=>if x1.1=true then some true else if(a1.Kind==1)=true then(wR 3 a1.B x1.2).bind fun x6=>some x6.1 else if(a1.Kind==2)=true then((wR 1 a1.B x1.2).bind fun x3=>if x3.1=true then some (true,x3.2) else(idx x3.2.aP.aa a1.B).bind fun x4=>some (x4.State !=2,x3.2)).bind fun x5=>some x5.1 else(wR 4 a1.B x1.2).bind fun x2=>some x2.1
def XX:ar D:=⟨208,[.el 20,.lf (.int .i64),.lf (.int .i64),.lf (.int .i64)],[.lf .bool],[.one (.rp 0 20 [0]),.agg [.h 11 [],.h 12 [],.h 13 []]],[],z7,[],fun h=>EI h.1 ⟨h.2.1,h.2.2.1,h.2.2.2⟩⟩
theorem ank:CK XX:=fo [Xs] [.tmp 4] (.n none .o (.n none .o (.n none (.n none (.n none .o (.n none .o (.n none .o (.n none .o (.n none .o (.n none (.n none (.r (some (true,[(.normal,⟨[.lf .bool,.el 20],kQ,[(2000,.box [.rp 1 20 [0]])],[2000],3216⟩)])) .nil) .o) .o)))))) .o) .o))) ⟨amQ,trivial⟩ Tryz.call208 Tryz.func208 rfl rfl
def Az(a0:dP)(a1:Int):Option (Int×List aO×List Source×List Consumer×Int×Int×List Bool×List aC×List Int×List Part×List Act):=(idx a0.aP.aq a1).bind fun x1=>(idx a0.aP.aq a1).bind fun x2=>(cm a0.aP.aq a1 false).bind fun x3=>(bq a0.mo [Act.mk 2 a1 0]).bind fun x4=>some (a0.ax.ak,a0.ax.ad,a0.ax.aa,a0.ax.ai,a0.ax.aG,a0.ax.aB,x3,a0.aP.aa,a0.aP.aE,a0.aP.aA,x4)
def Hh:ar D:=⟨239,PU,z5,[.one (.ptr 1000 0),.one (.h 11 [])],zy,[],IZ,fun h=>let g:=h.2.2.2.2.2.2;Az ⟨⟨h.1,h.2.1,h.2.2.1,h.2.2.2.1,h.2.2.2.2.1,h.2.2.2.2.2.1⟩,⟨g.1,g.2.1,g.2.2.1,g.2.2.2.1⟩,g.2.2.2.2.1⟩ g.2.2.2.2.2⟩
theorem Oz:CK Hh:=fo [] [] .o trivial Tryz.call239 Tryz.func239 rfl rfl
def Ax(a0:dP):Int×List Int→Option (Int×List Int⊕List Int):=fun x1=>if decide (x1.1<len a0.ax.ad)=true then(idx a0.ax.ad x1.1).bind fun x2=>((idx a0.aP.aq x1.1).bind fun x3=>if x3=true then(EI a0 x2).bind some else some false).bind fun x5=>(if x5=true then(bq x1.2 [x1.1]).bind some else some x1.2).bind fun x7=>some (.inl (W (x1.1+1),x7)) else some (.inr x1.2)
def xc(x8:List Int):Int×Int×List aO×List Source×List Consumer×Int×Int×List Bool×List aC×List Int×List Part×List Act→Option (Int×Int×List aO×List Source×List Consumer×Int×Int×List Bool×List aC×List Int×List Part×List Act⊕Int×List aO×List Source×List Consumer×Int×Int×List Bool×List aC×List Int×List Part×List Act):=fun x9=>if decide (x9.1<len x8)=true then(idx x8 x9.1).bind fun aH=>(Az (dP.mk (aj.mk x9.2.1 x9.2.2.1 x9.2.2.2.1 x9.2.2.2.2.1 x9.2.2.2.2.2.1 x9.2.2.2.2.2.2.1) (ae.mk x9.2.2.2.2.2.2.2.1 x9.2.2.2.2.2.2.2.2.1 x9.2.2.2.2.2.2.2.2.2.1 x9.2.2.2.2.2.2.2.2.2.2.1) x9.2.2.2.2.2.2.2.2.2.2.2) aH).bind fun aN=>some (.inl (W (x9.1+1),aN.1,aN.2.1,aN.2.2.1,aN.2.2.2.1,aN.2.2.2.2.1,aN.2.2.2.2.2.1,aN.2.2.2.2.2.2.1,aN.2.2.2.2.2.2.2.1,aN.2.2.2.2.2.2.2.2.1,aN.2.2.2.2.2.2.2.2.2.1,aN.2.2.2.2.2.2.2.2.2.2)) else some (.inr (x9.2.1,x9.2.2.1,x9.2.2.2.1,x9.2.2.2.2.1,x9.2.2.2.2.2.1,x9.2.2.2.2.2.2.1,x9.2.2.2.2.2.2.2.1,x9.2.2.2.2.2.2.2.2.1,x9.2.2.2.2.2.2.2.2.2.1,x9.2.2.2.2.2.2.2.2.2.2.1,x9.2.2.2.2.2.2.2.2.2.2.2))
def EE(a0:dP):Option (Int×List aO×List Source×List Consumer×Int×Int×List Bool×List aC×List Int×List Part×List Act):=(ay (Ax a0) (0,[])).bind fun x8=>(ay (xc x8) (0,a0.ax.ak,a0.ax.ad,a0.ax.aa,a0.ax.ai,a0.ax.aG,a0.ax.aB,a0.aP.aq,a0.aP.aa,a0.aP.aE,a0.aP.aA,a0.mo)).bind fun aM=>some (aM.1,aM.2.1,aM.2.2.1,aM.2.2.2.1,aM.2.2.2.2.1,aM.2.2.2.2.2.1,aM.2.2.2.2.2.2.1,aM.2.2.2.2.2.2.2.1,aM.2.2.2.2.2.2.2.2.1,aM.2.2.2.2.2.2.2.2.2.1,aM.2.2.2.2.2.2.2.2.2.2)
def X0:ar D:=⟨207,z5,z5,[.one (.ptr 1000 0),.one (.fn 1000208 [.ptr 1000 0])],zy,[],IZ,fun h=>let g:=h.2.2.2.2.2.2;EE ⟨⟨h.1,h.2.1,h.2.2.1,h.2.2.2.1,h.2.2.2.2.1,h.2.2.2.2.2.1⟩,⟨g.1,g.2.1,g.2.2.1,g.2.2.2.1⟩,g.2.2.2.2⟩⟩
theorem anl:CK X0:=fo [XX,Hh] [] Qu ⟨ank,Oz,trivial⟩ Tryz.call207 Tryz.func207 rfl rfl
def tu(a0:aj)(a1:ae)(a2:Int):Option (Bool):=(mj a0 a1 a2).bind fun x1=>some (decide (len x1.2.1>0))
def mh:ar D:=⟨39,z0,[.lf .bool],z2,[],z7,[],fun h=>let g:=h.2.2.2.2.2.2;tu ⟨h.1,h.2.1,h.2.2.1,h.2.2.2.1,h.2.2.2.2.1,h.2.2.2.2.2.1⟩ ⟨g.1,g.2.1,g.2.2.1,g.2.2.2.1⟩ g.2.2.2.2⟩
theorem vP:CK mh:=fo [qb] [.tmp 6] .o ⟨sZ,trivial⟩ Tryz.call39 Tryz.func39 rfl rfl
def JX(a0:aO)(a1:Int)(a2:List aO)(a3:List Source)(a4:List Consumer)(a5:Int)(a6:Int)(a7:List Bool)(a8:List aC)(a9:List Int)(Ia:List Part)(a11:List Act):Option (Bool×Int×List aO×List Source×List Consumer×Int×Int×List Bool×List aC×List Int×List Part×List Act):=(if(a0.Kind==3)=true then(tu (aj.mk a1 a2 a3 a4 a5 a6) (ae.mk a7 a8 a9 Ia) a0.A).bind fun x1=>some !x1 else some false).bind fun x2=>some (x2,a1,a2,a3,a4,a5,a6,a7,a8,a9,Ia,a11)
def XW:ar D:=⟨209,[.lf (.int .i64),.lf (.int .i64),.lf (.int .i64),.lf (.int .i64),.lf (.sl 5),.lf (.sl 6),.lf (.sl 7),.lf (.int .i64),.lf (.int .i64),.lf (.sl 1),.lf (.sl 10),.lf (.sl 0),.lf (.sl 11),.lf (.sl 16)],PT,[.agg [.h 0 [],.h 1 [],.h 2 []],.one (.ptr 1000 0)],[(1000,.box [.ptr 1001 0]),(1001,.box [.h 3 [],.h 4 [0],.h 5 [0],.h 6 [0],.h 7 [],.h 8 [],.own 1002,.own 1003,.own 1004,.own 1005,.own 1006]),(1002,.sl 1 4 9 []),(1003,.sl 10 148 10 []),(1004,.sl 0 3 11 []),(1005,.sl 11 177 12 []),(1006,.sl 16 94 13 [])],z7,[(1000,.box [.ptr 1001 0]),(1001,.box [.h 1 [],.h 2 [0],.h 3 [0],.h 4 [0],.h 5 [],.h 6 [],.own 1002,.own 1003,.own 1004,.own 1005,.own 1006]),(1002,.sl 1 4 7 []),(1003,.sl 10 148 8 []),(1004,.sl 0 3 9 []),(1005,.sl 11 177 10 []),(1006,.sl 16 94 11 [])],fun h=>let g:=h.2.2.2.2.2.2;JX ⟨h.1,h.2.1,h.2.2.1⟩ h.2.2.2.1 h.2.2.2.2.1 h.2.2.2.2.2.1 g.1 g.2.1 g.2.2.1 g.2.2.2.1 g.2.2.2.2.1 g.2.2.2.2.2.1 g.2.2.2.2.2.2.1 g.2.2.2.2.2.2.2⟩
theorem anj:CK XW:=fo [mh] [.tmp 3] Dc ⟨vP,trivial⟩ Tryz.call209 Tryz.func209 rfl rfl
end Rx
end Go.Proofs.YtncbfgppjfcijaaGreat
