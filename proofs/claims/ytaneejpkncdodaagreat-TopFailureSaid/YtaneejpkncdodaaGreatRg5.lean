import Derived.Test.YtaneejpkncdodaaGreatRt
import Derived.Test.YtaneejpkncdodaaGreatHi
import Derived.Test.YtaneejpkncdodaaGreatRg2
import Derived.Test.YtaneejpkncdodaaGreatRg3
import Derived.Test.YtaneejpkncdodaaGreatRg4
set_option linter.unusedVariables false
set_option maxRecDepth 100000
noncomputable section
namespace Go.Proofs.YtaneejpkncdodaaGreat
open Go Go.RowKit Dp
namespace Rx
def Ds(a0:List Part)(a1:Int)(a2:List Part):Option (List Part):=AJ a0 a1 a2
def VV:au D:=⟨188,[.lf (.sl 11),.lf (.int .i64),.lf (.sl 11)],[.lf (.sl 11)],[.one (.own 1000),.one (.h 1 []),.one (.own 1001)],[(1000,.sl 11 112 0 []),(1001,.sl 11 112 2 [])],[.one (.own 1002)],[(1002,.sl 11 112 0 [])],fun h=>Ds h.1 h.2.1 h.2.2⟩
theorem ajG:CK VV:=by
 refine⟨Tryz.call188,rfl,rfl,rfl,rfl,fun h0 r0 jU dC dm has kB γ w vs hv hO=> ?_⟩
 cases has
 cases kB
 match vs,hv with
 |[],hv=>exact hv.elim
 |[_],hv=>exact hv.2.elim
 |[_,_],hv=>exact hv.2.2.elim
 |_::_::_::_::_,hv=>exact hv.2.2.2.elim
 |[v1,v2,v3],hv=>
 obtain⟨xs,dx⟩:∃xs:List (D 11),xs=h0.1:=⟨_,rfl⟩
 obtain⟨iz,uF⟩:∃iz:Int,iz=h0.2.1:=⟨_,rfl⟩
 obtain⟨ys,pz⟩:∃ys:List (D 11),ys=h0.2.2:=⟨_,rfl⟩
 obtain⟨r,gV⟩:∃r:List (D 11),r=r0:=⟨_,rfl⟩
 have hr:AJ xs iz ys=some r:=by rw[dx,uF,pz,gV];exact jU
 have g1:Ow 112 γ.o 1000 [0] w v1 xs:=by rw[dx,hv.1.2.1];exact(hO.ob 1000 _ rfl).2.2.1
 have g3:Ow 112 γ.o 1001 [0] w v3 ys:=by rw[pz,hv.2.2.1.2.1];exact(hO.ob 1001 _ rfl).2.2.1
 have g2:v2= .int .i64 iz:=by rw[uF];exact hv.2.1.1
 subst gV
 clear jU hv hO dx uF pz
 haveI:Flat (D 11):=Mo
 have hT:=qt.2
 have hu:=qt.1
 obtain⟨b1,b2,b3,b4,b5,rfl⟩:=adA hr
 obtain⟨q,rfl⟩:∃q:Nat,iz=(q:Int):=⟨iz.toNat,by omega⟩
 have hq:q≤xs.length:=by omega
 have hm:0<ys.length:=List.length_pos_iff.2 b3
 obtain⟨p,cap,rfl,uy,uO⟩:=Ow.shape g1
 obtain⟨bv,ve,rfl⟩:=Ow.PJ g3 b3
 subst g2
 have amg:cap≤maxLen:=uO
 have LW:W ((xs.length:Int)+(ys.length:Int))=((xs.length+ys.length:Nat):Int):=by rw[yM (by omega) (by omega)];omega
 have Bs:W ((q:Int)+(ys.length:Int))=((q+ys.length:Nat):Int):=by rw[yM (by omega) (by omega)];omega
 refine enter (l:=[.slice p xs.length cap,.int .i64 q,.slice (some ⟨bv,0,none⟩) ys.length ve]) Tryz.func188 rfl Tryz.ntmps188 rfl ?_
 refine CW.sub (L':=[(0,.slice p xs.length cap),(1,.int .i64 q),(2,.slice (some ⟨bv,0,none⟩) ys.length ve)]) ⟨rfl,rfl,rfl,trivial⟩ ?_
 refine CW.sr fun K0 L8=> ?_
 refine WL.p (.slice none 0 0) rfl rfl ?_
 refine WL.nx L8 ?_
 refine CW.sr fun K1 fv=> ?_
 refine WL.p (.slice p xs.length cap) rfl rfl ?_
 refine WL.p (.int .i64 q) rfl rfl ?_
 refine WL.IB (OW.ZI hu hT rfl rfl hq uy) rfl fun _ _=> ?_
 refine WL.nx fv ?_
 refine CW.sr fun K2 gy=> ?_
 refine WL.p (.slice (some ⟨bv,0,none⟩) ys.length ve) rfl rfl ?_
 refine WL.gP (OW.tZ hu rfl) rfl ?_
 refine WL.p (.int .i64 ys.length) rfl rfl ?_
 refine WL.nx gy ?_
 refine CW.seq fun K3 jy=> ?_
 refine CW.sr fun K4 kF=> ?_
 refine WL.p (.int .i64 ys.length) rfl rfl ?_
 refine WL.pe (v':= .bool false) rfl (congrArg Value.bool (beq_eq_false_iff_ne.2 (by omega))) rfl ?_
 refine WL.nx kF ?_
 refine CW.cond (b:=false) rfl (fun h=>nomatch h) (fun _=> ?_)
 refine CW.skip ?_
 refine jy _ _ ?_
 refine CW.sr fun K5 lp=> ?_
 refine WL.p (.slice p xs.length cap) rfl rfl ?_
 refine WL.gP (OW.tZ hu rfl) rfl ?_
 refine WL.p (.int .i64 xs.length) rfl rfl ?_
 refine WL.nx lp ?_
 refine CW.seq fun K6 L7=> ?_
 refine CW.sr fun K7 FN=> ?_
 refine WL.p (.int .i64 q) rfl rfl ?_
 refine WL.p (.int .i64 xs.length) rfl rfl ?_
 by_cases A2:q=xs.length
 · refine WL.pe (v':= .bool true) rfl (congrArg Value.bool (beq_iff_eq.2 (by omega))) rfl ?_
   refine WL.nx FN ?_
   refine CW.cond (b:=true) rfl (fun _=> ?_) (fun h=>nomatch h)
   refine CW.sr fun K8 L6=> ?_
   refine WL.p (.slice p xs.length cap) rfl rfl ?_
   refine WL.p (.slice (some ⟨bv,0,none⟩) ys.length ve) rfl rfl ?_
   refine WL.step (OW.append (K:=[0]) hu hT rfl rfl g1 g3.bV b4 rfl) rfl ?_
   rintro v' w' ⟨o',ev,gi⟩
   refine WL.p v' rfl rfl ?_
   refine WL.nx L6 ?_
   have oy:xs.take (q:Int).toNat++ys++xs.drop (q:Int).toNat=xs++ys:=by
    rw[Int.toNat_natCast,A2,List.take_length,List.drop_length,List.append_nil]
   rw[←oy] at gi
   exact CW.jM (vs:=[v']) Tryz.results188 ⟨rfl,trivial⟩ ⟨_,rfl,BG (n:=11) (e:=112) (q:=1002) (k:=1000) (K:=[]) (M:=[1000]) (N:=[1000]) rfl rfl rfl (by omega) (by omega) (by simp) (by simp) ev gi (fun x hx=>by simp at hx)⟩ (fun _ _ h=>h)
 refine WL.pe (v':= .bool false) rfl (congrArg Value.bool (beq_eq_false_iff_ne.2 (by omega))) rfl ?_
 refine WL.nx FN ?_
 refine CW.cond (b:=false) rfl (fun h=>nomatch h) (fun _=> ?_)
 refine CW.skip ?_
 refine L7 _ _ ?_
 obtain⟨b,rfl⟩:=Ow.block g1 (fun h=>by rw[h] at hq A2;simp at hq A2;omega)
 obtain⟨c1,c2,S,r1,r2,r3,r4,r5,r6,r7,_,_,_⟩:=Ow.split g1 hq
 obtain⟨z1,cv,Sv,s1,s2,s3,s4,s5,s6,s7,_,_,_⟩:=Ow.split g3 (Nat.zero_le _)
 have ug:z1.flatten=[]:=List.eq_nil_of_length_eq_zero (by rw[s4];omega)
 rw[ug] at s1
 rw[List.drop_zero] at s3
 have LP:bv≠b:=fun h=>by rw[h,r7] at s7;cases s7
 have ss:b<w.heap.size:=(Array.getElem?_eq_some_iff.1 r1).1
 have afY:bv<w.heap.size:=(Array.getElem?_eq_some_iff.1 s1).1
 have dy:0<ad.sz (D 11):=ad.pos
 have Tl:cv.flatten.length=min ys.length (xs.length+ys.length-q)*ad.sz (D 11):=by rw[s5,Nat.min_eq_left (by omega)];rfl
 have xx:((q:Int)).toNat=q:=Int.toNat_natCast q
 have iy:bz (ad.rd (In γ.o [0]) w) (c1++cv++c2) (xs.take (q:Int).toNat++ys++xs.drop (q:Int).toNat):=by rw[xx];exact(r2.append s3).append r3
 have hlen:(xs.take (q:Int).toNat++ys++xs.drop (q:Int).toNat).length=xs.length+ys.length:=by rw[xx];simp;omega
 refine CW.seq fun K9 L5=> ?_
 refine CW.sr fun K10 TE=> ?_
 refine WL.p (.int .i64 xs.length) rfl rfl ?_
 refine WL.p (.int .i64 ys.length) rfl rfl ?_
 refine WL.pe (v':= .int .i64 ((xs.length+ys.length:Nat):Int)) rfl (congrArg _ LW) rfl ?_
 refine WL.p (.slice (some ⟨b,0,none⟩) xs.length cap) rfl rfl ?_
 refine WL.gP (OW.cap hu rfl uO) rfl ?_
 by_cases hg:cap<xs.length+ys.length
 · refine WL.pe (v':= .bool true) rfl (congrArg Value.bool (decide_eq_true (by omega))) rfl ?_
   refine WL.nx TE ?_
   refine CW.cond (b:=true) rfl (fun _=> ?_) (fun h=>nomatch h)
   refine CW.sr fun K11 agC=> ?_
   refine WL.p (.slice (some ⟨b,0,none⟩) xs.length cap) rfl rfl ?_
   refine WL.p (.int .i64 q) rfl rfl ?_
   refine WL.gP (OW.pre hu hT rfl rfl (by omega)) rfl ?_
   refine WL.p (.int .i64 xs.length) rfl rfl ?_
   refine WL.p (.int .i64 ys.length) rfl rfl ?_
   refine WL.pe (v':= .int .i64 ((xs.length+ys.length:Nat):Int)) rfl (congrArg _ LW) rfl ?_
   refine WL.p (.int .i64 q) rfl rfl ?_
   refine WL.pe (v':= .int .i64 ((xs.length+ys.length-q:Nat):Int)) rfl (congrArg _ (by rw[yM (by omega) (by omega)];omega)) rfl ?_
   refine WL.step (OW.alj (A:=c1.flatten) (B:=c2.flatten++S) hu hT Tryz.underlying3 rfl rfl (by rw[←List.append_assoc];exact r1) r4 (by omega) (by omega) (by omega)) rfl ?_
   rintro v' w' ⟨G,Z,rfl,FP,hG2,hZ,rfl⟩
   rw[show q+(xs.length+ys.length-q)=xs.length+ys.length by omega] at FP⊢
   obtain⟨Y,X,S2,rfl,hY,hX,Bt⟩:=MQ Z (ys.length*ad.sz (D 11)) ((xs.length-q)*ad.sz (D 11)) (by rw[hZ,←Nat.add_mul];exact Nat.mul_le_mul_right _ (by omega))
   refine WL.p (.slice (some ⟨w.heap.size,0,none⟩) (xs.length+ys.length) G) rfl rfl ?_
   refine WL.nx agC ?_
   obtain⟨w1,uj⟩:∃w1,w1=w.drew.alloc (.cells (c1.flatten++(Y++X++S2)).toArray 112):=⟨_,rfl⟩
   rw[←uj]
   have TB:w1.heap[w.heap.size]? =some (.cells (c1.flatten++Y++(X++S2)).toArray 112 (0,0)):=by rw[uj,show c1.flatten++Y++(X++S2)=c1.flatten++(Y++X++S2) by simp only[List.append_assoc]];exact heap_alloc_new w.drew _
   have LZ:∀x,x<w.heap.size→w1.heap[x]? =w.heap[x]? :=fun x hx=>by rw[uj];exact Below.heap_alloc w.drew _ x hx
   have iT:ba [] [1000] γ.o w (grow γ.o w 1000) w1:=by rw[uj];exact ba.fresh 1000 ((Below.refl _ _).drew.alloc (Nat.le_refl _) _)
   refine CW.sr fun K12 agB=> ?_
   refine WL.p (.slice (some ⟨w.heap.size,0,none⟩) (xs.length+ys.length) G) rfl rfl ?_
   refine WL.p (.int .i64 q) rfl rfl ?_
   refine WL.gP (OW.tl hu hT rfl rfl (by omega) FP (by omega)) rfl ?_
   refine WL.p (.slice (some ⟨bv,0,none⟩) ys.length ve) rfl rfl ?_
   refine WL.step (OW.Gu (A:=c1.flatten) (X:=Y) (B:=X++S2) (src:=cv.flatten) hu hT rfl rfl TB r4 (by rw[hY,s5];rfl) Tl (wE (A:=[]) (B:=Sv) (by rw[LZ _ afY];exact s1) rfl) (tQ s3)) rfl ?_
   rintro v2 w2 eX
   have sx:w2.heap[w.heap.size]? =some (.cells (c1.flatten++cv.flatten++X++S2).toArray 112 (0,0)):=by rw[eX,List.append_assoc _ X S2];exact setRow_heap _ _ _ _ _ _ TB
   have hO2:∀x,x<w.heap.size→w2.heap[x]? =w.heap[x]? :=fun x hx=>by rw[eX,setRow_other _ _ _ _ (by omega)];exact LZ x hx
   have di:ba [1000] [1000] γ.o w (grow γ.o w 1000) w2:=by rw[eX];exact(iT.weaken (by simp) (by simp)).trans (xQ _ (nD _ _ _ _ (Nat.le_refl _)))
   clear eX uj LZ iT
   refine WL.nx agB ?_
   refine CW.seq fun K13 agA=> ?_
   refine CW.draw fg 8 [46,47,48,49,50,51,52,53] [.slice (some ⟨w.heap.size,0,none⟩) (xs.length+ys.length) G,.int .i64 q,.int .i64 ys.length,.int .i64 ((q+ys.length:Nat):Int),.slice (some ⟨w.heap.size,(q+ys.length)*ad.sz (D 11),none⟩) (xs.length+ys.length-(q+ys.length)) (G-(q+ys.length)),.slice (some ⟨b,0,none⟩) xs.length cap,.int .i64 q,.slice (some ⟨b,q*ad.sz (D 11),none⟩) (xs.length-q) (cap-q)] rfl rfl ⟨OW.pv rfl,OW.pv rfl,OW.pv rfl,OW.Qr rfl (congrArg _ Bs),OW.tl hu hT rfl rfl (by omega) FP (by omega),OW.pv rfl,OW.pv rfl,OW.tl hu hT rfl rfl hq uy (by omega),trivial⟩ ?_
   refine WL.step (OW.Gu (A:=c1.flatten++cv.flatten) (X:=X) (B:=S2) (src:=c2.flatten) hu hT rfl rfl sx (by rw[List.length_append,r4,s5,←Nat.add_mul];rfl) (by rw[hX,r5]) (by rw[r5];congr 1;rw[Nat.min_eq_left]<;>omega) (wE (A:=c1.flatten) (B:=S) (by rw[show w2.drew.heap=w2.heap from rfl,hO2 _ ss];exact r1) r4) (tQ r3)) rfl ?_
   rintro v3 w3 rW
   have Bu:w3.heap[w.heap.size]? =some (.cells ((c1++cv++c2).flatten++S2).toArray 112 (0,0)):=by rw[rW,List.flatten_append,List.flatten_append];exact setRow_heap w2.drew _ _ _ _ _ sx
   have BF:ba [1000] [1000] γ.o w (grow γ.o w 1000) w3:=by rw[rW];exact di.trans (My (xQ _ (nD _ _ _ _ (Nat.le_refl _))))
   refine WL.nx agA ?_
   refine CW.sr fun K14 agz=> ?_
   refine WL.p (.slice (some ⟨w.heap.size,0,none⟩) (xs.length+ys.length) G) rfl rfl ?_
   refine WL.p (.slice (some ⟨w.heap.size,0,none⟩) (xs.length+ys.length) G) rfl rfl ?_
   refine WL.nx agz ?_
   have gi:Ow 112 (grow γ.o w 1000) 1000 [] w3 (.slice (some ⟨w.heap.size,0,none⟩) (xs.take (q:Int).toNat++ys++xs.drop (q:Int).toNat).length G) (xs.take (q:Int).toNat++ys++xs.drop (q:Int).toNat):=
    Ow.JC Bu (nD _ _ _ _ (Nat.le_refl _)) iy (by rw[hlen];exact FP) hG2 (by rw[Bt,hlen,←Nat.add_mul,show(Y++X++S2).length=(G-q)*ad.sz (D 11) from hZ,←Nat.sub_mul];congr 1;omega)
   rw[hlen] at gi
   exact CW.jM (vs:=[.slice (some ⟨w.heap.size,0,none⟩) (xs.length+ys.length) G]) Tryz.results188 ⟨rfl,trivial⟩ ⟨_,rfl,BG (n:=11) (e:=112) (q:=1002) (k:=1000) (K:=[]) (M:=[1000]) (N:=[1000]) rfl rfl rfl (by omega) (by omega) (by simp) (by simp) BF gi (fun x hx=>by simp at hx)⟩ (fun _ _ h=>h)
 refine WL.pe (v':= .bool false) rfl (congrArg Value.bool (decide_eq_false (by omega))) rfl ?_
 refine WL.nx TE ?_
 refine CW.cond (b:=false) rfl (fun h=>nomatch h) (fun _=> ?_)
 refine CW.skip ?_
 refine L5 _ _ ?_
 obtain⟨Y,X,S2,hS,hY,hX,Bt⟩:=MQ (c2.flatten++S) (ys.length*ad.sz (D 11)) ((xs.length-q)*ad.sz (D 11)) (by rw[List.length_append,r5,r6,←Nat.add_mul,←Nat.add_mul];exact Nat.mul_le_mul_right _ (by omega))
 have ul:c1.flatten++c2.flatten++S=c1.flatten++Y++X++S2:=by rw[List.append_assoc,hS];simp only[List.append_assoc]
 refine CW.sr fun K15 agy=> ?_
 refine WL.p (.slice (some ⟨b,0,none⟩) xs.length cap) rfl rfl ?_
 refine WL.p (.int .i64 xs.length) rfl rfl ?_
 refine WL.p (.int .i64 ys.length) rfl rfl ?_
 refine WL.pe (v':= .int .i64 ((xs.length+ys.length:Nat):Int)) rfl (congrArg _ LW) rfl ?_
 refine WL.gP (OW.pre hu hT rfl rfl (by omega)) rfl ?_
 refine WL.p (.slice (some ⟨b,0,none⟩) (xs.length+ys.length) cap) rfl rfl ?_
 refine WL.nx agy ?_
 refine CW.seq fun K16 amn=> ?_
 refine CW.sr fun K17 agx=> ?_
 refine WL.p (.slice (some ⟨bv,0,none⟩) ys.length ve) rfl rfl ?_
 refine WL.p (.slice (some ⟨b,0,none⟩) (xs.length+ys.length) cap) rfl rfl ?_
 refine WL.p (.int .i64 q) rfl rfl ?_
 refine WL.p (.int .i64 ys.length) rfl rfl ?_
 refine WL.pe (v':= .int .i64 ((q+ys.length:Nat):Int)) rfl (congrArg _ Bs) rfl ?_
 refine WL.gP (OW.tl hu hT rfl rfl (by omega) (by omega) (by omega)) rfl ?_
 refine WL.gP (OW.overlaps (f:=200) (fn:=Tryz.f200) (tR:=4) hu hT Tryz.func200 rfl rfl rfl rfl rfl rfl LP s1 r1 (by simp only[List.size_toArray,List.length_append,r4,r5,r6,←Nat.add_mul];exact Nat.ne_of_gt (Nat.mul_pos (by omega) dy))) rfl ?_
 refine WL.p (.bool true) rfl rfl ?_
 refine WL.nx agx ?_
 refine CW.cond (b:=true) rfl (fun _=> ?_) (fun h=>nomatch h)
 rw[ul] at r1
 refine CW.seq fun K18 agw=> ?_
 refine CW.draw fg 8 [69,70,71,72,73,74,75,76] [.slice (some ⟨b,0,none⟩) (xs.length+ys.length) cap,.int .i64 q,.int .i64 ys.length,.int .i64 ((q+ys.length:Nat):Int),.slice (some ⟨b,(q+ys.length)*ad.sz (D 11),none⟩) (xs.length+ys.length-(q+ys.length)) (cap-(q+ys.length)),.slice (some ⟨b,0,none⟩) (xs.length+ys.length) cap,.int .i64 q,.slice (some ⟨b,q*ad.sz (D 11),none⟩) (xs.length+ys.length-q) (cap-q)] rfl rfl ⟨OW.pv rfl,OW.pv rfl,OW.pv rfl,OW.Qr rfl (congrArg _ Bs),OW.tl hu hT rfl rfl (by omega) (by omega) (by omega),OW.pv rfl,OW.pv rfl,OW.tl hu hT rfl rfl (by omega) (by omega) (by omega),trivial⟩ ?_
 refine WL.step (OW.Gu (A:=c1.flatten++Y) (X:=X) (B:=S2) (src:=c2.flatten) hu hT rfl rfl r1 (by rw[List.length_append,r4,hY,←Nat.add_mul]) (by rw[hX,r5]) (by rw[r5];congr 1;rw[Nat.min_eq_right]<;>omega) (wE (A:=c1.flatten) (B:=S) (by rw[←ul] at r1;exact r1) r4) (tQ r3)) rfl ?_
 rintro v2 w2 eX
 have sx:w2.heap[b]? =some (.cells (c1.flatten++Y++(c2.flatten++S2)).toArray 112 (0,0)):=by rw[eX,←List.append_assoc];exact setRow_heap w.drew _ _ _ _ _ r1
 have hV2:w2.heap[bv]? =w.heap[bv]? :=by rw[eX];exact setRow_other w.drew _ _ _ LP
 have di:ba [1000] [1000] γ.o w γ.o w2:=by rw[eX];exact My (xQ _ r7)
 clear eX
 refine WL.nx agw ?_
 refine CW.sr fun K19 agv=> ?_
 refine WL.p (.slice (some ⟨b,0,none⟩) (xs.length+ys.length) cap) rfl rfl ?_
 refine WL.p (.int .i64 q) rfl rfl ?_
 refine WL.gP (OW.tl hu hT rfl rfl (by omega) (by omega) (by omega)) rfl ?_
 refine WL.p (.slice (some ⟨bv,0,none⟩) ys.length ve) rfl rfl ?_
 refine WL.step (OW.Gu (A:=c1.flatten) (X:=Y) (B:=c2.flatten++S2) (src:=cv.flatten) hu hT rfl rfl sx r4 (by rw[hY,s5];rfl) Tl (wE (A:=[]) (B:=Sv) (by rw[hV2];exact s1) rfl) (tQ s3)) rfl ?_
 rintro v3 w3 rW
 have Bu:w3.heap[b]? =some (.cells ((c1++cv++c2).flatten++S2).toArray 112 (0,0)):=by rw[rW,List.flatten_append,List.flatten_append,List.append_assoc _ c2.flatten S2];exact setRow_heap _ _ _ _ _ _ sx
 have BF:ba [1000] [1000] γ.o w γ.o w3:=by rw[rW];exact di.trans (xQ _ r7)
 refine WL.nx agv ?_
 refine CW.sr fun K20 agu=> ?_
 refine WL.p (.slice (some ⟨b,0,none⟩) (xs.length+ys.length) cap) rfl rfl ?_
 refine WL.p (.slice (some ⟨b,0,none⟩) (xs.length+ys.length) cap) rfl rfl ?_
 refine WL.nx agu ?_
 have gi:Ow 112 γ.o 1000 [] w3 (.slice (some ⟨b,0,none⟩) (xs.take (q:Int).toNat++ys++xs.drop (q:Int).toNat).length cap) (xs.take (q:Int).toNat++ys++xs.drop (q:Int).toNat):=
  Ow.JC Bu r7 iy (by rw[hlen];omega) uO (by rw[Bt,hlen,List.length_append,r5,r6,←Nat.add_mul,←Nat.add_mul,←Nat.sub_mul];congr 1;omega)
 rw[hlen] at gi
 exact CW.jM (vs:=[.slice (some ⟨b,0,none⟩) (xs.length+ys.length) cap]) Tryz.results188 ⟨rfl,trivial⟩ ⟨_,rfl,BG (n:=11) (e:=112) (q:=1002) (k:=1000) (K:=[]) (M:=[1000]) (N:=[1000]) rfl rfl rfl (by omega) (by omega) (by simp) (by simp) BF gi (fun x hx=>by simp at hx)⟩ (fun _ _ h=>h)
def Dy(a0:List Part)(a1:Int)(a2:Int):Option (List Part):=BT a0 a1 a2
def VU:au D:=⟨189,CL,[.lf (.sl 11)],[.one (.own 1000),.one (.h 1 []),.one (.h 2 [])],[(1000,.sl 11 112 0 [])],[.one (.own 1001)],[(1001,.sl 11 112 0 [])],fun h=>Dy h.1 h.2.1 h.2.2⟩
theorem ajF:CK VU:=by
 refine⟨Tryz.call189,rfl,rfl,rfl,rfl,fun h0 r0 jU dC dm has kB γ w vs hv hO=> ?_⟩
 cases has
 cases kB
 match vs,hv with
 |[],hv=>exact hv.elim
 |[_],hv=>exact hv.2.elim
 |[_,_],hv=>exact hv.2.2.elim
 |_::_::_::_::_,hv=>exact hv.2.2.2.elim
 |[v1,v2,v3],hv=>
 obtain⟨xs,dx⟩:∃xs:List (D 11),xs=h0.1:=⟨_,rfl⟩
 obtain⟨iz,uF⟩:∃iz:Int,iz=h0.2.1:=⟨_,rfl⟩
 obtain⟨jz,Lj⟩:∃jz:Int,jz=h0.2.2:=⟨_,rfl⟩
 obtain⟨r,gV⟩:∃r:List (D 11),r=r0:=⟨_,rfl⟩
 have hr:BT xs iz jz=some r:=by rw[dx,uF,Lj,gV];exact jU
 have g1:Ow 112 γ.o 1000 [0] w v1 xs:=by rw[dx,hv.1.2.1];exact(hO.ob 1000 _ rfl).2.2.1
 have g2:v2= .int .i64 iz:=by rw[uF];exact hv.2.1.1
 have g3:v3= .int .i64 jz:=by rw[Lj];exact hv.2.2.1.1
 subst gV
 clear jU hv hO dx uF Lj
 haveI:Flat (D 11):=Mo
 have hT:=qt.2
 have hu:=qt.1
 obtain⟨b1,b2,b3,rfl⟩:=ah2 hr
 obtain⟨q,rfl⟩:∃q:Nat,iz=(q:Int):=⟨iz.toNat,by omega⟩
 obtain⟨s,rfl⟩:∃s:Nat,jz=(s:Int):=⟨jz.toNat,by omega⟩
 have hqs:q≤s:=by omega
 have hs:s≤xs.length:=by omega
 obtain⟨p,cap,rfl,uy,uO⟩:=Ow.shape g1
 subst g2 g3
 have xx:((q:Int)).toNat=q:=Int.toNat_natCast q
 have bN:((s:Int)).toNat=s:=Int.toNat_natCast s
 refine enter (l:=[.slice p xs.length cap,.int .i64 q,.int .i64 s]) Tryz.func189 rfl Tryz.ntmps189 rfl ?_
 refine CW.sub (L':=[(0,.slice p xs.length cap),(1,.int .i64 q),(2,.int .i64 s)]) ⟨rfl,rfl,rfl,trivial⟩ ?_
 refine CW.sr fun K0 L8=> ?_
 refine WL.p (.slice none 0 0) rfl rfl ?_
 refine WL.nx L8 ?_
 refine CW.sr fun K1 fv=> ?_
 refine WL.p (.slice p xs.length cap) rfl rfl ?_
 refine WL.p (.int .i64 q) rfl rfl ?_
 refine WL.p (.int .i64 s) rfl rfl ?_
 refine WL.p (.slice p xs.length cap) rfl rfl ?_
 refine WL.gP (OW.tZ hu rfl) rfl ?_
 refine WL.IB (OW.slice3 hu hT rfl rfl rfl rfl (by omega) (by omega) (by omega) (by omega)) rfl fun _ _=> ?_
 refine WL.nx fv ?_
 refine CW.seq fun K2 gy=> ?_
 refine CW.sr fun K3 jy=> ?_
 refine WL.p (.int .i64 q) rfl rfl ?_
 refine WL.p (.int .i64 s) rfl rfl ?_
 by_cases A2:q=s
 · refine WL.pe (v':= .bool true) rfl (congrArg Value.bool (beq_iff_eq.2 (by omega))) rfl ?_
   refine WL.nx jy ?_
   refine CW.cond (b:=true) rfl (fun _=> ?_) (fun h=>nomatch h)
   refine CW.sr fun K8 L6=> ?_
   refine WL.p (.slice p xs.length cap) rfl rfl ?_
   refine WL.p (.slice p xs.length cap) rfl rfl ?_
   refine WL.nx L6 ?_
   have oy:xs.take (q:Int).toNat++xs.drop (s:Int).toNat=xs:=by rw[xx,bN,A2,List.take_append_drop]
   have gi:=g1
   conv at gi=>rhs;rw[←oy]
   exact CW.jM (vs:=[.slice p xs.length cap]) Tryz.results189 ⟨rfl,trivial⟩ ⟨_,rfl,BG (n:=11) (e:=112) (q:=1001) (k:=1000) (K:=[]) (M:=[]) (N:=[]) rfl rfl rfl (by omega) (by omega) (by simp) (by simp) (ba.refl _ _ γ.o w) gi (fun x hx=>by simp at hx)⟩ (fun _ _ h=>h)
 refine WL.pe (v':= .bool false) rfl (congrArg Value.bool (beq_eq_false_iff_ne.2 (by omega))) rfl ?_
 refine WL.nx jy ?_
 refine CW.cond (b:=false) rfl (fun h=>nomatch h) (fun _=> ?_)
 refine CW.skip ?_
 refine gy _ _ ?_
 obtain⟨b,rfl⟩:=Ow.block g1 (fun h=>by rw[h] at hs;simp at hs;omega)
 obtain⟨c1,c2,S,r1,r2,r3,r4,r5,r6,r7,_,_,_⟩:=Ow.split g1 (Nat.le_trans hqs hs)
 have r8:bz (ad.rd (In γ.o [0]) w) (c2.drop (s-q)) (xs.drop s):=by
  have:=r3.drop (s-q)
  rwa[List.drop_drop,show q+(s-q)=s by omega] at this
 have gw:c2.flatten=(c2.take (s-q)).flatten++(c2.drop (s-q)).flatten:=by rw[←List.flatten_append,List.take_append_drop]
 have r9:(c2.drop (s-q)).flatten.length=(xs.length-s)*ad.sz (D 11):=by rw[ma r8,List.length_drop]
 have r10:(c2.take (s-q)).flatten.length=(s-q)*ad.sz (D 11):=by
  have h1:(c2.take (s-q)).flatten.length+(c2.drop (s-q)).flatten.length=(xs.length-q)*ad.sz (D 11):=by rw[←List.length_append,←gw,r5]
  have h2:(xs.length-q)*ad.sz (D 11)=(s-q)*ad.sz (D 11)+(xs.length-s)*ad.sz (D 11):=by rw[←Nat.add_mul];congr 1;omega
  omega
 obtain⟨X,Y,S2,hS,hX,hY,Bt⟩:=MQ (c2.flatten++S) ((xs.length-s)*ad.sz (D 11)) ((s-q)*ad.sz (D 11)) (by rw[List.length_append,r5,r6,←Nat.add_mul,←Nat.add_mul];exact Nat.mul_le_mul_right _ (by omega))
 have ul:c1.flatten++c2.flatten++S=c1.flatten++X++(Y++S2):=by rw[List.append_assoc,hS];simp only[List.append_assoc]
 have aet:c1.flatten++c2.flatten++S=(c1.flatten++(c2.take (s-q)).flatten)++(c2.drop (s-q)).flatten++S:=by rw[gw];simp only[List.append_assoc]
 have iy:bz (ad.rd (In γ.o [0]) w) (c1++c2.drop (s-q)) (xs.take (q:Int).toNat++xs.drop (s:Int).toNat):=by rw[xx,bN];exact r2.append r8
 have hlen:(xs.take (q:Int).toNat++xs.drop (s:Int).toNat).length=q+(xs.length-s):=by rw[xx,bN];simp;omega
 refine CW.sr fun K5 lp=> ?_
 refine WL.p (.slice (some ⟨b,0,none⟩) xs.length cap) rfl rfl ?_
 refine WL.gP (OW.tZ hu rfl) rfl ?_
 refine WL.p (.int .i64 xs.length) rfl rfl ?_
 refine WL.nx lp ?_
 refine CW.seq fun K6 L7=> ?_
 refine CW.draw fg 6 [20,21,22,23,24,25] [.slice (some ⟨b,0,none⟩) xs.length cap,.int .i64 q,.slice (some ⟨b,0,none⟩) q cap,.slice (some ⟨b,0,none⟩) xs.length cap,.int .i64 s,.slice (C7 b s cap (ad.sz (D 11))) (xs.length-s) (cap-s)] rfl rfl ⟨OW.pv rfl,OW.pv rfl,OW.pre hu hT rfl rfl (by omega),OW.pv rfl,OW.pv rfl,OW.ZJ hu hT rfl rfl hs uy,trivial⟩ ?_
 refine WL.step (OW.alk (A:=c1.flatten) (X:=X) (B:=Y++S2) (src:=(c2.drop (s-q)).flatten) hu hT rfl rfl (by rw[←ul];exact r1) r4 (by rw[hX,r9]) r9 (fun hm=>⟨⟨b,s*ad.sz (D 11),none⟩,by unfold C7;rw[if_neg (by omega)],wE (A:=c1.flatten++(c2.take (s-q)).flatten) (B:=S) (by rw[←aet];exact r1) (by rw[List.length_append,r4,r10,←Nat.add_mul];congr 1;omega)⟩) (tQ r8) (by omega)) rfl ?_
 rintro v' w2 ⟨rfl,eX⟩
 have sx:w2.heap[b]? =some (.cells (c1.flatten++(c2.drop (s-q)).flatten++Y++S2).toArray 112 (0,0)):=by rw[eX,List.append_assoc _ Y S2];exact setRow_heap w.drew _ _ _ _ _ r1
 have di:ba [1000] [1000] γ.o w γ.o w2:=by rw[eX];exact My (xQ _ r7)
 clear eX
 refine WL.p (.slice (some ⟨b,0,none⟩) (q+(xs.length-s)) cap) rfl rfl ?_
 refine WL.nx L7 ?_
 refine CW.sr fun K7 FN=> ?_
 refine WL.p (.slice (some ⟨b,0,none⟩) (q+(xs.length-s)) cap) rfl rfl ?_
 refine WL.p (.slice (some ⟨b,0,none⟩) (q+(xs.length-s)) cap) rfl rfl ?_
 refine WL.gP (OW.tZ hu rfl) rfl ?_
 refine WL.p (.int .i64 xs.length) rfl rfl ?_
 refine WL.gP (OW.mid (l:=q+(xs.length-s)) (h:=xs.length) hu hT rfl rfl rfl (by omega) uy) rfl ?_
 obtain⟨k,hk⟩:∃k,xs.length-(q+(xs.length-s))=k+1:=⟨xs.length-(q+(xs.length-s))-1,by omega⟩
 rw[hk]
 refine WL.aah (OW.aip (A:=c1.flatten++(c2.drop (s-q)).flatten) (X:=Y) (B:=S2) hu hT rfl sx (by rw[List.length_append,r4,r9,←Nat.add_mul]) (by rw[hY,←hk];congr 1;omega)) ?_
 rintro v3 w3 ⟨Z,hZ,rW⟩
 have Bu:w3.heap[b]? =some (.cells ((c1++c2.drop (s-q)).flatten++(Z++S2)).toArray 112 (0,0)):=by rw[rW,List.flatten_append,←List.append_assoc _ Z S2];exact setRow_heap _ _ _ _ _ _ sx
 have BF:ba [1000] [1000] γ.o w γ.o w3:=by rw[rW];exact di.trans (xQ _ r7)
 refine WL.nx FN ?_
 refine CW.sr fun K9 L5=> ?_
 refine WL.p (.slice (some ⟨b,0,none⟩) (q+(xs.length-s)) cap) rfl rfl ?_
 refine WL.p (.slice (some ⟨b,0,none⟩) (q+(xs.length-s)) cap) rfl rfl ?_
 refine WL.nx L5 ?_
 have gi:Ow 112 γ.o 1000 [] w3 (.slice (some ⟨b,0,none⟩) (xs.take (q:Int).toNat++xs.drop (s:Int).toNat).length cap) (xs.take (q:Int).toNat++xs.drop (s:Int).toNat):=
  Ow.JC Bu r7 iy (by rw[hlen];omega) uO (by rw[hlen,List.length_append,hZ,hY,Bt,List.length_append,r5,r6,←Nat.add_mul,←Nat.add_mul,←Nat.sub_mul,←Nat.add_mul];congr 1;omega)
 rw[hlen] at gi
 exact CW.jM (vs:=[.slice (some ⟨b,0,none⟩) (q+(xs.length-s)) cap]) Tryz.results189 ⟨rfl,trivial⟩ ⟨_,rfl,BG (n:=11) (e:=112) (q:=1001) (k:=1000) (K:=[]) (M:=[1000]) (N:=[1000]) rfl rfl rfl (by omega) (by omega) (by simp) (by simp) BF gi (fun x hx=>by simp at hx)⟩ (fun _ _ h=>h)
def C2(a0:ka)(a1:Part)(a2:Bool):Option (Int×Int×List aI×List Source×List Consumer×Int×Int×Int×List Bool×List az×List Int×List Part):=(DH a0.aS.ax a1).bind fun x1=>if(x1.2==a2)=true then some (11,a0.aA.ai,a0.aA.ab,a0.aA.aa,a0.aA.ae,a0.aA.aG,a0.aA.aB,a0.time,a0.aS.al,a0.aS.aa,a0.aS.ar,a0.aS.ax) else(if a2=true then some (decide (len a0.aS.ax≥32)) else some false).bind fun x2=>if x2=true then some (2,a0.aA.ai,a0.aA.ab,a0.aA.aa,a0.aA.ae,a0.aA.aG,a0.aA.aB,a0.time,a0.aS.al,a0.aS.aa,a0.aS.ar,a0.aS.ax) else(if a2=true then(Ds a0.aS.ax x1.1 [a1]).bind fun x4=>some (a0.aA.ai,a0.aA.ab,a0.aA.aa,a0.aA.ae,a0.aA.aG,a0.aA.aB,a0.time,x4) else(Dy a0.aS.ax x1.1 (W (x1.1+1))).bind fun x3=>some (a0.aA.ai,a0.aA.ab,a0.aA.aa,a0.aA.ae,a0.aA.aG,a0.aA.aB,a0.time,x3)).bind fun x5=>(if(a1.Kind==1)=true then(idx a0.aS.aa a1.Number).bind fun x6=>(idx a0.aS.aa a1.Number).bind fun x7=>(cG a0.aS.aa a1.Number (az.mk 0 x7.eD x7.aB x7.aG)).bind fun x8=>(if a2=true then(idx x8 a1.Number).bind fun x9=>(idx x8 a1.Number).bind fun aN=>(cG x8 a1.Number (az.mk 3 aN.eD aN.aB aN.aG)).bind some else some x8).bind some else some a0.aS.aa).bind fun aM=>some (0,x5.1,x5.2.1,x5.2.2.1,x5.2.2.2.1,x5.2.2.2.2.1,x5.2.2.2.2.2.1,x5.2.2.2.2.2.2.1,a0.aS.al,aM,a0.aS.ar,x5.2.2.2.2.2.2.2)
def Wh:au D:=⟨160,[.lf (.int .i64),.lf (.sl 5),.lf (.sl 6),.lf (.sl 7),.lf (.int .i64),.lf (.int .i64),.lf (.sl 1),.lf (.sl 10),.lf (.sl 0),.lf (.sl 11),.lf (.int .i64),.lf (.int .i64),.lf (.int .i64),.lf .bool],z6,[.one (.ptr 1000 0),.agg [.h 11 [],.h 12 []],.one (.h 13 [])],vK,aW,[(1000,.box [.h 1 [],.h 2 [0],.h 3 [0],.h 4 [0],.h 5 [],.h 6 [],.own 1001,.own 1002,.own 1003,.own 1005,.h 7 []]),(1001,.sl 1 4 8 []),(1002,.sl 10 127 9 []),(1003,.sl 0 3 10 []),(1005,.sl 11 112 11 [])],fun h=>C2 ⟨⟨h.1,h.2.1,h.2.2.1,h.2.2.2.1,h.2.2.2.2.1,h.2.2.2.2.2.1⟩,⟨h.2.2.2.2.2.2.1,h.2.2.2.2.2.2.2.1,h.2.2.2.2.2.2.2.2.1,h.2.2.2.2.2.2.2.2.2.1⟩,h.2.2.2.2.2.2.2.2.2.2.1⟩ ⟨h.2.2.2.2.2.2.2.2.2.2.2.1,h.2.2.2.2.2.2.2.2.2.2.2.2.1⟩ h.2.2.2.2.2.2.2.2.2.2.2.2.2⟩
theorem aj1:CK Wh:=fo [VX,VV,VU] [.tmp 6] (.n none .o (.n none .o (.n none (.n none (.n none .o (.n none .o (.n none (.r (some (true,[(.normal,⟨[.lf .bool],[(36,.one (.h 0 []))],[],[],3216⟩)])) .nil) (.n none .o (.n none .o (.n (some (true,[(.normal,⟨[.lf (.int .i64),.lf (.sl 5),.lf (.sl 6),.lf (.sl 7),.lf (.int .i64),.lf (.int .i64),.lf (.int .i64),.lf (.sl 11)],[],[(1000,.box [.h 0 [],.h 1 [0],.h 2 [0],.h 3 [0],.h 4 [],.h 5 [],.own 1001,.own 1002,.own 1003,.own 3345,.h 6 []]),(3345,.sl 11 112 7 [])],[1000,1004],3409⟩)])) .o .o)))))) .o) (.n none (.n none .o (.n (some (true,[(.normal,⟨j9,[],[(1002,.sl 10 127 0 [])],[1002],3673⟩)])) (.n none .o (.n none .o (.n (some (true,[(.normal,⟨j9,[],[(1002,.sl 10 127 0 [])],[1002],4377⟩)])) .o .o))) .o)) .o)))) ⟨ajI,ajG,ajF,trivial⟩ Tryz.call160 Tryz.func160 rfl rfl
def C3(a0:ka)(a1:Act):Option (Int×Int×List aI×List Source×List Consumer×Int×Int×Int×List Bool×List az×List Int×List Part):=(if(a1.Kind==1)=true then(tE a0.aA a0.aS a1.Unit).bind fun cw=>some (cw.1,a0.aA.ai,a0.aA.ab,a0.aA.aa,a0.aA.ae,a0.aA.aG,a0.aA.aB,a0.time,cw.2.1,cw.2.2.1,cw.2.2.2.1,cw.2.2.2.2) else(if(a1.Kind==2)=true then(Db a0.aA a0.aS a1.Unit).bind fun aR=>some (aR.1,a0.aA.ai,a0.aA.ab,a0.aA.aa,a0.aA.ae,a0.aA.aG,a0.aA.aB,a0.time,aR.2.1,aR.2.2.1,aR.2.2.2.1,aR.2.2.2.2) else(if(a1.Kind==6)=true then(Dc a0.aA a0.aS a1.Unit a1.Value).bind fun aN=>some (aN.1,a0.aA.ai,a0.aA.ab,a0.aA.aa,a0.aA.ae,a0.aA.aG,a0.aA.aB,a0.time,aN.2.1,aN.2.2.1,aN.2.2.2.1,aN.2.2.2.2) else(if(a1.Kind==3)=true then(C0 a0 a1.Unit).bind fun x8=>some (x8.1,x8.2.1,x8.2.2.1,x8.2.2.2.1,x8.2.2.2.2.1,x8.2.2.2.2.2.1,x8.2.2.2.2.2.2.1,x8.2.2.2.2.2.2.2.1,x8.2.2.2.2.2.2.2.2.1,x8.2.2.2.2.2.2.2.2.2.1,x8.2.2.2.2.2.2.2.2.2.2.1,x8.2.2.2.2.2.2.2.2.2.2.2) else(if(a1.Kind==4)=true then(CZ a0 a1.Unit).bind fun x6=>some (x6.1,x6.2.1,x6.2.2.1,x6.2.2.2.1,x6.2.2.2.2.1,x6.2.2.2.2.2.1,x6.2.2.2.2.2.2.1,x6.2.2.2.2.2.2.2.1,x6.2.2.2.2.2.2.2.2.1,x6.2.2.2.2.2.2.2.2.2.1,x6.2.2.2.2.2.2.2.2.2.2.1,x6.2.2.2.2.2.2.2.2.2.2.2) else(if(a1.Kind==5)=true then(C1 a0 a1.Unit a1.Value).bind fun x4=>some (x4.1,x4.2.1,x4.2.2.1,x4.2.2.2.1,x4.2.2.2.2.1,x4.2.2.2.2.2.1,x4.2.2.2.2.2.2.1,x4.2.2.2.2.2.2.2.1,x4.2.2.2.2.2.2.2.2.1,x4.2.2.2.2.2.2.2.2.2.1,x4.2.2.2.2.2.2.2.2.2.2.1,x4.2.2.2.2.2.2.2.2.2.2.2) else(if(a1.Kind==7)=true then(CY a0).bind fun x2=>some (0,x2.1,x2.2.1,x2.2.2.1,x2.2.2.2.1,x2.2.2.2.2.1,x2.2.2.2.2.2.1,x2.2.2.2.2.2.2.1,x2.2.2.2.2.2.2.2.2.2.2.2.1,x2.2.2.2.2.2.2.2.2.2.2.2.2.1,x2.2.2.2.2.2.2.2.2.2.2.2.2.2.1,x2.2.2.2.2.2.2.2.2.2.2.2.2.2.2) else(C2 a0 (Part.mk a1.Value a1.Unit) (a1.Kind==8)).bind fun x1=>some (x1.1,x1.2.1,x1.2.2.1,x1.2.2.2.1,x1.2.2.2.2.1,x1.2.2.2.2.2.1,x1.2.2.2.2.2.2.1,x1.2.2.2.2.2.2.2.1,x1.2.2.2.2.2.2.2.2.1,x1.2.2.2.2.2.2.2.2.2.1,x1.2.2.2.2.2.2.2.2.2.2.1,x1.2.2.2.2.2.2.2.2.2.2.2)).bind fun x3=>some (x3.1,x3.2.1,x3.2.2.1,x3.2.2.2.1,x3.2.2.2.2.1,x3.2.2.2.2.2.1,x3.2.2.2.2.2.2.1,x3.2.2.2.2.2.2.2.1,x3.2.2.2.2.2.2.2.2.1,x3.2.2.2.2.2.2.2.2.2.1,x3.2.2.2.2.2.2.2.2.2.2.1,x3.2.2.2.2.2.2.2.2.2.2.2)).bind fun x5=>some (x5.1,x5.2.1,x5.2.2.1,x5.2.2.2.1,x5.2.2.2.2.1,x5.2.2.2.2.2.1,x5.2.2.2.2.2.2.1,x5.2.2.2.2.2.2.2.1,x5.2.2.2.2.2.2.2.2.1,x5.2.2.2.2.2.2.2.2.2.1,x5.2.2.2.2.2.2.2.2.2.2.1,x5.2.2.2.2.2.2.2.2.2.2.2)).bind fun x7=>some (x7.1,x7.2.1,x7.2.2.1,x7.2.2.2.1,x7.2.2.2.2.1,x7.2.2.2.2.2.1,x7.2.2.2.2.2.2.1,x7.2.2.2.2.2.2.2.1,x7.2.2.2.2.2.2.2.2.1,x7.2.2.2.2.2.2.2.2.2.1,x7.2.2.2.2.2.2.2.2.2.2.1,x7.2.2.2.2.2.2.2.2.2.2.2)).bind fun x9=>some (x9.1,x9.2.1,x9.2.2.1,x9.2.2.2.1,x9.2.2.2.2.1,x9.2.2.2.2.2.1,x9.2.2.2.2.2.2.1,x9.2.2.2.2.2.2.2.1,x9.2.2.2.2.2.2.2.2.1,x9.2.2.2.2.2.2.2.2.2.1,x9.2.2.2.2.2.2.2.2.2.2.1,x9.2.2.2.2.2.2.2.2.2.2.2)).bind fun aL=>some (aL.1,aL.2.1,aL.2.2.1,aL.2.2.2.1,aL.2.2.2.2.1,aL.2.2.2.2.2.1,aL.2.2.2.2.2.2.1,aL.2.2.2.2.2.2.2.1,aL.2.2.2.2.2.2.2.2.1,aL.2.2.2.2.2.2.2.2.2.1,aL.2.2.2.2.2.2.2.2.2.2.1,aL.2.2.2.2.2.2.2.2.2.2.2)).bind fun aM=>some (aM.1,aM.2.1,aM.2.2.1,aM.2.2.2.1,aM.2.2.2.2.1,aM.2.2.2.2.2.1,aM.2.2.2.2.2.2.1,aM.2.2.2.2.2.2.2.1,aM.2.2.2.2.2.2.2.2.1,aM.2.2.2.2.2.2.2.2.2.1,aM.2.2.2.2.2.2.2.2.2.2.1,aM.2.2.2.2.2.2.2.2.2.2.2)).bind fun bg=>some (bg.1,bg.2.1,bg.2.2.1,bg.2.2.2.1,bg.2.2.2.2.1,bg.2.2.2.2.2.1,bg.2.2.2.2.2.2.1,bg.2.2.2.2.2.2.2.1,bg.2.2.2.2.2.2.2.2.1,bg.2.2.2.2.2.2.2.2.2.1,bg.2.2.2.2.2.2.2.2.2.2.1,bg.2.2.2.2.2.2.2.2.2.2.2)
def W3:au D:=⟨113,Oz,z6,[.one (.ptr 1000 0),.agg [.h 11 [],.h 12 [],.h 13 []]],vK,aW,[(1000,.box [.h 1 [],.h 2 [0],.h 3 [0],.h 4 [0],.h 5 [],.h 6 [],.own 1005,.own 1006,.own 1007,.own 1008,.h 7 []]),(1005,.sl 1 4 8 []),(1006,.sl 10 127 9 []),(1007,.sl 0 3 10 []),(1008,.sl 11 112 11 [])],fun h=>C3 ⟨⟨h.1,h.2.1,h.2.2.1,h.2.2.2.1,h.2.2.2.2.1,h.2.2.2.2.2.1⟩,⟨h.2.2.2.2.2.2.1,h.2.2.2.2.2.2.2.1,h.2.2.2.2.2.2.2.2.1,h.2.2.2.2.2.2.2.2.2.1⟩,h.2.2.2.2.2.2.2.2.2.2.1⟩ ⟨h.2.2.2.2.2.2.2.2.2.2.2.1,h.2.2.2.2.2.2.2.2.2.2.2.2.1,h.2.2.2.2.2.2.2.2.2.2.2.2.2⟩⟩
theorem akG:CK W3:=fo [Wo,Wn,Wm,Wl,Wk,Wj,Wi,Wh] [.tmp 4] (.n none .o (.n none (.n none .o (.n none (.n none .o (.n (some (true,[(.normal,⟨z6,lF,[(1000,.box [.h 1 [],.h 2 [0],.h 3 [0],.h 4 [0],.h 5 [],.h 6 [],.own 2384,.own 2385,.own 2386,.own 2387,.h 7 []]),(2384,.sl 1 4 8 []),(2385,.sl 10 127 9 []),(2386,.sl 0 3 10 []),(2387,.sl 11 112 11 [])],[1000,1001,1002,1003,1004],2448⟩)])) .o (.n none .o (.n (some (true,[(.normal,⟨z6,lF,[(1000,.box [.h 1 [],.h 2 [0],.h 3 [0],.h 4 [0],.h 5 [],.h 6 [],.own 2512,.own 2513,.own 2514,.own 2515,.h 7 []]),(2512,.sl 1 4 8 []),(2513,.sl 10 127 9 []),(2514,.sl 0 3 10 []),(2515,.sl 11 112 11 [])],[1000,1001,1002,1003,1004],2576⟩)])) .o (.n none .o (.n (some (true,[(.normal,⟨z6,lF,[(1000,.box [.h 1 [],.h 2 [0],.h 3 [0],.h 4 [0],.h 5 [],.h 6 [],.own 2640,.own 2641,.own 2642,.own 2643,.h 7 []]),(2640,.sl 1 4 8 []),(2641,.sl 10 127 9 []),(2642,.sl 0 3 10 []),(2643,.sl 11 112 11 [])],[1000,1001,1002,1003,1004],2704⟩)])) .o (.n none .o (.n (some (true,[(.normal,⟨z6,lF,[(1000,.box [.h 1 [],.h 2 [0],.h 3 [0],.h 4 [0],.h 5 [],.h 6 [],.own 2768,.own 2769,.own 2770,.own 2771,.h 7 []]),(2768,.sl 1 4 8 []),(2769,.sl 10 127 9 []),(2770,.sl 0 3 10 []),(2771,.sl 11 112 11 [])],[1000,1001,1002,1003,1004],2832⟩)])) .o (.n none .o (.n (some (true,[(.normal,⟨z6,lF,[(1000,.box [.h 1 [],.h 2 [0],.h 3 [0],.h 4 [0],.h 5 [],.h 6 [],.own 2896,.own 2897,.own 2898,.own 2899,.h 7 []]),(2896,.sl 1 4 8 []),(2897,.sl 10 127 9 []),(2898,.sl 0 3 10 []),(2899,.sl 11 112 11 [])],[1000,1001,1002,1003,1004],2960⟩)])) .o (.n none .o (.n (some (true,[(.normal,⟨z6,lF,[(1000,.box [.h 1 [],.h 2 [0],.h 3 [0],.h 4 [0],.h 5 [],.h 6 [],.own 3024,.own 3025,.own 3026,.own 3027,.h 7 []]),(3024,.sl 1 4 8 []),(3025,.sl 10 127 9 []),(3026,.sl 0 3 10 []),(3027,.sl 11 112 11 [])],[1000,1001,1002,1003,1004],3088⟩)])) .o (.n none .o (.n (some (true,[(.normal,⟨z6,lF,[(1000,.box [.h 1 [],.h 2 [0],.h 3 [0],.h 4 [0],.h 5 [],.h 6 [],.own 3152,.own 3153,.own 3154,.own 3155,.h 7 []]),(3152,.sl 1 4 8 []),(3153,.sl 10 127 9 []),(3154,.sl 0 3 10 []),(3155,.sl 11 112 11 [])],[1000,1001,1002,1003,1004],3216⟩)])) .o .o)))))))))))))) .o)) .o)) ⟨aj8,aj7,aj6,aj5,aj4,aj3,aj2,aj1,trivial⟩ Tryz.call113 Tryz.func113 rfl rfl
def zV(a0:ak)(a1:ah)(a2:Int)(a3:Act):Option (Int×List Bool×List az×List Int×List Part):=(jY a0 a1).bind fun x1=>if(x1 !=0)=true then some (x1,[],[],[],[]) else(if decide (a2<0)=true then some true else if decide (a2>2147483648)=true then some true else if decide (a3.Kind<1)=true then some true else some (decide (a3.Kind>9))).bind fun x2=>if x2=true then some (1,[],[],[],[]) else(zT a0 a3).bind fun x3=>if(!x3)=true then some (10,[],[],[],[]) else(kQ a1).bind fun x4=>(C3 (ka.mk a0 (ah.mk x4.1 x4.2.1 x4.2.2.1 x4.2.2.2) a2) a3).bind fun x5=>if(x5.1 !=0)=true then some (x5.1,[],[],[],[]) else some (0,x5.2.2.2.2.2.2.2.2.1,x5.2.2.2.2.2.2.2.2.2.1,x5.2.2.2.2.2.2.2.2.2.2.1,x5.2.2.2.2.2.2.2.2.2.2.2)
def yo:au D:=⟨58,Oz,rh,[.agg [.h 0 [],.h 1 [0],.h 2 [0],.h 3 [0],.h 4 [],.h 5 []],.agg [.h 6 [0],.h 7 [0],.h 8 [0],.h 9 [0]],.one (.h 10 []),.agg [.h 11 [],.h 12 [],.h 13 []]],[],td,tp,fun h=>zV ⟨h.1,h.2.1,h.2.2.1,h.2.2.2.1,h.2.2.2.2.1,h.2.2.2.2.2.1⟩ ⟨h.2.2.2.2.2.2.1,h.2.2.2.2.2.2.2.1,h.2.2.2.2.2.2.2.2.1,h.2.2.2.2.2.2.2.2.2.1⟩ h.2.2.2.2.2.2.2.2.2.2.1 ⟨h.2.2.2.2.2.2.2.2.2.2.2.1,h.2.2.2.2.2.2.2.2.2.2.2.2.1,h.2.2.2.2.2.2.2.2.2.2.2.2.2⟩⟩
theorem Ng:CK yo:=fo [fJ,jk,W5,W3] [.cell 8 38,.tmp 9] (.n none .o (.n none (.n none .o (.n none (.n none .o (.n none .o (.n none (.r (some (true,[(.normal,⟨[.lf .bool],[(21,.one (.h 0 []))],[],[],2832⟩)])) .nil) .o))) .o)) .o)) ⟨jC,me,akH,akG,trivial⟩ Tryz.call58 Tryz.func58 rfl rfl
def wk(a0:Int)(a1:Int)(a2:dA):Option (Bool×dA):=(jl a2.aS a0 a1).bind fun x1=>some (x1,a2)
def V9:au D:=⟨172,[.lf (.int .i64),.lf (.int .i64),.el 20],[.lf .bool,.el 20],[.one (.h 0 []),.one (.h 1 []),.one (.ptr 1000 0)],[(1000,.box [.rp 2 20 [0]])],aW,[(1000,.box [.rp 1 20 [0]])],fun h=>wk h.1 h.2.1 h.2.2⟩
theorem ajS:CK V9:=fo [gE] [.tmp 5] .o ⟨nL,trivial⟩ Tryz.call172 Tryz.func172 rfl rfl
def Ee(a0:dA)(a1:aI):Option (Bool):=(wk 3 a1.A a0).bind fun x1=>if x1.1=true then some true else if(a1.Kind==1)=true then(wk 3 a1.B x1.2).bind fun x6=>some x6.1 else if(a1.Kind==2)=true then((wk 1 a1.B x1.2).bind fun x3=>if x3.1=true then some (true,x3.2) else(idx x3.2.aS.aa a1.B).bind fun x4=>some (x4.State !=2,x3.2)).bind fun x5=>some x5.1 else(wk 4 a1.B x1.2).bind fun x2=>some x2.1
def WG:au D:=⟨135,[.el 20,.lf (.int .i64),.lf (.int .i64),.lf (.int .i64)],[.lf .bool],[.one (.rp 0 20 [0]),.agg [.h 11 [],.h 12 [],.h 13 []]],[],aW,[],fun h=>Ee h.1 ⟨h.2.1,h.2.2.1,h.2.2.2⟩⟩
theorem akm:CK WG:=fo [V9] [.tmp 4] (.n none .o (.n none .o (.n none (.n none (.n none .o (.n none .o (.n none .o (.n none .o (.n none .o (.n none (.n none (.r (some (true,[(.normal,⟨[.lf .bool,.el 20],lF,[(2000,.box [.rp 1 20 [0]])],[2000],3216⟩)])) .nil) .o) .o)))))) .o) .o))) ⟨ajS,trivial⟩ Tryz.call135 Tryz.func135 rfl rfl
def zZ(a0:dA)(a1:Int):Option (Int×List aI×List Source×List Consumer×Int×Int×List Bool×List az×List Int×List Part×List Act):=(idx a0.aS.al a1).bind fun x1=>(idx a0.aS.al a1).bind fun x2=>(cG a0.aS.al a1 false).bind fun x3=>(bD a0.ml [Act.mk 2 a1 0]).bind fun x4=>some (a0.aA.ai,a0.aA.ab,a0.aA.aa,a0.aA.ae,a0.aA.aG,a0.aA.aB,x3,a0.aS.aa,a0.aS.ar,a0.aS.ax,x4)
def G7:au D:=⟨171,Oo,z5,[.one (.ptr 1000 0),.one (.h 11 [])],y_,[],Ig,fun h=>zZ ⟨⟨h.1,h.2.1,h.2.2.1,h.2.2.2.1,h.2.2.2.2.1,h.2.2.2.2.2.1⟩,⟨h.2.2.2.2.2.2.1,h.2.2.2.2.2.2.2.1,h.2.2.2.2.2.2.2.2.1,h.2.2.2.2.2.2.2.2.2.1⟩,h.2.2.2.2.2.2.2.2.2.2.1⟩ h.2.2.2.2.2.2.2.2.2.2.2⟩
theorem Ny:CK G7:=fo [] [] .o trivial Tryz.call171 Tryz.func171 rfl rfl
def zX(a0:dA):Int×List Int→Option (Int×List Int⊕List Int):=fun x1=>if decide (x1.1<len a0.aA.ab)=true then(idx a0.aA.ab x1.1).bind fun x2=>((idx a0.aS.al x1.1).bind fun x3=>if x3=true then(Ee a0 x2).bind some else some false).bind fun x5=>(if x5=true then(bD x1.2 [x1.1]).bind some else some x1.2).bind fun x7=>some (.inl (W (x1.1+1),x7)) else some (.inr x1.2)
def wL(x8:List Int):Int×Int×List aI×List Source×List Consumer×Int×Int×List Bool×List az×List Int×List Part×List Act→Option (Int×Int×List aI×List Source×List Consumer×Int×Int×List Bool×List az×List Int×List Part×List Act⊕Int×List aI×List Source×List Consumer×Int×Int×List Bool×List az×List Int×List Part×List Act):=fun x9=>if decide (x9.1<len x8)=true then(idx x8 x9.1).bind fun aN=>(zZ (dA.mk (ak.mk x9.2.1 x9.2.2.1 x9.2.2.2.1 x9.2.2.2.2.1 x9.2.2.2.2.2.1 x9.2.2.2.2.2.2.1) (ah.mk x9.2.2.2.2.2.2.2.1 x9.2.2.2.2.2.2.2.2.1 x9.2.2.2.2.2.2.2.2.2.1 x9.2.2.2.2.2.2.2.2.2.2.1) x9.2.2.2.2.2.2.2.2.2.2.2) aN).bind fun aL=>some (.inl (W (x9.1+1),aL.1,aL.2.1,aL.2.2.1,aL.2.2.2.1,aL.2.2.2.2.1,aL.2.2.2.2.2.1,aL.2.2.2.2.2.2.1,aL.2.2.2.2.2.2.2.1,aL.2.2.2.2.2.2.2.2.1,aL.2.2.2.2.2.2.2.2.2.1,aL.2.2.2.2.2.2.2.2.2.2)) else some (.inr (x9.2.1,x9.2.2.1,x9.2.2.2.1,x9.2.2.2.2.1,x9.2.2.2.2.2.1,x9.2.2.2.2.2.2.1,x9.2.2.2.2.2.2.2.1,x9.2.2.2.2.2.2.2.2.1,x9.2.2.2.2.2.2.2.2.2.1,x9.2.2.2.2.2.2.2.2.2.2.1,x9.2.2.2.2.2.2.2.2.2.2.2))
def Ea(a0:dA):Option (Int×List aI×List Source×List Consumer×Int×Int×List Bool×List az×List Int×List Part×List Act):=(aC (zX a0) (0,[])).bind fun x8=>(aC (wL x8) (0,a0.aA.ai,a0.aA.ab,a0.aA.aa,a0.aA.ae,a0.aA.aG,a0.aA.aB,a0.aS.al,a0.aS.aa,a0.aS.ar,a0.aS.ax,a0.ml)).bind fun aR=>some (aR.1,aR.2.1,aR.2.2.1,aR.2.2.2.1,aR.2.2.2.2.1,aR.2.2.2.2.2.1,aR.2.2.2.2.2.2.1,aR.2.2.2.2.2.2.2.1,aR.2.2.2.2.2.2.2.2.1,aR.2.2.2.2.2.2.2.2.2.1,aR.2.2.2.2.2.2.2.2.2.2)
def WJ:au D:=⟨134,z5,z5,[.one (.ptr 1000 0),.one (.fn 1000135 [.ptr 1000 0])],y_,[],Ig,fun h=>Ea ⟨⟨h.1,h.2.1,h.2.2.1,h.2.2.2.1,h.2.2.2.2.1,h.2.2.2.2.2.1⟩,⟨h.2.2.2.2.2.2.1,h.2.2.2.2.2.2.2.1,h.2.2.2.2.2.2.2.2.1,h.2.2.2.2.2.2.2.2.2.1⟩,h.2.2.2.2.2.2.2.2.2.2⟩⟩
theorem akn:CK WJ:=fo [WG,G7] [] z9 ⟨akm,Ny,trivial⟩ Tryz.call134 Tryz.func134 rfl rfl
def vq(a0:ak)(a1:ah)(a2:Int):Option (Bool):=(mh a0 a1 a2).bind fun x1=>some (decide (len x1.2.1>0))
def mX:au D:=⟨110,z0,[.lf .bool],z3,[],aW,[],fun h=>vq ⟨h.1,h.2.1,h.2.2.1,h.2.2.2.1,h.2.2.2.2.1,h.2.2.2.2.2.1⟩ ⟨h.2.2.2.2.2.2.1,h.2.2.2.2.2.2.2.1,h.2.2.2.2.2.2.2.2.1,h.2.2.2.2.2.2.2.2.2.1⟩ h.2.2.2.2.2.2.2.2.2.2⟩
theorem yw:CK mX:=fo [p9] [.tmp 6] .o ⟨sP,trivial⟩ Tryz.call110 Tryz.func110 rfl rfl
def I6(a0:aI)(a1:Int)(a2:List aI)(a3:List Source)(a4:List Consumer)(a5:Int)(a6:Int)(a7:List Bool)(a8:List az)(a9:List Int)(jZ:List Part)(a11:List Act):Option (Bool×Int×List aI×List Source×List Consumer×Int×Int×List Bool×List az×List Int×List Part×List Act):=(if(a0.Kind==3)=true then(vq (ak.mk a1 a2 a3 a4 a5 a6) (ah.mk a7 a8 a9 jZ) a0.A).bind fun x1=>some !x1 else some false).bind fun x2=>some (x2,a1,a2,a3,a4,a5,a6,a7,a8,a9,jZ,a11)
def WE:au D:=⟨136,[.lf (.int .i64),.lf (.int .i64),.lf (.int .i64),.lf (.int .i64),.lf (.sl 5),.lf (.sl 6),.lf (.sl 7),.lf (.int .i64),.lf (.int .i64),.lf (.sl 1),.lf (.sl 10),.lf (.sl 0),.lf (.sl 11),.lf (.sl 16)],On,[.agg [.h 0 [],.h 1 [],.h 2 []],.one (.ptr 1000 0)],[(1000,.box [.ptr 1001 0]),(1001,.box [.h 3 [],.h 4 [0],.h 5 [0],.h 6 [0],.h 7 [],.h 8 [],.own 1002,.own 1003,.own 1004,.own 1005,.own 1006]),(1002,.sl 1 4 9 []),(1003,.sl 10 127 10 []),(1004,.sl 0 3 11 []),(1005,.sl 11 112 12 []),(1006,.sl 16 51 13 [])],aW,[(1000,.box [.ptr 1001 0]),(1001,.box [.h 1 [],.h 2 [0],.h 3 [0],.h 4 [0],.h 5 [],.h 6 [],.own 1002,.own 1003,.own 1004,.own 1005,.own 1006]),(1002,.sl 1 4 7 []),(1003,.sl 10 127 8 []),(1004,.sl 0 3 9 []),(1005,.sl 11 112 10 []),(1006,.sl 16 51 11 [])],fun h=>I6 ⟨h.1,h.2.1,h.2.2.1⟩ h.2.2.2.1 h.2.2.2.2.1 h.2.2.2.2.2.1 h.2.2.2.2.2.2.1 h.2.2.2.2.2.2.2.1 h.2.2.2.2.2.2.2.2.1 h.2.2.2.2.2.2.2.2.2.1 h.2.2.2.2.2.2.2.2.2.2.1 h.2.2.2.2.2.2.2.2.2.2.2.1 h.2.2.2.2.2.2.2.2.2.2.2.2.1 h.2.2.2.2.2.2.2.2.2.2.2.2.2⟩
theorem akl:CK WE:=fo [mX] [.tmp 3] CQ ⟨yw,trivial⟩ Tryz.call136 Tryz.func136 rfl rfl
end Rx
end Go.Proofs.YtaneejpkncdodaaGreat
