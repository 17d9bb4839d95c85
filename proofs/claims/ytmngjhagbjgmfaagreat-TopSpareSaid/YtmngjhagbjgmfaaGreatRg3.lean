import Derived.Test.YtmngjhagbjgmfaaGreatRn
import Derived.Test.YtmngjhagbjgmfaaGreatRg2
set_option maxRecDepth 100000
set_option linter.all false
open Bool renaming false->ai,true->ab
open Decidable renaming decide->ak
open Option renaming some->aa
open Sum renaming elim->dk
noncomputable section
namespace Go.Proofs.YtmngjhagbjgmfaaGreat
open Go Go.RowKit Dp
namespace Rx
open Tryz
def F4(a1:Int):Int×List Part->Option (Int×List Part⊕List Part):=λx2=>(if ak (x2.1>a1)=ab then(idx x2.2 x2.1).bind λx3=>(idx x2.2 (W (x2.1-1))).bind λx4=>(Bu x3 x4).bind λx5=>aa (ak (x5<0))else aa ai).bind λx6=>if x6=ab then(idx x2.2 (W (x2.1-1))).bind λx7=>(idx x2.2 x2.1).bind λx8=>(idx x2.2 x2.1).bind λx9=>(idx x2.2 x2.1).bind λbe=>(df x2.2 x2.1 x7).bind λbo=>(idx bo (W (x2.1-1))).bind λbJ=>(idx bo (W (x2.1-1))).bind λcp=>(df bo (W (x2.1-1)) x8).bind λcF=>aa (.inl (W (x2.1-1),cF))else aa (.inr x2.2)
def CD(a1:Int)(a2:Int):Int×List Part->Option (Int×List Part⊕List Part):=λx1=>if ak (x1.1<a2)=ab then(aI (F4 a1) x1).bind λcu=>aa (.inl (W (x1.1+1),cu))else aa (.inr x1.2)
def JZ(a0:List Part)(a1:Int)(a2:Int):Option (List Part):=(aI (CD a1 a2) (W (a1+1),a0)).bind aa
def ah8:az D:=⟨180,zn,ia,[.one (.own 1000),dq,lm,.one (.fn 71 [])],mJ,[],mJ,λh=>JZ h.1 h.2.1 h.2.2⟩
def aAN:CK ah8:=fo [Oe] [] (qw (.loop ⟨xx,wc,[(1000,.sl 10 79 1 [])],[1000],2448⟩ ab [(.exit 0,⟨ia,[],mJ,[1000],2448⟩)] (qw (qm (qw (.loop ⟨xx,wb,[(1000,.sl 10 79 1 [])],[1000],3154⟩ ab [(.exit 2,⟨ia,Yr,mJ,[1000],3154⟩)] Yw) .o) .o) .o)) .o) ⟨Wc,q0⟩ func180
def QW:Int×Int×Int×Bool×Bool×List Part->Option (Int×Int×Int×Bool×Bool×List Part⊕List Part):=λx1=>(if ak (W (x1.2.1-x1.1)<=12)=ab then(JZ x1.2.2.2.2.2 x1.1 x1.2.1).bind λkI=>aa (.inr (.inr kI))else if(x1.2.2.1==0)=ab then none else(if(!x1.2.2.2.1)=ab then none else aa x1.2.2.1).bind λx3=>none).bind λfL=>dk (λ(mj:Int×Int×Int×Bool×Bool×List Part)=>aa (.inl mj)) (aa) fL
def QX(a0:List Part)(a1:Int)(a2:Int)(a3:Int):Option (List Part):=(aI QW (a1,a2,a3,ab,ab,a0)).bind aa
def aiS:az D:=⟨128,[bx,qi,qi,qi],ia,[.one (.own 1000),dq,lm,tL,.one (.fn 71 [])],mJ,[],mJ,λh=>QX h.1 h.2.1 h.2.2.1 h.2.2.2⟩
def aBu:CK aiS:=fo [ah8] [] (qn (qw (.loop ⟨[qi,qi,qi,.lf .bool,.lf .bool,bx],[(1,aN),(2,dq),(3,lm),(10,tL),(11,GL)],[(1000,.sl 10 79 5 [])],[1000],2320⟩ ai [] (.n (aa (ai,[(.normal,⟨[qi,qi,qi,.lf .bool,.lf .bool,bx],[(1,aN),(2,dq),(3,lm),(10,tL),(11,GL),(70,qa),(73,qa),(74,qa),(84,qa),(85,qa),(86,qa),(87,qa),(88,qa),(89,qa),(90,qa),(91,qa),(92,qa),(93,qa),(94,qa),(95,qa),(96,qa)],[(1000,.sl 10 79 5 [])],[1000],2390⟩)])) (qv (qw (qn (qp ⟨z8,[(3,aN)],[],[],3670⟩ .o .o)) (qw (qn (qp ⟨z9,[(13,aN),(14,dq)],[],[],5271⟩ .o .o)) (qm (qm (qr ⟨[.lf .bool],[(70,qa),(73,qa),(74,qa),(75,aN)],[],[],5337⟩) (.n (aa (ai,[(.normal,⟨[],[],[],[],5402⟩)])) .o .o)) (qm (qm (qr ⟨[.lf .bool],[(84,qa),(85,qa),(86,qa),(87,qa),(88,qa),(89,qa),(90,qa),(91,qa),(92,qa),(93,qa),(94,qa),(95,qa),(96,qa),(97,aN)],[],[],5466⟩) .o) (qv (qv (qn (qp ⟨[qi,qi,.lf .bool,bx],[(1,aN),(2,dq),(10,lm)],[(1000,.sl 10 79 3 [])],[1000],8987⟩ .o .o))))))))) .o)) .o)) ⟨aAN,q0⟩ func128
def F5(a0:List Part):Option (List Part):=(OV (rm IntKind.u64 (len a0))).bind λx1=>(QX a0 0 (len a0) x1).bind aa
def Of:az D:=⟨70,ia,ia,[.one (.own 1000),.one (.fn 71 [])],mJ,[],mJ,λh=>F5 h⟩
def afG:CK Of:=fo [aiS,aiR] [] .o ⟨aBu,aBt,q0⟩ func70
def aoo(x1:Int×List Part):Int×Int×List Part->Option (Int×Int×List Part⊕Int×List Part):=λx5=>if ak (x5.2.1<len x5.2.2-x1.1)=ab then(idx (uv x5.2.2 x1.1) x5.2.1).bind λx6=>(idx (uv x5.2.2 x1.1) (W (x5.2.1-1))).bind λx7=>(if(!(x6.Kind==x7.Kind&&x6.Number==x7.Number))=ab then(idx (uv x5.2.2 x1.1) x5.2.1).bind λx8=>(idx x5.2.2 x5.1).bind λx9=>(idx x5.2.2 x5.1).bind λbe=>(df x5.2.2 x5.1 x8).bind λbo=>aa (W (x5.1+1),bo)else aa (x5.1,x5.2.2)).bind λbJ=>aa (.inl (bJ.1,W (x5.2.1+1),bJ.2))else aa (.inr (x5.1,x5.2.2))
def Kv:Int×List Part->Option (Int×List Part⊕List Part⊕List Part):=λx1=>if ak (x1.1<len x1.2)=ab then(idx x1.2 x1.1).bind λx2=>(idx x1.2 (W (x1.1-1))).bind λx3=>if(x2.Kind==x3.Kind&&x2.Number==x3.Number)=ab then(dI x1.2 x1.1 (len x1.2)).bind λx4=>(aI (aoo x1) (x1.1,1,x1.2)).bind λcp=>(dI cp.2 cp.1 (len cp.2)).bind λcF=>(dI (rL (Part.mk 0 0) cp.2 cp.1) 0 cp.1).bind λcu=>aa (.inr (.inr cu))else aa (.inl (W (x1.1+1),x1.2))else aa (.inr (.inl x1.2))
def Kw(a0:List Part):Option (List Part):=if ak (len a0<2)=ab then aa a0 else(aI Kv (1,a0)).bind λcM=>dk (aa) (aa) cM
def aiT:az D:=⟨127,ia,ia,jk,mJ,wh,[(1001,.sl 10 79 0 [])],λh=>Kw h⟩
def aBv:CK aiT:=fo [] [.tmp 2] (qn (qw (qw (.loop ⟨xx,[(3,aN)],[(1000,.sl 10 79 1 [])],[1000],2704⟩ ai [(.exit 0,⟨ia,[],mJ,[1000],2704⟩)] (qw (qm (qw (qw (qw (.loop ⟨[qi,qi,bx],[(3,aN),(5,dq)],[(1000,.sl 10 79 2 [])],[1000],5202⟩ ab [(.exit 2,⟨xx,[(3,aN)],[(1000,.sl 10 79 1 [])],[1000],5202⟩)] (qw (qm (qn (qp ⟨xx,[(3,aN)],[(1000,.sl 10 79 1 [])],[1000],7061⟩ .o .o)) .o) .o)) .o) .o) .o) .o) .o)) .o) .o)) trivial func127
def Ig(a0:List Part)(a1:List Part):Option (List Part):=(F' [a0,a1]).bind λx1=>(F5 x1).bind λx2=>(Kw x2).bind aa
def Og:az D:=⟨68,[bx,bx],ia,B8,[],jk,mJ,λh=>Ig h.1 h.2⟩
def afH:CK Og:=fo [Ws,Of,aiT] [.tmp 4] .o ⟨agy,afG,aBv,q0⟩ func68
def NP(a0:dw)(x4:Part):Int×List Part->Option (Int×List Part⊕List Part):=λx6=>if ak (x6.1<len a0.h_)=ab then(idx a0.h_ x6.1).bind λx7=>(if(x7.fA.Kind==x4.Kind&&x7.fA.Number==x4.Number)=ab then(bF x6.2 [x7.To]).bind aa else aa x6.2).bind λx9=>aa (.inl (W (x6.1+1),x9))else aa (.inr x6.2)
def VB(a0:dw):List Part×List (Int×Int×Bool)->Option (List Part×List (Int×Int×Bool)⊕List (Int×Int×Bool)):=λx3=>if ak (len x3.1>0)=ab then((idx x3.1 0).bind λx4=>(dI x3.1 1 (len x3.1)).bind λx5=>if yb (λbJ=>bJ.1==x4.Kind&&bJ.2.1==x4.Number) (λcp=>cp.2.2) ai x3.2=ab then aa (x5,x3.2)else(aI (NP a0 x4) (0,x5)).bind λbe=>aa (be,Ac (λbo=>bo.1==x4.Kind&&bo.2.1==x4.Number) (x4.Kind,x4.Number,ab) x3.2)).bind λcF=>aa (.inl cF)else aa (.inr x3.2)
def Ih(a0:dw)(a1:List Part):Option (List Part):=(Et a0).bind λx1=>if(x1 !=0)=ab then(Ig a1 []).bind aa else(zF a1).bind λx2=>(aI (VB a0) (x2,[])).bind λcu=>BM cu λcM=>(sP (λdD da=>(bF dD [Part.mk da.1 da.2.1]).bind aa) [] cM).bind λfe=>(F5 fe).bind aa
def Wv:az D:=⟨26,[bx,ol,pZ,bx],ia,[.agg [bZ,bT,bK],.one (bW)],[],jk,mJ,λh=>Ih ⟨h.1,h.2.1,h.2.2.1⟩ h.2.2.2⟩
def agH:CK Wv:=awj (Φ:=[Ox,Og,Iy,Of]) (rs:=[.tmp 4]) (sp:=(ZT (qK f26) 0 [.o,.o,.o,.o,(qm (.loop ⟨[bx,.lf (.sl 28)],[(6,.one (.own 3280))],[(3280,.sl 10 79 0 []),(2640,.mp 28 1)],[2640,3032],3344⟩ ab [(.exit 0,⟨[.lf (.sl 28)],[],[(2640,.mp 28 0)],[2640,3032],3344⟩)] (qn (qp ⟨[bx,.lf (.sl 28)],[(6,.one (.own 3730))],[(3730,.sl 10 79 0 []),(2640,.mp 28 1)],[2640,3280],3794⟩ (qv (qv (qw (.loop ⟨xx,[(6,.one (.own 6034)),(36,aN)],[(6034,.sl 10 79 1 [])],[4498],6098⟩ ab [(.exit 2,⟨ia,[(6,.one (.own 6034))],[(6034,.sl 10 79 0 [])],[4498],6098⟩)] (qn (qw (qm (qv (qp ⟨ia,[(6,.one (.own 7252))],[(7252,.sl 10 79 0 [])],[6034],7316⟩ .o .o)) .o) .o))) .o))) .o))) .o),.o])) (m:=(aqP (ZS (JX 6 (qK f26))))) (j:=⟨ia,[(10,.one (.own 3473))],[(3473,.sl 10 79 0 [])],[],3537⟩) (an:= .o) (l_:= .o) (b:=(JX 7 (qK f26))) p8 pb (ij.mem (⟨agT,afH,Wd,afG,q0⟩:ij _ _ [Ox,Og,Iy,Of])) nH call26 func26 (by kernel_rfl) rfl (by kernel_rfl) (λh=>by kernel_rfl)
def Gc(a0:List eM):Option (List eM):=bF [] a0
def Wa:az D:=⟨82,[fE],[fE],oY,[],jk,[(1000,.sl 11 110 0 [])],λh=>Gc h⟩
def afv:CK Wa:=by
 refine⟨call82,rfl,rfl,rfl,rfl,λoc r0 mz fj eO has nF γ w vs hv _=>?_⟩;cases has;match vs,hv with
 |[],hv=>exact hv.elim
 |_::_::_,hv=>exact hv.2.elim
 |[v],hv=>
 obtain⟨xs,eF⟩:∃xs:List (D 11),xs=oc:=⟨_,rfl⟩;obtain⟨r,jo⟩:∃r:List (D 11),r=r0:=⟨_,rfl⟩;have g0:Rv (In γ.o [0]) w v xs:=by rw[eF];exact hv.1.1
 have hr:bF ([]:List (D 11)) xs=aa r:=by rw[eF,jo];exact mz
 subst jo;have hT:=FY.2;refine enter (l:=[v]) func82 rfl ntmps82 rfl ?_;refine CW.sub (L':=[(0,v)]) ⟨rfl,trivial⟩ ?_;refine CW.sr λK1 gY=>?_;refine WL.p (.slice none 0 0) rfl rfl ?_;refine WL.nx gY ?_;refine CW.seq λK2 ix=>?_;refine CW.sr λK3 l8=>?_;refine WL.p v rfl rfl ?_;obtain⟨a,m,q,rfl,hn⟩:=zI g0;refine WL.lT (OW.isNil FY.1 rfl) rfl ?_;refine WL.nx l8 ?_;cases a with
 |none=>refine CW.cond (b:=ab) rfl (λ_=>?_) (λh=>nomatch h);refine CW.sr λK4 nN=>?_;refine WL.p (.slice none 0 0) rfl rfl ?_;refine WL.nx nN ?_;rw[hn rfl]at hr;obtain rfl:=BL hr;exact CW.mn (vs:=[.slice none 0 0]) results82 ⟨rfl,trivial⟩ ⟨_,rfl,qF (n:=11) (e:=110) (q:=1000) (K:=[]) (M:=[]) (N:=[]) rfl rfl rfl (by simp) (by simp) (bO.refl _ _ γ.o w) (Ow.nil _ _ _ _ _) (λx hx=>by simp at hx<;>omega)⟩ (λ_ _ h=>h)
 |some a=>refine CW.cond (b:=ai) rfl (λh=>nomatch h) (λ_=>?_);refine CW.skip ?_;refine ix _ _ ?_;refine CW.sr λK5 lB=>?_;refine WL.step (OW.buildSlice (o:=γ.o) (k:=1000) (K:=[]) (xs:=([]:List (D 11))) FY.1 hT rfl trivial rfl rfl) rfl ?_;rintro v1 w1 ⟨o1,kq,h1⟩;have g0:=g0.Bn kq rfl;refine WL.p (.slice (aa a) m q) rfl rfl ?_;refine WL.step (OW.append (K:=[]) FY.1 hT rfl rfl h1 (@fB.flat (D 11) _ aw2 _ _ _ _ _ g0.de) hr rfl) rfl ?_;rintro v2 w2 ⟨o2,mF,h2⟩;refine WL.p v2 rfl rfl ?_;refine WL.nx lB ?_;exact CW.mn (vs:=[v2]) results82 ⟨rfl,trivial⟩ ⟨_,rfl,qF (n:=11) (e:=110) (q:=1000) (K:=[]) (M:=[1000]) (N:=[1000]) rfl rfl rfl (by simp) (by simp) ((kq.weaken (by simp) (by simp)).trans mF) h2 (λx hx=>by simp at hx<;>omega)⟩ (λ_ _ h=>h)
def Ge(a0:List Event):Option (List Event):=bF [] a0
def V':az D:=⟨83,[f_],[f_],oY,[],jk,[(1000,.sl 12 192 0 [])],λh=>Ge h⟩
def afu:CK V':=by
 refine⟨call83,rfl,rfl,rfl,rfl,λoc r0 mz fj eO has nF γ w vs hv _=>?_⟩;cases has;match vs,hv with
 |[],hv=>exact hv.elim
 |_::_::_,hv=>exact hv.2.elim
 |[v],hv=>
 obtain⟨xs,eF⟩:∃xs:List (D 12),xs=oc:=⟨_,rfl⟩;obtain⟨r,jo⟩:∃r:List (D 12),r=r0:=⟨_,rfl⟩;have g0:Rv (In γ.o [0]) w v xs:=by rw[eF];exact hv.1.1
 have hr:bF ([]:List (D 12)) xs=aa r:=by rw[eF,jo];exact mz
 subst jo;have hT:=FX.2;refine enter (l:=[v]) func83 rfl ntmps83 rfl ?_;refine CW.sub (L':=[(0,v)]) ⟨rfl,trivial⟩ ?_;refine CW.sr λK1 gY=>?_;refine WL.p (.slice none 0 0) rfl rfl ?_;refine WL.nx gY ?_;refine CW.seq λK2 ix=>?_;refine CW.sr λK3 l8=>?_;refine WL.p v rfl rfl ?_;obtain⟨a,m,q,rfl,hn⟩:=zI g0;refine WL.lT (OW.isNil FX.1 rfl) rfl ?_;refine WL.nx l8 ?_;cases a with
 |none=>refine CW.cond (b:=ab) rfl (λ_=>?_) (λh=>nomatch h);refine CW.sr λK4 nN=>?_;refine WL.p (.slice none 0 0) rfl rfl ?_;refine WL.nx nN ?_;rw[hn rfl]at hr;obtain rfl:=BL hr;exact CW.mn (vs:=[.slice none 0 0]) results83 ⟨rfl,trivial⟩ ⟨_,rfl,qF (n:=12) (e:=192) (q:=1000) (K:=[]) (M:=[]) (N:=[]) rfl rfl rfl (by simp) (by simp) (bO.refl _ _ γ.o w) (Ow.nil _ _ _ _ _) (λx hx=>by simp at hx<;>omega)⟩ (λ_ _ h=>h)
 |some a=>refine CW.cond (b:=ai) rfl (λh=>nomatch h) (λ_=>?_);refine CW.skip ?_;refine ix _ _ ?_;refine CW.sr λK5 lB=>?_;refine WL.step (OW.buildSlice (o:=γ.o) (k:=1000) (K:=[]) (xs:=([]:List (D 12))) FX.1 hT rfl trivial rfl rfl) rfl ?_;rintro v1 w1 ⟨o1,kq,h1⟩;have g0:=g0.Bn kq rfl;refine WL.p (.slice (aa a) m q) rfl rfl ?_;refine WL.step (OW.append (K:=[]) FX.1 hT rfl rfl h1 (@fB.flat (D 12) _ aw1 _ _ _ _ _ g0.de) hr rfl) rfl ?_;rintro v2 w2 ⟨o2,mF,h2⟩;refine WL.p v2 rfl rfl ?_;refine WL.nx lB ?_;exact CW.mn (vs:=[v2]) results83 ⟨rfl,trivial⟩ ⟨_,rfl,qF (n:=12) (e:=192) (q:=1000) (K:=[]) (M:=[1000]) (N:=[1000]) rfl rfl rfl (by simp) (by simp) ((kq.weaken (by simp) (by simp)).trans mF) h2 (λx hx=>by simp at hx<;>omega)⟩ (λ_ _ h=>h)
def Lq(a0:au)(a1:cN):Option (Int×Int×List cG×List Source×List Consumer×Int×q8):=(ra a1.aw).bind λx1=>(Gc a1.pL).bind λx2=>(Ge a1.rT).bind λx3=>aa (a1.Time,a0.aA,a0.ae,a0.aj,a0.ay,a0.bh,a0.aY,x1.1,x1.2.1,x1.2.2.1,x1.2.2.2,x2,x3)
def c75:az D:=⟨75,[qi,cV,dJ,dn,qi,qi,qi,ck,cH,aL,bx,fE,f_],[qi,qi,cV,dJ,dn,qi,qi,ck,cH,aL,bx,fE,f_],[.agg [bD,bT,bK,bW,cB,bP],.agg [eE,j_,mR,rf,zQ,.h 11 [0],.h 12 [0]]],[],kF,[(1000,.box [bD,.own 1001,.own 1002,.own 1003,.own 1004,.own 1005,.own 1006,bl,bK,bW,ed,bP,eE,.bE,.bE]),(1001,.sl 1 4 7 []),(1002,.sl 9 140 8 []),(1003,.sl 0 3 9 []),(1004,.sl 10 79 10 []),(1005,.sl 11 110 11 []),(1006,.sl 12 192 12 [])],λh=>let g:=h.2.2.2.2.2.2;Lq (qb h) ⟨g.1,⟨g.2.1,g.2.2.1,g.2.2.2.1,g.2.2.2.2.1⟩,g.2.2.2.2.2.1,g.2.2.2.2.2.2⟩⟩
def ayB:CK c75:=fo [Wa,V',vO] [.tmp 4] .o ⟨afv,afu,xk,q0⟩ func75
def wC(a0:au)(a1:Int)(a2:Int):Option (Bool):=(if(a1==1)=ab then aa (len a0.aj)else(if(a1==2)=ab then aa (len a0.ae)else(if(a1==3)=ab then aa a0.aA else(if(a1==4)=ab then aa (len a0.ay)else aa 0).bind aa).bind aa).bind aa).bind λx4=>(if ak (a2>=0)=ab then aa (ak (a2<x4))else aa ai).bind aa
def ahn:az D:=⟨234,P9,[.lf .bool],[.agg [bD,bT,bK,bW,cB,bP],zO,.one (gM)],[],z5,[],λh=>wC (qb h) h.2.2.2.2.2.2.1 h.2.2.2.2.2.2.2⟩
def aAa:CK ahn:=fo [] [.tmp 6] (qn (qw (qw (qn (qp ⟨z8,tr,[],[],2832⟩ .o (qn (qp ⟨z8,tr,[],[],3088⟩ .o (qn (qp ⟨z8,tr,[],[],3344⟩ .o (qn (qp ⟨z8,tr,[],[],3600⟩ .o .o)))))))) .o) (qm (qt 6 2897) .o))) trivial func234
def KV(a0:au)(a1:Act):Option (Bool):=(if(a1.Kind==1)=ab then aa (a1.Kind==1)else aa (a1.Kind==2)).bind λx1=>if x1=ab then(wC a0 2 a1.Unit).bind aa else(if(a1.Kind==3)=ab then aa (a1.Kind==3)else aa (a1.Kind==4)).bind λx2=>if x2=ab then(wC a0 1 a1.Unit).bind aa else if(a1.Kind==5)=ab then(wC a0 4 a1.Unit).bind aa else if(a1.Kind==6)=ab then((wC a0 1 a1.Unit).bind λx5=>if x5=ab then(wC a0 3 a1.Value).bind aa else aa ai).bind aa else(if(a1.Kind==8)=ab then aa (a1.Kind==8)else aa (a1.Kind==9)).bind λx3=>if x3=ab then(wC a0 a1.Value a1.Unit).bind aa else aa ab
def ah2:az D:=⟨193,Yg,[.lf .bool],YB,[],z5,[],λh=>KV (qb h) ⟨h.2.2.2.2.2.2.1,h.2.2.2.2.2.2.2.1,h.2.2.2.2.2.2.2.2⟩⟩
def aAI:CK ah2:=fo [ahn] [.tmp 4] (qw (qw (qm (qn (qu 7 2960 .o .o)) (qw (qn (qu 14 3281 .o .o)) (qv (qn (qw (qm (qt 4 3858) .o) (qm (qn (qu 39 4114 .o .o)) .o)))))) .o) .o) ⟨aAa,q0⟩ func193
def sY(a0:aw)(a1:Int)(a2:Int):Option (Bool):=(F_ a0.aR (Part.mk a1 a2)).bind aa
def EK:az D:=⟨146,[ck,cH,aL,bx,qi,qi],[.lf .bool],[.agg [bZ,bT,bK,bW],GL,.one (bP)],[],z5,[],λh=>sY ⟨h.1,h.2.1,h.2.2.1,h.2.2.2.1⟩ h.2.2.2.2.1 h.2.2.2.2.2⟩
def IF:CK EK:=fo [Wb] [.tmp 6] .o ⟨afE,q0⟩ func146
def IW(a0:au)(a1:aw)(a2:Int):Option (Int×Bool):=(pI a0 a1).bind λx1=>if(x1 !=0)=ab then aa (0,ai)else(IP a0 a1 a2).bind aa
def WN:az D:=⟨144,z1,uK,z4,[],fu,[],λh=>let g:=h.2.2.2.2.2.2;IW (qb h) ⟨g.1,g.2.1,g.2.2.1,g.2.2.2.1⟩ g.2.2.2.2⟩
def aiE:CK WN:=fo [rN,WJ] [.tmp 6,.tmp 7] .o ⟨sX,aic,q0⟩ func144
def ZB(a0:au)(a1:aw)(a2:Int):Option (Bool):=(idx a0.ae a2).bind λx1=>((idx a1.aF a2).bind λx2=>if x2=ab then aa ab else(sY a1 2 a2).bind λx3=>if x3=ab then aa ab else(sY a1 3 x1.A).bind aa).bind λx5=>if x5=ab then aa ai else if(x1.Kind==1)=ab then(sY a1 3 x1.B).bind λbJ=>aa !bJ else if(x1.Kind==2)=ab then((sY a1 1 x1.B).bind λx9=>if(!x9)=ab then(idx a1.aj x1.B).bind λbe=>aa (be.State==2)else aa ai).bind aa else(IW a0 a1 x1.B).bind λx6=>((sY a1 4 x1.B).bind λx7=>if(!x7)=ab then aa !x6.2 else aa ai).bind aa
def agn:az D:=⟨290,z1,[.lf .bool],z4,[],z5,[],λh=>let g:=h.2.2.2.2.2.2;ZB (qb h) ⟨g.1,g.2.1,g.2.2.1,g.2.2.2.1⟩ g.2.2.2.2⟩
def azl:CK agn:=fo [WN,EK] [.tmp 6] (qn (qw (qm (qt 30 3344) .o) (qm (qw (qv (qw (qm (qt 6 4177) .o) .o)) .o) (qw (qt 6 5457) .o)))) ⟨aiE,IF,q0⟩ func290
def yZ(a2:Int)(x1:List bt):Int->Option (Int⊕Unit⊕JH):=λx2=>if ak (x2<len x1)=ab then(idx x1 x2).bind λx3=>(xJ x3.aA a2).bind λx4=>if x4=ab then aa (.inr (.inr (x3.aA,x3.aj,x3.ay,ab)))else aa (.inl (W (x2+1)))else aa (.inr (.inl ()))
def xm(a0:au)(a1:aw)(a2:Int):Option (JH):=(y5 a0 a1).bind λx1=>(aI (yZ a2 x1) 0).bind λx5=>dk (λx6=>aa ([],[],[],ai)) (aa) x5
def BD:az D:=⟨204,z1,[aL,aL,aL,.lf .bool],z4,[],[.agg [.h 0 [1],.h 1 [1],.h 2 [1]],tL],[],λh=>let g:=h.2.2.2.2.2.2;xm (qb h) ⟨g.1,g.2.1,g.2.2.1,g.2.2.2.1⟩ g.2.2.2.2⟩
def EI:CK BD:=fo [OK,IE] [.cell 6 227,.tmp 7] (qw (qw (.loop ⟨z8,[(14,aN)],[(2256,.box [.bE,.bE,.bE])],[2256],3216⟩ ai [(.exit 0,⟨[],[],[(2256,.box [.bE,.bE,.bE])],[2256],3216⟩)] .o) .o) .o) ⟨WW,OC,q0⟩ func204
def JR(a0:au)(a1:aw)(a2:Int):Option (Int×Bool):=(xm a0 a1 a2).bind λx1=>if(len x1.2.1==0)=ab then aa (0,ai)else(idx x1.2.1 0).bind λx2=>aa (x2,ab)
def Wr:az D:=⟨272,z1,uK,z4,[],fu,[],λh=>let g:=h.2.2.2.2.2.2;JR (qb h) ⟨g.1,g.2.1,g.2.2.1,g.2.2.2.1⟩ g.2.2.2.2⟩
def agF:CK Wr:=fo [BD] [.tmp 6,.tmp 7] .o ⟨EI,q0⟩ func272
def vQ(a0:Int):Option (Int):=(kL a0 3600).bind λx1=>(if ak (x1<0)=ab then aa (W (x1+3600))else aa x1).bind aa
def EG:az D:=⟨286,z8,z8,z5,[],z5,[],λh=>vQ h⟩
def IA:CK EG:=fo [] [.tmp 2] (qn (qw (qn (qp ⟨z8,[(0,aN)],[],[],2832⟩ .o .o)) .o)) trivial func286
def ajB(a0:Int)(a1:Int):Option (Int):=(vQ a1).bind λx1=>(vQ a0).bind λx2=>(vQ (W (x1-x2))).bind λx3=>(if ak (x3>1800)=ab then aa (W (x3-3600))else aa x3).bind aa
def af_:az D:=⟨308,z9,z8,fu,[],z5,[],λh=>ajB h.1 h.2⟩
def ay':CK af_:=fo [EG] [.tmp 4] (qn (qw (qn (qp ⟨z8,pT,[],[],3344⟩ .o .o)) .o)) ⟨IA,q0⟩ func308
def QG(a0:au)(a1:bn)(a2:bn):Option (Bool):=(if ak (eu a1.aY a2.aY<0)=ab then aa ab else aa (ak (imax a1.aY a2.aY>6000))).bind λx1=>if x1=ab then aa ai else(ajB a1.bh a2.bh).bind λx2=>(if ak (imax (W (a1.aY-a2.aY)) (W (a2.aY-a1.aY))<=a0.aY)=ab then aa (ak (imax x2 (W (-x2))<=a0.bh))else aa ai).bind aa
def agc:az D:=⟨302,[qi,cV,dJ,dn,qi,qi,qi,qi,qi,qi,qi,qi,qi,qi],[.lf .bool],[.agg [bD,bT,bK,bW,cB,bP],.agg [eE,gM,tM,p7],.agg [kN,nz,mS,rh]],[],z5,[],λh=>let g:=h.2.2.2.2.2.2;QG (qb h) ⟨g.1,g.2.1,g.2.2.1,g.2.2.2.1⟩ ⟨g.2.2.2.2.1,g.2.2.2.2.2.1,g.2.2.2.2.2.2.1,g.2.2.2.2.2.2.2⟩⟩
def azd:CK agc:=fo [af_] [.tmp 6] (qw (qm (qt 22 2576) .o) (qn (qw (qt 6 4945) .o))) ⟨ay',q0⟩ func302
def Zz(a0:au)(a1:aw)(a2:cG):Option (Bool):=(JR a0 a1 a2.A).bind λx1=>if(!x1.2)=ab then aa ab else if(a2.Kind==1)=ab then(JR a0 a1 a2.B).bind λx5=>(if(!x5.2)=ab then aa ab else(idx a1.aj x1.1).bind λx6=>(idx a1.aj x5.1).bind λx7=>(QG a0 x6 x7).bind aa).bind aa else if(a2.Kind==2)=ab then(idx a1.aj x1.1).bind λx2=>(idx a1.aj a2.B).bind λx3=>(QG a0 x2 x3).bind aa else aa ab
def agm:az D:=⟨291,Yn,[.lf .bool],[.agg [bD,bT,bK,bW,cB,bP],.agg [jA,j_,mR,rf],.agg [kN,nz,mS]],[],z5,[],λh=>let g:=h.2.2.2.2.2.2;Zz (qb h) ⟨g.1,g.2.1,g.2.2.1,g.2.2.2.1⟩ ⟨g.2.2.2.2.1,g.2.2.2.2.2.1,g.2.2.2.2.2.2⟩⟩
def azk:CK agm:=fo [Wr,agc] [.tmp 6] (qv (qw (qw (qw (qw (qt 6 5904) .o) .o) .o) .o)) ⟨agF,azd,q0⟩ func291
def ZE(a0:au)(a1:aw)(a2:Int):Option (Int):=(pI a0 a1).bind λx1=>if(x1 !=0)=ab then aa x1 else(if ak (a2<0)=ab then aa ab else aa (ak (a2>=len a0.ae))).bind λx2=>if x2=ab then aa 10 else(ZB a0 a1 a2).bind λx3=>if(!x3)=ab then aa 11 else(idx a0.ae a2).bind λx4=>(xm a0 a1 x4.A).bind λx5=>(if(x4.Kind==1)=ab then(xJ x5.1 x4.B).bind aa else aa ai).bind λx7=>(if(!x7)=ab then(Zz a0 a1 x4).bind λx8=>aa !x8 else aa ai).bind λx9=>if x9=ab then aa 12 else aa 0
def agG:az D:=⟨271,z1,z8,z4,[],z5,[],λh=>let g:=h.2.2.2.2.2.2;ZE (qb h) ⟨g.1,g.2.1,g.2.2.1,g.2.2.2.1⟩ g.2.2.2.2⟩
def azz:CK agG:=fo [rN,IE,BD,agn,agm] [.tmp 6] (qw (qw (qn (qw (qt 19 3344) .o)) .o) (qn (qw (qt 11 6481) (qm (qm (qt 66 6546) .o) .o)))) ⟨sX,OC,EI,azl,azk,q0⟩ func271
def ZG(a0:au)(a1:aw)(a2:Int):Option (Int×oe):=(ZE a0 a1 a2).bind λx1=>if(x1 !=0)=ab then aa (x1,[],[],[],[])else(ra a1).bind λx2=>(idx x2.1 a2).bind λx3=>(idx x2.1 a2).bind λx4=>(df x2.1 a2 ab).bind λx5=>(zB a0 (aw.mk x5 x2.2.1 x2.2.2.1 x2.2.2.2)).bind aa
def ahm:az D:=⟨235,z1,zq,z4,[],zp,zt,λh=>let g:=h.2.2.2.2.2.2;ZG (qb h) ⟨g.1,g.2.1,g.2.2.1,g.2.2.2.1⟩ g.2.2.2.2⟩
def az':CK ahm:=fo [Oh,vO,agG] [.cell 6 65,.tmp 7] .o ⟨Wf,xk,azz,q0⟩ func235
def ZD(a0:au)(a1:aw)(a2:Int):Option (Int×oe):=(pI a0 a1).bind λx1=>if(x1 !=0)=ab then aa (x1,[],[],[],[])else(if ak (a2<0)=ab then aa ab else aa (ak (a2>=len a0.ae))).bind λx2=>if x2=ab then aa (10,[],[],[],[])else((idx a1.aF a2).bind λx3=>if(!x3)=ab then aa ab else(sY a1 2 a2).bind aa).bind λx5=>if x5=ab then aa (11,[],[],[],[])else(ra a1).bind λx6=>(idx x6.1 a2).bind λx7=>(idx x6.1 a2).bind λx8=>(df x6.1 a2 ai).bind λx9=>aa (0,x9,x6.2)
def ahl:az D:=⟨236,z1,zq,z4,[],zp,zt,λh=>let g:=h.2.2.2.2.2.2;ZD (qb h) ⟨g.1,g.2.1,g.2.2.1,g.2.2.2.1⟩ g.2.2.2.2⟩
def az_:CK ahl:=fo [rN,vO,EK] [.cell 6 65,.tmp 7] (qw (qw (qn (qw (qt 18 3472) (qw (qt 29 3537) .o))) .o) .o) ⟨sX,xk,IF,q0⟩ func236
def ajn(a0:au)(a1:aw)(a2:Int):Option (Int×Bool):=(pI a0 a1).bind λx1=>if(x1 !=0)=ab then aa (0,ai)else(IQ a0 a1 a2).bind aa
def agE:az D:=⟨273,z1,uK,z4,[],fu,[],λh=>let g:=h.2.2.2.2.2.2;ajn (qb h) ⟨g.1,g.2.1,g.2.2.1,g.2.2.2.1⟩ g.2.2.2.2⟩
def azy:CK agE:=fo [rN,WK] [.tmp 6,.tmp 7] .o ⟨sX,aid,q0⟩ func273
def ZF(a0:au)(a1:aw)(a2:Int)(a3:Int):Option (Int×oe):=(pI a0 a1).bind λx1=>if(x1 !=0)=ab then aa (x1,[],[],[],[])else(if ak (a2<0)=ab then aa ab else if ak (a2>=len a0.aj)=ab then aa ab else if ak (a3<0)=ab then aa ab else aa (ak (a3>=a0.aA))).bind λx2=>if x2=ab then aa (10,[],[],[],[])else(JR a0 a1 a3).bind λx3=>(if(!x3.2)=ab then aa ab else(idx a1.aj a2).bind λx4=>aa (x4.State !=2)).bind λx5=>if x5=ab then aa (11,[],[],[],[])else(ra a1).bind λx6=>(ajn a0 a1 a2).bind λx7=>(if x7.2=ab then(xm a0 a1 x7.1).bind λx8=>aa x8.2.1 else aa [a2]).bind λx9=>(idx a1.aj x3.1).bind λbe=>(FR (aw.mk x6.1 x6.2.1 x6.2.2.1 x6.2.2.2) x9 be).bind λbo=>aa (0,x6.1,bo,x6.2.2)
def ahk:az D:=⟨237,Jw,zq,Yi,[],zp,zt,λh=>let g:=h.2.2.2.2.2.2;ZF (qb h) ⟨g.1,g.2.1,g.2.2.1,g.2.2.2.1⟩ g.2.2.2.2.1 g.2.2.2.2.2⟩
def az9:CK ahk:=fo [rN,vO,WU,BD,Wr,agE] [.cell 8 65,.tmp 9] (qn (qw (qm (qt 44 3344) .o) (qw (qm (qt 63 4561) .o) (qn (qw (qv (qp ⟨fi,[(14,.one (.h 0 [1]))],[],[5202],6802⟩ .o .o)) .o))))) ⟨sX,xk,ai_,EI,agF,azy,q0⟩ func237
def aax(a0:cG)(a1:Int):Option (Bool):=(if(a0.Kind==2)=ab then aa (a0.B==a1)else aa ai).bind aa
def aga:az D:=⟨304,Qf,[.lf .bool],[.agg [bD,bl,cf],.one (.rp 3 0 [0])],[],z5,[],λh=>aax ⟨h.1,h.2.1,h.2.2.1⟩ h.2.2.2⟩
def azb:CK aga:=fo [] [.tmp 3] (qw (qt 3 2320) .o) trivial func304
def aon(a0:List cG)(a1:Int):Int->Option (Int⊕Unit⊕Int):=λx1=>if ak (x1<len a0)=ab then(idx a0 x1).bind λx2=>(aax x2 a1).bind λx3=>if x3=ab then aa (.inr (.inr x1))else aa (.inl (W (x1+1)))else aa (.inr (.inl ()))
def Z3(a0:List cG)(a1:Int):Option (Int):=(aI (aon a0 a1) 0).bind λx4=>dk (λx5=>aa (-1)) (aa) x4
def agb:az D:=⟨303,[cV,.el 0],z8,[.one (bZ),.one (.fn 304 [.rp 1 0 [0]])],[],z5,[],λh=>Z3 h.1 h.2⟩
def azc:CK agb:=fo [aga] [.tmp 4] z3 ⟨azb,q0⟩ func303
def aay(a0:au)(a1:Int):Option (Int):=(Z3 a0.ae a1).bind aa
def agl:az D:=⟨292,YF,z8,[.agg [bD,bT,bK,bW,cB,bP],zO],[],z5,[],λh=>aay (qb h) h.2.2.2.2.2.2⟩
def azj:CK agl:=fo [agb] [.tmp 4] .o ⟨azc,q0⟩ func292
def FL(a0:od)(a1:Int):Option (Bool):=(aay a0.aQ a1).bind λx1=>(idx a0.bg.aF x1).bind λx2=>aa !x2
def Ou:az D:=⟨274,[.el 31,qi],[.lf .bool],[.one (.rp 0 31 [0]),zP],[],z5,[],λh=>FL h.1 h.2⟩
def Wq:CK Ou:=fo [agl] [.tmp 4] .o ⟨azj,q0⟩ func274
def anp(a1:aw):Int×List bn->Option (Int×List bn⊕List bn):=λx3=>if ak (x3.1<len a1.aj)=ab then(idx a1.aj x3.1).bind λx4=>(if(x4.State==2)=ab then(vQ (W (x4.bh+W (36*W (x4.aY-5000))))).bind λx5=>(idx x3.2 x3.1).bind λx6=>(idx x3.2 x3.1).bind λx7=>(df x3.2 x3.1 (bn.mk x7.State x7.gG x7.aY x5)).bind aa else aa x3.2).bind λx9=>aa (.inl (W (x3.1+1),x9))else aa (.inr x3.2)
def ZC(a0:au)(a1:aw):Option (Int×oe):=(pI a0 a1).bind λx1=>if(x1 !=0)=ab then aa (x1,[],[],[],[])else(ra a1).bind λx2=>(aI (anp a1) (0,x2.2.1)).bind λbe=>aa (0,x2.1,be,x2.2.2)
def agD:az D:=⟨275,tu,zq,uL,[],zp,zt,λh=>let g:=h.2.2.2.2.2.2;ZC (qb h) ⟨g.1,g.2.1,g.2.2.1,g.2.2.2⟩⟩
def azx:CK agD:=fo [rN,vO,EG] [.cell 4 65,.tmp 5] (qv (qw (qw (.loop ⟨zl,[(22,aN)],[(3417,.sl 9 140 1 [])],[3417],4368⟩ ab [(.exit 0,⟨ns,[],[(3417,.sl 9 140 0 [])],[3417],4368⟩)] Yh) .o) .o)) ⟨sX,xk,IA,q0⟩ func275
def Gu(a0:Part)(a1:Part):Option (Int):=if(a0.Kind !=a1.Kind)=ab then aa (W (a0.Kind-a1.Kind))else aa (W (a0.Number-a1.Number))
def agB:az D:=⟨277,o7,z8,Js,[],z5,[],λh=>Gu ⟨h.1,h.2.1⟩ ⟨h.2.2.1,h.2.2.2⟩⟩
def azv:CK agB:=fo [] [.tmp 4] .o trivial func277
def Rh(a0:List Part)(a1:Part):Int×Int->Option (Int×Int⊕Int):=λx1=>if ak (x1.1<x1.2)=ab then(wy 64 (rm IntKind.u64 (W (x1.1+x1.2))) 1).bind λx2=>(idx a0 (W x2)).bind λx3=>(Gu x3 a1).bind λx4=>(if ak (x4<0)=ab then aa (W (W x2+1),x1.2)else aa (x1.1,W x2)).bind λx5=>aa (.inl x5)else aa (.inr x1.1)
def Ky(a0:List Part)(a1:Part):Option (Int×Bool):=(aI (Rh a0 a1) (0,len a0)).bind λx6=>(if ak (x6<len a0)=ab then(idx a0 x6).bind λx7=>(Gu x7 a1).bind λx8=>aa (x6,x8==0)else aa (x6,ai)).bind aa
def agC:az D:=⟨276,zn,uK,[.one (bZ),.agg [bl,cf],.one (.fn 277 [])],[],fu,[],λh=>Ky h.1 ⟨h.2.1,h.2.2⟩⟩
def azw:CK agC:=fo [agB] [.tmp 6,.tmp 7] (qv (qw (qm (.loop ⟨z9,[(9,aN),(10,dq)],[],[],3216⟩ ab [(.exit 0,⟨z8,wb,[],[],3216⟩)] (qw (qv (qp ⟨z9,[(9,aN),(10,dq)],[],[],5586⟩ .o .o)) .o)) .o) (qm (qr ⟨uK,[(6,aN),(7,dq)],[],[],3281⟩) .o))) ⟨azv,q0⟩ func276
