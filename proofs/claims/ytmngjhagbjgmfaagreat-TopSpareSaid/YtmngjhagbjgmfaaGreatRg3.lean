import Derived.Test.YtmngjhagbjgmfaaGreatRn
import Derived.Test.YtmngjhagbjgmfaaGreatRg2
set_option maxRecDepth 100000
set_option linter.all false
open Bool renaming false->ai,true->ab
open Decidable renaming decide->al
open Option renaming none->ak,some->aa
open Sum renaming elim->dn
noncomputable section
namespace Go.Proofs.YtmngjhagbjgmfaaGreat
open Go Go.RowKit Dp
namespace Rx
open Tryz
def F8(a1:Int):Int×List Part->Option (Int×List Part⊕List Part):=λx2=>(if al (x2.1>a1)=ab then(idx x2.2 x2.1).bind λx3=>(idx x2.2 (W (x2.1-1))).bind λx4=>(Bz x3 x4).bind λx5=>aa (al (x5<0))else aa ai).bind λx6=>if x6=ab then(idx x2.2 (W (x2.1-1))).bind λx7=>(idx x2.2 x2.1).bind λx8=>(idx x2.2 x2.1).bind λx9=>(idx x2.2 x2.1).bind λbf=>(di x2.2 x2.1 x7).bind λbp=>(idx bp (W (x2.1-1))).bind λbK=>(idx bp (W (x2.1-1))).bind λcq=>(di bp (W (x2.1-1)) x8).bind λcG=>aa (.inl (W (x2.1-1),cG))else aa (.inr x2.2)
def CH(a1:Int)(a2:Int):Int×List Part->Option (Int×List Part⊕List Part):=λx1=>if al (x1.1<a2)=ab then(aJ (F8 a1) x1).bind λcw=>aa (.inl (W (x1.1+1),cw))else aa (.inr x1.2)
def J3(a0:List Part)(a1:Int)(a2:Int):Option (List Part):=(aJ (CH a1 a2) (W (a1+1),a0)).bind aa
def aia:aA D:=⟨180,zr,ie,[.one (.own 1000),du,lu,.one (.fn 71 [])],mM,[],mM,λh=>J3 h.1 h.2.1 h.2.2⟩
def aAR:CK aia:=fo [Oi] [] (qw (.loop ⟨xB,wj,[(1000,.sl 10 79 1 [])],[1000],2448⟩ ab [(.exit 0,⟨ie,[],mM,[1000],2448⟩)] (qw (qm (qw (.loop ⟨xB,wi,[(1000,.sl 10 79 1 [])],[1000],3154⟩ ab [(.exit 2,⟨ie,Yv,mM,[1000],3154⟩)] YA) .o) .o) .o)) .o) ⟨Wg,q0⟩ func180
def Q0:Int×Int×Int×Bool×Bool×List Part->Option (Int×Int×Int×Bool×Bool×List Part⊕List Part):=λx1=>(if al (W (x1.2.1-x1.1)<=12)=ab then(J3 x1.2.2.2.2.2 x1.1 x1.2.1).bind λkL=>aa (.inr (.inr kL))else if(x1.2.2.1==0)=ab then ak else(if(!x1.2.2.2.1)=ab then ak else aa x1.2.2.1).bind λx3=>ak).bind λfN=>dn (λ(mo:Int×Int×Int×Bool×Bool×List Part)=>aa (.inl mo)) (aa) fN
def Q1(a0:List Part)(a1:Int)(a2:Int)(a3:Int):Option (List Part):=(aJ Q0 (a1,a2,a3,ab,ab,a0)).bind aa
def aiW:aA D:=⟨128,[bz,qi,qi,qi],ie,[.one (.own 1000),du,lu,tP,.one (.fn 71 [])],mM,[],mM,λh=>Q1 h.1 h.2.1 h.2.2.1 h.2.2.2⟩
def aBy:CK aiW:=fo [aia] [] (qn (qw (.loop ⟨[qi,qi,qi,.lf .bool,.lf .bool,bz],[(1,aO),(2,du),(3,lu),(10,tP),(11,GP)],[(1000,.sl 10 79 5 [])],[1000],2320⟩ ai [] (.n (aa (ai,[(.normal,⟨[qi,qi,qi,.lf .bool,.lf .bool,bz],[(1,aO),(2,du),(3,lu),(10,tP),(11,GP),(70,qa),(73,qa),(74,qa),(84,qa),(85,qa),(86,qa),(87,qa),(88,qa),(89,qa),(90,qa),(91,qa),(92,qa),(93,qa),(94,qa),(95,qa),(96,qa)],[(1000,.sl 10 79 5 [])],[1000],2390⟩)])) (qv (qw (qn (qp ⟨z8,[(3,aO)],[],[],3670⟩ .o .o)) (qw (qn (qp ⟨z9,[(13,aO),(14,du)],[],[],5271⟩ .o .o)) (qm (qm (qr ⟨[.lf .bool],[(70,qa),(73,qa),(74,qa),(75,aO)],[],[],5337⟩) (.n (aa (ai,[(.normal,⟨[],[],[],[],5402⟩)])) .o .o)) (qm (qm (qr ⟨[.lf .bool],[(84,qa),(85,qa),(86,qa),(87,qa),(88,qa),(89,qa),(90,qa),(91,qa),(92,qa),(93,qa),(94,qa),(95,qa),(96,qa),(97,aO)],[],[],5466⟩) .o) (qv (qv (qn (qp ⟨[qi,qi,.lf .bool,bz],[(1,aO),(2,du),(10,lu)],[(1000,.sl 10 79 3 [])],[1000],8987⟩ .o .o))))))))) .o)) .o)) ⟨aAR,q0⟩ func128
def F9(a0:List Part):Option (List Part):=(O0 (ru IntKind.u64 (len a0))).bind λx1=>(Q1 a0 0 (len a0) x1).bind aa
def Oj:aA D:=⟨70,ie,ie,[.one (.own 1000),.one (.fn 71 [])],mM,[],mM,λh=>F9 h⟩
def afK:CK Oj:=fo [aiW,aiV] [] .o ⟨aBy,aBx,q0⟩ func70
def aos(x1:Int×List Part):Int×Int×List Part->Option (Int×Int×List Part⊕Int×List Part):=λx5=>if al (x5.2.1<len x5.2.2-x1.1)=ab then(idx (uz x5.2.2 x1.1) x5.2.1).bind λx6=>(idx (uz x5.2.2 x1.1) (W (x5.2.1-1))).bind λx7=>(if(!(x6.Kind==x7.Kind&&x6.Number==x7.Number))=ab then(idx (uz x5.2.2 x1.1) x5.2.1).bind λx8=>(idx x5.2.2 x5.1).bind λx9=>(idx x5.2.2 x5.1).bind λbf=>(di x5.2.2 x5.1 x8).bind λbp=>aa (W (x5.1+1),bp)else aa (x5.1,x5.2.2)).bind λbK=>aa (.inl (bK.1,W (x5.2.1+1),bK.2))else aa (.inr (x5.1,x5.2.2))
def Kz:Int×List Part->Option (Int×List Part⊕List Part⊕List Part):=λx1=>if al (x1.1<len x1.2)=ab then(idx x1.2 x1.1).bind λx2=>(idx x1.2 (W (x1.1-1))).bind λx3=>if(x2.Kind==x3.Kind&&x2.Number==x3.Number)=ab then(dK x1.2 x1.1 (len x1.2)).bind λx4=>(aJ (aos x1) (x1.1,1,x1.2)).bind λcq=>(dK cq.2 cq.1 (len cq.2)).bind λcG=>(dK (rO (Part.mk 0 0) cq.2 cq.1) 0 cq.1).bind λcw=>aa (.inr (.inr cw))else aa (.inl (W (x1.1+1),x1.2))else aa (.inr (.inl x1.2))
def KA(a0:List Part):Option (List Part):=if al (len a0<2)=ab then aa a0 else(aJ Kz (1,a0)).bind λcN=>dn (aa) (aa) cN
def aiX:aA D:=⟨127,ie,ie,jn,mM,wl,[(1001,.sl 10 79 0 [])],λh=>KA h⟩
def aBz:CK aiX:=fo [] [.tmp 2] (qn (qw (qw (.loop ⟨xB,[(3,aO)],[(1000,.sl 10 79 1 [])],[1000],2704⟩ ai [(.exit 0,⟨ie,[],mM,[1000],2704⟩)] (qw (qm (qw (qw (qw (.loop ⟨[qi,qi,bz],[(3,aO),(5,du)],[(1000,.sl 10 79 2 [])],[1000],5202⟩ ab [(.exit 2,⟨xB,[(3,aO)],[(1000,.sl 10 79 1 [])],[1000],5202⟩)] (qw (qm (qn (qp ⟨xB,[(3,aO)],[(1000,.sl 10 79 1 [])],[1000],7061⟩ .o .o)) .o) .o)) .o) .o) .o) .o) .o)) .o) .o)) trivial func127
def Ik(a0:List Part)(a1:List Part):Option (List Part):=(Ge [a0,a1]).bind λx1=>(F9 x1).bind λx2=>(KA x2).bind aa
def Ol:aA D:=⟨68,[bz,bz],ie,Ca,[],jn,mM,λh=>Ik h.1 h.2⟩
def afL:CK Ol:=fo [Ww,Oj,aiX] [.tmp 4] .o ⟨agC,afK,aBz,q0⟩ func68
def NT(a0:dy)(x4:Part):Int×List Part->Option (Int×List Part⊕List Part):=λx6=>if al (x6.1<len a0.ic)=ab then(idx a0.ic x6.1).bind λx7=>(if(x7.fC.Kind==x4.Kind&&x7.fC.Number==x4.Number)=ab then(bG x6.2 [x7.To]).bind aa else aa x6.2).bind λx9=>aa (.inl (W (x6.1+1),x9))else aa (.inr x6.2)
def VF(a0:dy):List Part×List (Int×Int×Bool)->Option (List Part×List (Int×Int×Bool)⊕List (Int×Int×Bool)):=λx3=>if al (len x3.1>0)=ab then((idx x3.1 0).bind λx4=>(dK x3.1 1 (len x3.1)).bind λx5=>if yf (λbK=>bK.1==x4.Kind&&bK.2.1==x4.Number) (λcq=>cq.2.2) ai x3.2=ab then aa (x5,x3.2)else(aJ (NT a0 x4) (0,x5)).bind λbf=>aa (bf,Ag (λbp=>bp.1==x4.Kind&&bp.2.1==x4.Number) (x4.Kind,x4.Number,ab) x3.2)).bind λcG=>aa (.inl cG)else aa (.inr x3.2)
def Il(a0:dy)(a1:List Part):Option (List Part):=(Ex a0).bind λx1=>if(x1 !=0)=ab then(Ik a1 []).bind aa else(zJ a1).bind λx2=>(aJ (VF a0) (x2,[])).bind λcw=>BQ cw λcN=>(sT (λdG de=>(bG dG [Part.mk de.1 de.2.1]).bind aa) [] cN).bind λfg=>(F9 fg).bind aa
def Wz:aA D:=⟨26,[bz,ot,p9,bz],ie,[.agg [b6,bU,bL],.one (bX)],[],jn,mM,λh=>Il ⟨h.1,h.2.1,h.2.2.1⟩ h.2.2.2⟩
def agL:CK Wz:=awn (Φ:=[OC,Ol,IC,Oj]) (rs:=[.tmp 4]) (sp:=(ZX (qN f26) 0 [.o,.o,.o,.o,(qm (.loop ⟨[bz,.lf (.sl 28)],[(6,.one (.own 3280))],[(3280,.sl 10 79 0 []),(2640,.mp 28 1)],[2640,3032],3344⟩ ab [(.exit 0,⟨[.lf (.sl 28)],[],[(2640,.mp 28 0)],[2640,3032],3344⟩)] (qn (qp ⟨[bz,.lf (.sl 28)],[(6,.one (.own 3730))],[(3730,.sl 10 79 0 []),(2640,.mp 28 1)],[2640,3280],3794⟩ (qv (qv (qw (.loop ⟨xB,[(6,.one (.own 6034)),(36,aO)],[(6034,.sl 10 79 1 [])],[4498],6098⟩ ab [(.exit 2,⟨ie,[(6,.one (.own 6034))],[(6034,.sl 10 79 0 [])],[4498],6098⟩)] (qn (qw (qm (qv (qp ⟨ie,[(6,.one (.own 7252))],[(7252,.sl 10 79 0 [])],[6034],7316⟩ .o .o)) .o) .o))) .o))) .o))) .o),.o])) (m:=(aqT (ZW (J1 6 (qN f26))))) (j:=⟨ie,[(10,.one (.own 3473))],[(3473,.sl 10 79 0 [])],[],3537⟩) (an:= .o) (mc:= .o) (b:=(J1 7 (qN f26))) qc pg (im.mem (⟨agX,afL,Wh,afK,q0⟩:im _ _ [OC,Ol,IC,Oj])) nK call26 func26 (by kernel_rfl) rfl (by kernel_rfl) (λh=>by kernel_rfl)
def Gi(a0:List eO):Option (List eO):=bG [] a0
def We:aA D:=⟨82,[fG],[fG],o8,[],jn,[(1000,.sl 11 110 0 [])],λh=>Gi h⟩
def afz:CK We:=by
 refine⟨call82,rfl,rfl,rfl,rfl,λoh r0 mD fm eQ has nI γ w vs hv _=>?_⟩;cases has;match vs,hv with
 |[],hv=>exact hv.elim
 |_::_::_,hv=>exact hv.2.elim
 |[v],hv=>
 obtain⟨xs,eH⟩:∃xs:List (D 11),xs=oh:=⟨_,rfl⟩;obtain⟨r,jr⟩:∃r:List (D 11),r=r0:=⟨_,rfl⟩;have g0:Rv (In γ.o [0]) w v xs:=by rw[eH];exact hv.1.1
 have hr:bG ([]:List (D 11)) xs=aa r:=by rw[eH,jr];exact mD
 subst jr;have hT:=F2.2;refine enter (l:=[v]) func82 rfl ntmps82 rfl ?_;refine CW.sub (L':=[(0,v)]) ⟨rfl,trivial⟩ ?_;refine CW.sr λK1 g_=>?_;refine WL.p (.slice ak 0 0) rfl rfl ?_;refine WL.nx g_ ?_;refine CW.seq λK2 iD=>?_;refine CW.sr λK3 mb=>?_;refine WL.p v rfl rfl ?_;obtain⟨a,m,q,rfl,hn⟩:=zM g0;refine WL.lW (OW.isNil F2.1 rfl) rfl ?_;refine WL.nx mb ?_;cases a with
 |none=>refine CW.cond (b:=ab) rfl (λ_=>?_) (λh=>nomatch h);refine CW.sr λK4 nQ=>?_;refine WL.p (.slice ak 0 0) rfl rfl ?_;refine WL.nx nQ ?_;rw[hn rfl]at hr;obtain rfl:=BP hr;exact CW.mr (vs:=[.slice ak 0 0]) results82 ⟨rfl,trivial⟩ ⟨_,rfl,qJ (n:=11) (e:=110) (q:=1000) (K:=[]) (M:=[]) (N:=[]) rfl rfl rfl (by simp) (by simp) (bP.refl _ _ γ.o w) (Ow.nil _ _ _ _ _) (λx hx=>by simp at hx<;>omega)⟩ (λ_ _ h=>h)
 |some a=>refine CW.cond (b:=ai) rfl (λh=>nomatch h) (λ_=>?_);refine CW.skip ?_;refine iD _ _ ?_;refine CW.sr λK5 lE=>?_;refine WL.step (OW.buildSlice (o:=γ.o) (k:=1000) (K:=[]) (xs:=([]:List (D 11))) F2.1 hT rfl trivial rfl rfl) rfl ?_;rintro v1 w1 ⟨o1,kz,h1⟩;have g0:=g0.Br kz rfl;refine WL.p (.slice (aa a) m q) rfl rfl ?_;refine WL.step (OW.append (K:=[]) F2.1 hT rfl rfl h1 (@fD.flat (D 11) _ aw6 _ _ _ _ _ g0.dh) hr rfl) rfl ?_;rintro v2 w2 ⟨o2,mI,h2⟩;refine WL.p v2 rfl rfl ?_;refine WL.nx lE ?_;exact CW.mr (vs:=[v2]) results82 ⟨rfl,trivial⟩ ⟨_,rfl,qJ (n:=11) (e:=110) (q:=1000) (K:=[]) (M:=[1000]) (N:=[1000]) rfl rfl rfl (by simp) (by simp) ((kz.weaken (by simp) (by simp)).trans mI) h2 (λx hx=>by simp at hx<;>omega)⟩ (λ_ _ h=>h)
def Gj(a0:List Event):Option (List Event):=bG [] a0
def Wd:aA D:=⟨83,[gf],[gf],o8,[],jn,[(1000,.sl 12 192 0 [])],λh=>Gj h⟩
def afy:CK Wd:=by
 refine⟨call83,rfl,rfl,rfl,rfl,λoh r0 mD fm eQ has nI γ w vs hv _=>?_⟩;cases has;match vs,hv with
 |[],hv=>exact hv.elim
 |_::_::_,hv=>exact hv.2.elim
 |[v],hv=>
 obtain⟨xs,eH⟩:∃xs:List (D 12),xs=oh:=⟨_,rfl⟩;obtain⟨r,jr⟩:∃r:List (D 12),r=r0:=⟨_,rfl⟩;have g0:Rv (In γ.o [0]) w v xs:=by rw[eH];exact hv.1.1
 have hr:bG ([]:List (D 12)) xs=aa r:=by rw[eH,jr];exact mD
 subst jr;have hT:=F1.2;refine enter (l:=[v]) func83 rfl ntmps83 rfl ?_;refine CW.sub (L':=[(0,v)]) ⟨rfl,trivial⟩ ?_;refine CW.sr λK1 g_=>?_;refine WL.p (.slice ak 0 0) rfl rfl ?_;refine WL.nx g_ ?_;refine CW.seq λK2 iD=>?_;refine CW.sr λK3 mb=>?_;refine WL.p v rfl rfl ?_;obtain⟨a,m,q,rfl,hn⟩:=zM g0;refine WL.lW (OW.isNil F1.1 rfl) rfl ?_;refine WL.nx mb ?_;cases a with
 |none=>refine CW.cond (b:=ab) rfl (λ_=>?_) (λh=>nomatch h);refine CW.sr λK4 nQ=>?_;refine WL.p (.slice ak 0 0) rfl rfl ?_;refine WL.nx nQ ?_;rw[hn rfl]at hr;obtain rfl:=BP hr;exact CW.mr (vs:=[.slice ak 0 0]) results83 ⟨rfl,trivial⟩ ⟨_,rfl,qJ (n:=12) (e:=192) (q:=1000) (K:=[]) (M:=[]) (N:=[]) rfl rfl rfl (by simp) (by simp) (bP.refl _ _ γ.o w) (Ow.nil _ _ _ _ _) (λx hx=>by simp at hx<;>omega)⟩ (λ_ _ h=>h)
 |some a=>refine CW.cond (b:=ai) rfl (λh=>nomatch h) (λ_=>?_);refine CW.skip ?_;refine iD _ _ ?_;refine CW.sr λK5 lE=>?_;refine WL.step (OW.buildSlice (o:=γ.o) (k:=1000) (K:=[]) (xs:=([]:List (D 12))) F1.1 hT rfl trivial rfl rfl) rfl ?_;rintro v1 w1 ⟨o1,kz,h1⟩;have g0:=g0.Br kz rfl;refine WL.p (.slice (aa a) m q) rfl rfl ?_;refine WL.step (OW.append (K:=[]) F1.1 hT rfl rfl h1 (@fD.flat (D 12) _ aw5 _ _ _ _ _ g0.dh) hr rfl) rfl ?_;rintro v2 w2 ⟨o2,mI,h2⟩;refine WL.p v2 rfl rfl ?_;refine WL.nx lE ?_;exact CW.mr (vs:=[v2]) results83 ⟨rfl,trivial⟩ ⟨_,rfl,qJ (n:=12) (e:=192) (q:=1000) (K:=[]) (M:=[1000]) (N:=[1000]) rfl rfl rfl (by simp) (by simp) ((kz.weaken (by simp) (by simp)).trans mI) h2 (λx hx=>by simp at hx<;>omega)⟩ (λ_ _ h=>h)
def Lu(a0:aw)(a1:cO):Option (Int×Int×List cH×List Source×List Consumer×Int×ra):=(rf a1.ax).bind λx1=>(Gi a1.pO).bind λx2=>(Gj a1.rW).bind λx3=>aa (a1.Time,a0.aB,a0.ae,a0.aj,a0.az,a0.bi,a0.aZ,x1.1,x1.2.1,x1.2.2.1,x1.2.2.2,x2,x3)
def c75:aA D:=⟨75,[qi,cX,dL,dq,qi,qi,qi,cm,cI,aM,bz,fG,gf],[qi,qi,cX,dL,dq,qi,qi,cm,cI,aM,bz,fG,gf],[.agg [bE,bU,bL,bX,cD,bQ],.agg [eG,kh,mU,rk,zU,.h 11 [0],.h 12 [0]]],[],kI,[(1000,.box [bE,.own 1001,.own 1002,.own 1003,.own 1004,.own 1005,.own 1006,bn,bL,bX,ef,bQ,eG,.bF,.bF]),(1001,.sl 1 4 7 []),(1002,.sl 9 140 8 []),(1003,.sl 0 3 9 []),(1004,.sl 10 79 10 []),(1005,.sl 11 110 11 []),(1006,.sl 12 192 12 [])],λh=>let g:=h.2.2.2.2.2.2;Lu (qb h) ⟨g.1,⟨g.2.1,g.2.2.1,g.2.2.2.1,g.2.2.2.2.1⟩,g.2.2.2.2.2.1,g.2.2.2.2.2.2⟩⟩
def ayF:CK c75:=fo [We,Wd,vS] [.tmp 4] .o ⟨afz,afy,xo,q0⟩ func75
def wG(a0:aw)(a1:Int)(a2:Int):Option (Bool):=(if(a1==1)=ab then aa (len a0.aj)else(if(a1==2)=ab then aa (len a0.ae)else(if(a1==3)=ab then aa a0.aB else(if(a1==4)=ab then aa (len a0.az)else aa 0).bind aa).bind aa).bind aa).bind λx4=>(if al (a2>=0)=ab then aa (al (a2<x4))else aa ai).bind aa
def ahr:aA D:=⟨234,Qb,[.lf .bool],[.agg [bE,bU,bL,bX,cD,bQ],zS,.one (gQ)],[],z5,[],λh=>wG (qb h) h.2.2.2.2.2.2.1 h.2.2.2.2.2.2.2⟩
def aAe:CK ahr:=fo [] [.tmp 6] (qn (qw (qw (qn (qp ⟨z8,tw,[],[],2832⟩ .o (qn (qp ⟨z8,tw,[],[],3088⟩ .o (qn (qp ⟨z8,tw,[],[],3344⟩ .o (qn (qp ⟨z8,tw,[],[],3600⟩ .o .o)))))))) .o) (qm (qt 6 2897) .o))) trivial func234
def KZ(a0:aw)(a1:Act):Option (Bool):=(if(a1.Kind==1)=ab then aa (a1.Kind==1)else aa (a1.Kind==2)).bind λx1=>if x1=ab then(wG a0 2 a1.Unit).bind aa else(if(a1.Kind==3)=ab then aa (a1.Kind==3)else aa (a1.Kind==4)).bind λx2=>if x2=ab then(wG a0 1 a1.Unit).bind aa else if(a1.Kind==5)=ab then(wG a0 4 a1.Unit).bind aa else if(a1.Kind==6)=ab then((wG a0 1 a1.Unit).bind λx5=>if x5=ab then(wG a0 3 a1.Value).bind aa else aa ai).bind aa else(if(a1.Kind==8)=ab then aa (a1.Kind==8)else aa (a1.Kind==9)).bind λx3=>if x3=ab then(wG a0 a1.Value a1.Unit).bind aa else aa ab
def ah6:aA D:=⟨193,Yk,[.lf .bool],YF,[],z5,[],λh=>KZ (qb h) ⟨h.2.2.2.2.2.2.1,h.2.2.2.2.2.2.2.1,h.2.2.2.2.2.2.2.2⟩⟩
def aAM:CK ah6:=fo [ahr] [.tmp 4] (qw (qw (qm (qn (qu 7 2960 .o .o)) (qw (qn (qu 14 3281 .o .o)) (qv (qn (qw (qm (qt 4 3858) .o) (qm (qn (qu 39 4114 .o .o)) .o)))))) .o) .o) ⟨aAe,q0⟩ func193
def tf(a0:ax)(a1:Int)(a2:Int):Option (Bool):=(Gc a0.aS (Part.mk a1 a2)).bind aa
def EO:aA D:=⟨146,[cm,cI,aM,bz,qi,qi],[.lf .bool],[.agg [b6,bU,bL,bX],GP,.one (bQ)],[],z5,[],λh=>tf ⟨h.1,h.2.1,h.2.2.1,h.2.2.2.1⟩ h.2.2.2.2.1 h.2.2.2.2.2⟩
def IJ:CK EO:=fo [Wf] [.tmp 6] .o ⟨afI,q0⟩ func146
def I0(a0:aw)(a1:ax)(a2:Int):Option (Int×Bool):=(pL a0 a1).bind λx1=>if(x1 !=0)=ab then aa (0,ai)else(IT a0 a1 a2).bind aa
def WT:aA D:=⟨144,z1,uO,z4,[],fx,[],λh=>let g:=h.2.2.2.2.2.2;I0 (qb h) ⟨g.1,g.2.1,g.2.2.1,g.2.2.2.1⟩ g.2.2.2.2⟩
def aiI:CK WT:=fo [rQ,WO] [.tmp 6,.tmp 7] .o ⟨td,aih,q0⟩ func144
def ZF(a0:aw)(a1:ax)(a2:Int):Option (Bool):=(idx a0.ae a2).bind λx1=>((idx a1.aG a2).bind λx2=>if x2=ab then aa ab else(tf a1 2 a2).bind λx3=>if x3=ab then aa ab else(tf a1 3 x1.A).bind aa).bind λx5=>if x5=ab then aa ai else if(x1.Kind==1)=ab then(tf a1 3 x1.B).bind λbK=>aa !bK else if(x1.Kind==2)=ab then((tf a1 1 x1.B).bind λx9=>if(!x9)=ab then(idx a1.aj x1.B).bind λbf=>aa (bf.State==2)else aa ai).bind aa else(I0 a0 a1 x1.B).bind λx6=>((tf a1 4 x1.B).bind λx7=>if(!x7)=ab then aa !x6.2 else aa ai).bind aa
def ags:aA D:=⟨290,z1,[.lf .bool],z4,[],z5,[],λh=>let g:=h.2.2.2.2.2.2;ZF (qb h) ⟨g.1,g.2.1,g.2.2.1,g.2.2.2.1⟩ g.2.2.2.2⟩
def azp:CK ags:=fo [WT,EO] [.tmp 6] (qn (qw (qm (qt 30 3344) .o) (qm (qw (qv (qw (qm (qt 6 4177) .o) .o)) .o) (qw (qt 6 5457) .o)))) ⟨aiI,IJ,q0⟩ func290
def y8(a2:Int)(x1:List bu):Int->Option (Int⊕Unit⊕JL):=λx2=>if al (x2<len x1)=ab then(idx x1 x2).bind λx3=>(xN x3.aB a2).bind λx4=>if x4=ab then aa (.inr (.inr (x3.aB,x3.aj,x3.az,ab)))else aa (.inl (W (x2+1)))else aa (.inr (.inl ()))
def xq(a0:aw)(a1:ax)(a2:Int):Option (JL):=(y9 a0 a1).bind λx1=>(aJ (y8 a2 x1) 0).bind λx5=>dn (λx6=>aa ([],[],[],ai)) (aa) x5
def BH:aA D:=⟨204,z1,[aM,aM,aM,.lf .bool],z4,[],[.agg [.h 0 [1],.h 1 [1],.h 2 [1]],tP],[],λh=>let g:=h.2.2.2.2.2.2;xq (qb h) ⟨g.1,g.2.1,g.2.2.1,g.2.2.2.1⟩ g.2.2.2.2⟩
def EM:CK BH:=fo [OO,II] [.cell 6 227,.tmp 7] (qw (qw (.loop ⟨z8,[(14,aO)],[(2256,.box [.bF,.bF,.bF])],[2256],3216⟩ ai [(.exit 0,⟨[],[],[(2256,.box [.bF,.bF,.bF])],[2256],3216⟩)] .o) .o) .o) ⟨W3,OG,q0⟩ func204
def JV(a0:aw)(a1:ax)(a2:Int):Option (Int×Bool):=(xq a0 a1 a2).bind λx1=>if(len x1.2.1==0)=ab then aa (0,ai)else(idx x1.2.1 0).bind λx2=>aa (x2,ab)
def Wv:aA D:=⟨272,z1,uO,z4,[],fx,[],λh=>let g:=h.2.2.2.2.2.2;JV (qb h) ⟨g.1,g.2.1,g.2.2.1,g.2.2.2.1⟩ g.2.2.2.2⟩
def agJ:CK Wv:=fo [BH] [.tmp 6,.tmp 7] .o ⟨EM,q0⟩ func272
def vV(a0:Int):Option (Int):=(kO a0 3600).bind λx1=>(if al (x1<0)=ab then aa (W (x1+3600))else aa x1).bind aa
def EK:aA D:=⟨286,z8,z8,z5,[],z5,[],λh=>vV h⟩
def IE:CK EK:=fo [] [.tmp 2] (qn (qw (qn (qp ⟨z8,[(0,aO)],[],[],2832⟩ .o .o)) .o)) trivial func286
def ajF(a0:Int)(a1:Int):Option (Int):=(vV a1).bind λx1=>(vV a0).bind λx2=>(vV (W (x1-x2))).bind λx3=>(if al (x3>1800)=ab then aa (W (x3-3600))else aa x3).bind aa
def agc:aA D:=⟨308,z9,z8,fx,[],z5,[],λh=>ajF h.1 h.2⟩
def azd:CK agc:=fo [EK] [.tmp 4] (qn (qw (qn (qp ⟨z8,pW,[],[],3344⟩ .o .o)) .o)) ⟨IE,q0⟩ func308
def QK(a0:aw)(a1:bo)(a2:bo):Option (Bool):=(if al (eA a1.aZ a2.aZ<0)=ab then aa ab else aa (al (imax a1.aZ a2.aZ>6000))).bind λx1=>if x1=ab then aa ai else(ajF a1.bi a2.bi).bind λx2=>(if al (imax (W (a1.aZ-a2.aZ)) (W (a2.aZ-a1.aZ))<=a0.aZ)=ab then aa (al (imax x2 (W (-x2))<=a0.bi))else aa ai).bind aa
def agh:aA D:=⟨302,[qi,cX,dL,dq,qi,qi,qi,qi,qi,qi,qi,qi,qi,qi],[.lf .bool],[.agg [bE,bU,bL,bX,cD,bQ],.agg [eG,gQ,tQ,p_],.agg [kQ,nC,mV,rl]],[],z5,[],λh=>let g:=h.2.2.2.2.2.2;QK (qb h) ⟨g.1,g.2.1,g.2.2.1,g.2.2.2.1⟩ ⟨g.2.2.2.2.1,g.2.2.2.2.2.1,g.2.2.2.2.2.2.1,g.2.2.2.2.2.2.2⟩⟩
def azh:CK agh:=fo [agc] [.tmp 6] (qw (qm (qt 22 2576) .o) (qn (qw (qt 6 4945) .o))) ⟨azd,q0⟩ func302
def ZE(a0:aw)(a1:ax)(a2:cH):Option (Bool):=(JV a0 a1 a2.A).bind λx1=>if(!x1.2)=ab then aa ab else if(a2.Kind==1)=ab then(JV a0 a1 a2.B).bind λx5=>(if(!x5.2)=ab then aa ab else(idx a1.aj x1.1).bind λx6=>(idx a1.aj x5.1).bind λx7=>(QK a0 x6 x7).bind aa).bind aa else if(a2.Kind==2)=ab then(idx a1.aj x1.1).bind λx2=>(idx a1.aj a2.B).bind λx3=>(QK a0 x2 x3).bind aa else aa ab
def agq:aA D:=⟨291,Yr,[.lf .bool],[.agg [bE,bU,bL,bX,cD,bQ],.agg [jD,kh,mU,rk],.agg [kQ,nC,mV]],[],z5,[],λh=>let g:=h.2.2.2.2.2.2;ZE (qb h) ⟨g.1,g.2.1,g.2.2.1,g.2.2.2.1⟩ ⟨g.2.2.2.2.1,g.2.2.2.2.2.1,g.2.2.2.2.2.2⟩⟩
def azo:CK agq:=fo [Wv,agh] [.tmp 6] (qv (qw (qw (qw (qw (qt 6 5904) .o) .o) .o) .o)) ⟨agJ,azh,q0⟩ func291
def ZI(a0:aw)(a1:ax)(a2:Int):Option (Int):=(pL a0 a1).bind λx1=>if(x1 !=0)=ab then aa x1 else(if al (a2<0)=ab then aa ab else aa (al (a2>=len a0.ae))).bind λx2=>if x2=ab then aa 10 else(ZF a0 a1 a2).bind λx3=>if(!x3)=ab then aa 11 else(idx a0.ae a2).bind λx4=>(xq a0 a1 x4.A).bind λx5=>(if(x4.Kind==1)=ab then(xN x5.1 x4.B).bind aa else aa ai).bind λx7=>(if(!x7)=ab then(ZE a0 a1 x4).bind λx8=>aa !x8 else aa ai).bind λx9=>if x9=ab then aa 12 else aa 0
def agK:aA D:=⟨271,z1,z8,z4,[],z5,[],λh=>let g:=h.2.2.2.2.2.2;ZI (qb h) ⟨g.1,g.2.1,g.2.2.1,g.2.2.2.1⟩ g.2.2.2.2⟩
def azD:CK agK:=fo [rQ,II,BH,ags,agq] [.tmp 6] (qw (qw (qn (qw (qt 19 3344) .o)) .o) (qn (qw (qt 11 6481) (qm (qm (qt 66 6546) .o) .o)))) ⟨td,OG,EM,azp,azo,q0⟩ func271
def ZK(a0:aw)(a1:ax)(a2:Int):Option (Int×oj):=(ZI a0 a1 a2).bind λx1=>if(x1 !=0)=ab then aa (x1,[],[],[],[])else(rf a1).bind λx2=>(idx x2.1 a2).bind λx3=>(idx x2.1 a2).bind λx4=>(di x2.1 a2 ab).bind λx5=>(zF a0 (ax.mk x5 x2.2.1 x2.2.2.1 x2.2.2.2)).bind aa
def ahq:aA D:=⟨235,z1,zv,z4,[],zu,zx,λh=>let g:=h.2.2.2.2.2.2;ZK (qb h) ⟨g.1,g.2.1,g.2.2.1,g.2.2.2.1⟩ g.2.2.2.2⟩
def aAd:CK ahq:=fo [Om,vS,agK] [.cell 6 65,.tmp 7] .o ⟨Wj,xo,azD,q0⟩ func235
def ZH(a0:aw)(a1:ax)(a2:Int):Option (Int×oj):=(pL a0 a1).bind λx1=>if(x1 !=0)=ab then aa (x1,[],[],[],[])else(if al (a2<0)=ab then aa ab else aa (al (a2>=len a0.ae))).bind λx2=>if x2=ab then aa (10,[],[],[],[])else((idx a1.aG a2).bind λx3=>if(!x3)=ab then aa ab else(tf a1 2 a2).bind aa).bind λx5=>if x5=ab then aa (11,[],[],[],[])else(rf a1).bind λx6=>(idx x6.1 a2).bind λx7=>(idx x6.1 a2).bind λx8=>(di x6.1 a2 ai).bind λx9=>aa (0,x9,x6.2)
def ahp:aA D:=⟨236,z1,zv,z4,[],zu,zx,λh=>let g:=h.2.2.2.2.2.2;ZH (qb h) ⟨g.1,g.2.1,g.2.2.1,g.2.2.2.1⟩ g.2.2.2.2⟩
def aAc:CK ahp:=fo [rQ,vS,EO] [.cell 6 65,.tmp 7] (qw (qw (qn (qw (qt 18 3472) (qw (qt 29 3537) .o))) .o) .o) ⟨td,xo,IJ,q0⟩ func236
def ajr(a0:aw)(a1:ax)(a2:Int):Option (Int×Bool):=(pL a0 a1).bind λx1=>if(x1 !=0)=ab then aa (0,ai)else(IU a0 a1 a2).bind aa
def agI:aA D:=⟨273,z1,uO,z4,[],fx,[],λh=>let g:=h.2.2.2.2.2.2;ajr (qb h) ⟨g.1,g.2.1,g.2.2.1,g.2.2.2.1⟩ g.2.2.2.2⟩
def azC:CK agI:=fo [rQ,WQ] [.tmp 6,.tmp 7] .o ⟨td,aii,q0⟩ func273
def ZJ(a0:aw)(a1:ax)(a2:Int)(a3:Int):Option (Int×oj):=(pL a0 a1).bind λx1=>if(x1 !=0)=ab then aa (x1,[],[],[],[])else(if al (a2<0)=ab then aa ab else if al (a2>=len a0.aj)=ab then aa ab else if al (a3<0)=ab then aa ab else aa (al (a3>=a0.aB))).bind λx2=>if x2=ab then aa (10,[],[],[],[])else(JV a0 a1 a3).bind λx3=>(if(!x3.2)=ab then aa ab else(idx a1.aj a2).bind λx4=>aa (x4.State !=2)).bind λx5=>if x5=ab then aa (11,[],[],[],[])else(rf a1).bind λx6=>(ajr a0 a1 a2).bind λx7=>(if x7.2=ab then(xq a0 a1 x7.1).bind λx8=>aa x8.2.1 else aa [a2]).bind λx9=>(idx a1.aj x3.1).bind λbf=>(FW (ax.mk x6.1 x6.2.1 x6.2.2.1 x6.2.2.2) x9 bf).bind λbp=>aa (0,x6.1,bp,x6.2.2)
def aho:aA D:=⟨237,JA,zv,Ym,[],zu,zx,λh=>let g:=h.2.2.2.2.2.2;ZJ (qb h) ⟨g.1,g.2.1,g.2.2.1,g.2.2.2.1⟩ g.2.2.2.2.1 g.2.2.2.2.2⟩
def aAb:CK aho:=fo [rQ,vS,WY,BH,Wv,agI] [.cell 8 65,.tmp 9] (qn (qw (qm (qt 44 3344) .o) (qw (qm (qt 63 4561) .o) (qn (qw (qv (qp ⟨fk,[(14,.one (.h 0 [1]))],[],[5202],6802⟩ .o .o)) .o))))) ⟨td,xo,ajc,EM,agJ,azC,q0⟩ func237
def aaB(a0:cH)(a1:Int):Option (Bool):=(if(a0.Kind==2)=ab then aa (a0.B==a1)else aa ai).bind aa
def age:aA D:=⟨304,Qj,[.lf .bool],[.agg [bE,bn,cg],.one (.rp 3 0 [0])],[],z5,[],λh=>aaB ⟨h.1,h.2.1,h.2.2.1⟩ h.2.2.2⟩
def azf:CK age:=fo [] [.tmp 3] (qw (qt 3 2320) .o) trivial func304
def aor(a0:List cH)(a1:Int):Int->Option (Int⊕Unit⊕Int):=λx1=>if al (x1<len a0)=ab then(idx a0 x1).bind λx2=>(aaB x2 a1).bind λx3=>if x3=ab then aa (.inr (.inr x1))else aa (.inl (W (x1+1)))else aa (.inr (.inl ()))
def Z7(a0:List cH)(a1:Int):Option (Int):=(aJ (aor a0 a1) 0).bind λx4=>dn (λx5=>aa (-1)) (aa) x4
def agf:aA D:=⟨303,[cX,.el 0],z8,[.one (b6),.one (.fn 304 [.rp 1 0 [0]])],[],z5,[],λh=>Z7 h.1 h.2⟩
def azg:CK agf:=fo [age] [.tmp 4] z3 ⟨azf,q0⟩ func303
def aaC(a0:aw)(a1:Int):Option (Int):=(Z7 a0.ae a1).bind aa
def agp:aA D:=⟨292,YJ,z8,[.agg [bE,bU,bL,bX,cD,bQ],zS],[],z5,[],λh=>aaC (qb h) h.2.2.2.2.2.2⟩
def azn:CK agp:=fo [agf] [.tmp 4] .o ⟨azg,q0⟩ func292
def FP(a0:oi)(a1:Int):Option (Bool):=(aaC a0.aR a1).bind λx1=>(idx a0.bh.aG x1).bind λx2=>aa !x2
def Oz:aA D:=⟨274,[.el 31,qi],[.lf .bool],[.one (.rp 0 31 [0]),zT],[],z5,[],λh=>FP h.1 h.2⟩
def Wu:CK Oz:=fo [agp] [.tmp 4] .o ⟨azn,q0⟩ func274
def ant(a1:ax):Int×List bo->Option (Int×List bo⊕List bo):=λx3=>if al (x3.1<len a1.aj)=ab then(idx a1.aj x3.1).bind λx4=>(if(x4.State==2)=ab then(vV (W (x4.bi+W (36*W (x4.aZ-5000))))).bind λx5=>(idx x3.2 x3.1).bind λx6=>(idx x3.2 x3.1).bind λx7=>(di x3.2 x3.1 (bo.mk x7.State x7.gJ x7.aZ x5)).bind aa else aa x3.2).bind λx9=>aa (.inl (W (x3.1+1),x9))else aa (.inr x3.2)
def ZG(a0:aw)(a1:ax):Option (Int×oj):=(pL a0 a1).bind λx1=>if(x1 !=0)=ab then aa (x1,[],[],[],[])else(rf a1).bind λx2=>(aJ (ant a1) (0,x2.2.1)).bind λbf=>aa (0,x2.1,bf,x2.2.2)
def agH:aA D:=⟨275,tz,zv,uP,[],zu,zx,λh=>let g:=h.2.2.2.2.2.2;ZG (qb h) ⟨g.1,g.2.1,g.2.2.1,g.2.2.2⟩⟩
def azB:CK agH:=fo [rQ,vS,EK] [.cell 4 65,.tmp 5] (qv (qw (qw (.loop ⟨zp,[(22,aO)],[(3417,.sl 9 140 1 [])],[3417],4368⟩ ab [(.exit 0,⟨nv,[],[(3417,.sl 9 140 0 [])],[3417],4368⟩)] Yl) .o) .o)) ⟨td,xo,IE,q0⟩ func275
def Gy(a0:Part)(a1:Part):Option (Int):=if(a0.Kind !=a1.Kind)=ab then aa (W (a0.Kind-a1.Kind))else aa (W (a0.Number-a1.Number))
def agF:aA D:=⟨277,o_,z8,Jx,[],z5,[],λh=>Gy ⟨h.1,h.2.1⟩ ⟨h.2.2.1,h.2.2.2⟩⟩
def azz:CK agF:=fo [] [.tmp 4] .o trivial func277
def Rl(a0:List Part)(a1:Part):Int×Int->Option (Int×Int⊕Int):=λx1=>if al (x1.1<x1.2)=ab then(wD 64 (ru IntKind.u64 (W (x1.1+x1.2))) 1).bind λx2=>(idx a0 (W x2)).bind λx3=>(Gy x3 a1).bind λx4=>(if al (x4<0)=ab then aa (W (W x2+1),x1.2)else aa (x1.1,W x2)).bind λx5=>aa (.inl x5)else aa (.inr x1.1)
def KC(a0:List Part)(a1:Part):Option (Int×Bool):=(aJ (Rl a0 a1) (0,len a0)).bind λx6=>(if al (x6<len a0)=ab then(idx a0 x6).bind λx7=>(Gy x7 a1).bind λx8=>aa (x6,x8==0)else aa (x6,ai)).bind aa
def agG:aA D:=⟨276,zr,uO,[.one (b6),.agg [bn,cg],.one (.fn 277 [])],[],fx,[],λh=>KC h.1 ⟨h.2.1,h.2.2⟩⟩
def azA:CK agG:=fo [agF] [.tmp 6,.tmp 7] (qv (qw (qm (.loop ⟨z9,[(9,aO),(10,du)],[],[],3216⟩ ab [(.exit 0,⟨z8,wi,[],[],3216⟩)] (qw (qv (qp ⟨z9,[(9,aO),(10,du)],[],[],5586⟩ .o .o)) .o)) .o) (qm (qr ⟨uO,[(6,aO),(7,du)],[],[],3281⟩) .o))) ⟨azz,q0⟩ func276
