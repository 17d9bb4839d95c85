import Derived.Test.YtncbfgppjfcijaaGreatRt
import Derived.Test.YtncbfgppjfcijaaGreatHc
import Derived.Test.YtncbfgppjfcijaaGreatRg1
import Derived.Test.YtncbfgppjfcijaaGreatRg2
import Derived.Test.YtncbfgppjfcijaaGreatRg4
import Derived.Test.YtncbfgppjfcijaaGreatRg8
set_option linter.unusedVariables false
set_option maxRecDepth 100000
open Sum renaming elim→aqU
noncomputable section
namespace Go.Proofs.YtncbfgppjfcijaaGreat
open Go Go.RowKit Dp
namespace Rx
def O_(a0:Int)(a1:Int):Option (Int×Int):=(if decide (a0<(-1000000000000000000))=true then some true else if decide (a0>1000000000000000000)=true then some true else if decide (a1<1)=true then some true else some (decide (a1>1000000000))).bind fun x1=>if x1=true then some (0,1) else(O' a0 a1).bind fun x2=>some (x2,0)
def Wg:ar D:=⟨84,cP,cP,[.one (.h 0 []),.one (.h 1 []),.one (.fn 85 [])],[],dD,[],fun h=>O_ h.1 h.2⟩
theorem alK:CK Wg:=fo [Wd] [.tmp 6,.tmp 7] IR ⟨alJ,trivial⟩ Tryz.call84 Tryz.func84 rfl rfl
def HX(a0:Int)(a1:Int):Option (Int×Int):=(O_ a0 a1).bind fun x1=>some (x1.1,x1.2)
def W3:ar D:=⟨37,cP,cP,dD,[],dD,[],fun h=>HX h.1 h.2⟩
theorem amt:CK W3:=fo [Wg] [.tmp 4,.tmp 5] .o ⟨alK,trivial⟩ Tryz.call37 Tryz.func37 rfl rfl
def ww(a0:bm)(a1:du):Option (Int×Int):=((ug a0).bind fun x1=>if(!x1)=true then some true else(zG a1).bind fun x2=>some !x2).bind fun x3=>if x3=true then some (0,1) else(HX (W (W (W (a1.X*a1.X)+W (a1.Y*a1.Y))*a0.cY)) 1000).bind fun x4=>some (x4.1,x4.2)
def OS:ar D:=⟨14,Qq,cP,[.agg [.h 0 [],.h 1 [],.h 2 [],.h 3 [],.h 4 [],.h 5 [0]],.agg [.h 6 [],.h 7 []]],[],dD,[],fun h=>ww ⟨h.1,h.2.1,h.2.2.1,h.2.2.2.1,h.2.2.2.2.1,h.2.2.2.2.2.1⟩ ⟨h.2.2.2.2.2.2.1,h.2.2.2.2.2.2.2⟩⟩
theorem YK:CK OS:=fo [Ck,Ov,W3] [.tmp 4,.tmp 5] (.n none .o (.n none (.n none (.r (some (true,[(.normal,⟨[.lf .bool],[(13,.one (.h 0 []))],[],[],2320⟩)])) .nil) .o) .o)) ⟨Hf,W5,amt,trivial⟩ Tryz.call14 Tryz.func14 rfl rfl
def ZE(a0:Int):Int×Int→Option (Int×Int⊕Int):=fun x2=>if decide (x2.1<x2.2)=true then(ny (W (W (x2.1+x2.2)+1)) 2).bind fun x3=>(if decide (W (x3*x3)≤a0)=true then some (x3,x2.2) else some (x2.1,W (x3-1))).bind fun x4=>some (.inl (x4.1,x4.2)) else some (.inr x2.1)
def HY(a0:Int):Option (Int×Int):=(if decide (a0<0)=true then some true else some (decide (a0>1000000000000000000))).bind fun x1=>if x1=true then some (0,1) else(ay (ZE a0) (0,1000000000)).bind fun x5=>some (x5,0)
def WA:ar D:=⟨67,z8,cP,z7,[],dD,[],fun h=>HY h⟩
theorem al3:CK WA:=fo [] [.tmp 2,.tmp 3] (.n none .o (.n none (.n none (.r (some (true,[(.normal,⟨[.lf .bool],[(12,.one (.h 0 []))],[],[],2192⟩)])) .nil) .o) (.n none .o (.n none (.n none (.loop ⟨cP,[(4,.one (.h 0 [])),(5,.one (.h 1 []))],[],[],2385⟩ true [(.exit 0,⟨z8,kQ,[],[],2385⟩)] (.n none .o (.n none (.n none .o (.n none .o (.n (some (true,[(.normal,⟨cP,[(4,.one (.h 0 [])),(5,.one (.h 1 []))],[],[],3347⟩)])) .o .o))) .o))) .o) .o)))) trivial Tryz.call67 Tryz.func67 rfl rfl
def Dy(a0:bm)(a1:Int):Option (Int):=(ww a0 (du.mk a0.Max 0)).bind fun x1=>(if(x1.2 !=0)=true then some true else some (decide (a1<0))).bind fun x2=>if x2=true then some 0 else if decide (a1≥x1.1)=true then some a0.Max else(ny (W (1000*a1)) a0.cY).bind fun x3=>(HY x3).bind fun x4=>some x4.1
def Xb:ar D:=⟨28,IN,z8,IG,[],z7,[],fun h=>Dy ⟨h.1,h.2.1,h.2.2.1,h.2.2.2.1,h.2.2.2.2.1,h.2.2.2.2.2.1⟩ h.2.2.2.2.2.2⟩
theorem amA:CK Xb:=fo [OS,WA] [.tmp 4] (.n none .o (.n none .o (.n none (.n none (.n none (.r (some (true,[(.normal,⟨[.lf .bool],[(17,.one (.h 0 []))],[],[],2832⟩)])) .nil) .o) .o) .o))) ⟨YK,al3,trivial⟩ Tryz.call28 Tryz.func28 rfl rfl
def Kx(a0:gu)(a1:aj)(a2:ae):Int×List Int→Option (Int×List Int⊕List Int):=fun x4=>if decide (x4.1<len a0.bN)=true then(idx a0.bN x4.1).bind fun x5=>(zY a1.ai x4.1).bind fun x6=>(if decide (x6≥0)=true then(Ec a1 a2 x6).bind some else some false).bind fun x8=>(if x8=true then(idx a2.aE x6).bind fun x9=>(Dy x5 x9).bind fun aH=>(idx x4.2 x4.1).bind fun aN=>(idx x4.2 x4.1).bind fun aM=>(cm x4.2 x4.1 aH).bind some else some x4.2).bind fun bO=>some (.inl (W (x4.1+1),bO)) else some (.inr x4.2)
def EU(a0:gu)(a1:aj)(a2:ae):Option (Int×List Int):=(rE a0).bind fun x1=>if(x1 !=0)=true then some (x1,[]) else(lB a1 a2).bind fun x2=>if(x2 !=0)=true then some (x2,[]) else(jC 0 (len a0.bN)).bind fun x3=>(ay (Kx a0 a1 a2) (0,x3)).bind fun aS=>some (0,aS)
def Hw:ar D:=⟨11,[.lf (.int .i64),.lf (.int .i64),.lf (.sl 22),.lf (.int .i64),.lf (.sl 5),.lf (.sl 6),.lf (.sl 7),.lf (.int .i64),.lf (.int .i64),.lf (.sl 1),.lf (.sl 10),.lf (.sl 0),.lf (.sl 11)],iu,[.agg [.h 0 [],.h 1 [],.h 2 [0]],.agg [.h 3 [],.h 4 [0],.h 5 [0],.h 6 [0],.h 7 [],.h 8 []],.agg [.h 9 [0],.h 10 [0],.h 11 [0],.h 12 [0]]],[],[.one (.own 1000),.one (.h 0 [])],tU,fun h=>let g:=h.2.2.2.2.2.2;EU ⟨h.1,h.2.1,h.2.2.1⟩ ⟨h.2.2.2.1,h.2.2.2.2.1,h.2.2.2.2.2.1,g.1,g.2.1,g.2.2.1⟩ ⟨g.2.2.2.1,g.2.2.2.2.1,g.2.2.2.2.2.1,g.2.2.2.2.2.2⟩⟩
theorem aov:CK Hw:=fo [OO,Hg,gn,Xd,Xb] [.tmp 6,.tmp 7] (.n none .o (.n none .o (.n none .o (.n none .o (.n none (.n none .o (.n none (.loop ⟨iu,[(32,.one (.h 0 []))],[(3216,.sl 0 3 1 [])],[3216],3664⟩ true [(.exit 0,⟨dC,[],[(3216,.sl 0 3 0 [])],[3216],3664⟩)] (.n none .o (.n none .o (.n none (.n none (.n none .o (.n none .o (.n none (.r (some (true,[(.normal,⟨[.lf .bool],[(44,.one (.any)),(45,.one (.any)),(46,.one (.any)),(47,.one (.any)),(48,.one (.h 0 []))],[],[],4562⟩)])) .nil) (.n (some (true,[(.normal,⟨dC,[],[(3216,.sl 0 3 0 [])],[3216],4627⟩)])) .o .o)))) .o) .o)))) .o)) .o))))) ⟨YC,Ox,kK,amC,amA,trivial⟩ Tryz.call11 Tryz.func11 rfl rfl
def Il(a0:Src):Option (Int×Int×Int×List Int×Int):=(mu a0 (-60) 60).bind fun x1=>(mu (Src.mk x1.2.1 x1.2.2) (-50) 50).bind fun x2=>(mu (Src.mk x2.2.1 x2.2.2) (-50) 50).bind fun x3=>some (x1.1,x2.1,x3.1,x3.2.1,x3.2.2)
def Y5:ar D:=⟨13,qm,[.lf (.int .i64),.lf (.int .i64),.lf (.int .i64),.lf (.sl 0),.lf (.int .i64)],lF,qn,rz,[(1000,.box [.h 3 [0],.h 4 []])],fun h=>Il ⟨h.1,h.2⟩⟩
theorem aoa:CK Y5:=fo [yQ] [.cell 2 57] .o ⟨Cm,trivial⟩ Tryz.call13 Tryz.func13 rfl rfl
def Pc(a0:Int)(a1:Int)(a2:Int):Option (Bool):=(if decide (a0<a1)=true then some true else some (decide (a0>a2))).bind some
def Y3:ar D:=⟨131,[.lf (.int .i64),.el 0,.el 0],[.lf .bool],[.one (.h 0 []),.one (.rp 1 0 [0]),.one (.rp 2 0 [0])],[],z7,[],fun h=>Pc h.1 h.2.1 h.2.2⟩
theorem aoj:CK Y3:=fo [] [.tmp 4] Qe trivial Tryz.call131 Tryz.func131 rfl rfl
def zU(a0:List Int)(a1:Int)(a2:Int):Int→Option (Int⊕Unit⊕Int):=fun x1=>if decide (x1<len a0)=true then(idx a0 x1).bind fun x2=>(Pc x2 a1 a2).bind fun x3=>if x3=true then some (.inr (.inr x1)) else some (.inl (W (x1+1))) else some (.inr (.inl ()))
def Jv(a0:List Int)(a1:Int)(a2:Int):Option (Int):=(ay (zU a0 a1 a2) 0).bind fun x4=>aqU (fun x5=>some (-1)) (some) x4
def V_:ar D:=⟨90,[.lf (.sl 0),.el 0,.el 0],z8,[.one (.h 0 [0]),.one (.fn 131 [.rp 1 0 [0],.rp 2 0 [0]])],[],z7,[],fun h=>Jv h.1 h.2.1 h.2.2⟩
theorem alF:CK V_:=fo [Y3] [.tmp 4] z3 ⟨aoj,trivial⟩ Tryz.call90 Tryz.func90 rfl rfl
def JI(a0:List Int)(a1:Int)(a2:Int):Option (Bool):=(Jv a0 a1 a2).bind fun x1=>some (decide (x1≥0))
def W2:ar D:=⟨41,[.lf (.sl 0),.el 0,.el 0],[.lf .bool],[.one (.h 0 [0]),.one (.fn 131 [.rp 1 0 [0],.rp 2 0 [0]])],[],z7,[],fun h=>JI h.1 h.2.1 h.2.2⟩
theorem amr:CK W2:=fo [V_] [.tmp 4] .o ⟨alF,trivial⟩ Tryz.call41 Tryz.func41 rfl rfl
def tB(a0:List Int)(a1:Int)(a2:Int):Option (Bool):=(JI a0 a1 a2).bind fun x1=>some !x1
def Om:ar D:=⟨69,[.lf (.sl 0),.lf (.int .i64),.lf (.int .i64)],[.lf .bool],[.one (.h 0 [0]),.one (.h 1 []),.one (.h 2 [])],[],z7,[],fun h=>tB h.1 h.2.1 h.2.2⟩
theorem Wy:CK Om:=fo [W2] [.tmp 6] .o ⟨amr,trivial⟩ Tryz.call69 Tryz.func69 rfl rfl
def JP(a0:List eO):Option (List eO):=bq [] a0
def X5:ar D:=⟨200,[.lf (.sl 23)],[.lf (.sl 23)],lE,[],jc,[(1000,.sl 23 141 0 [])],fun h=>JP h⟩
theorem ans:CK X5:=by
 refine⟨Tryz.call200,rfl,rfl,rfl,rfl,fun ko r0 jm dA di has j_ γ w vs hv _=> ?_⟩
 cases has
 match vs,hv with
 |[],hv=>exact hv.elim
 |_::_::_,hv=>exact hv.2.elim
 |[v],hv=>
 obtain⟨xs,dj⟩:∃xs:List (D 23),xs=ko:=⟨_,rfl⟩
 obtain⟨r,fR⟩:∃r:List (D 23),r=r0:=⟨_,rfl⟩
 have g0:Rv (In γ.o [0]) w v xs:=by rw[dj];exact hv.1.1
 have hr:bq ([]:List (D 23)) xs=some r:=by rw[dj,fR];exact jm
 subst fR
 have hT:=zN.2
 refine enter (l:=[v]) Tryz.func200 rfl Tryz.ntmps200 rfl ?_
 refine CW.sub (L':=[(0,v)]) ⟨rfl,trivial⟩ ?_
 refine CW.sr fun K1 fc=> ?_
 refine WL.p (.slice none 0 0) rfl rfl ?_
 refine WL.nx fc ?_
 refine CW.seq fun K2 fU=> ?_
 refine CW.sr fun K3 iX=> ?_
 refine WL.p v rfl rfl ?_
 obtain⟨a,m,q,rfl,hn⟩:=ui g0
 refine WL.gC (OW.isNil zN.1 rfl) rfl ?_
 refine WL.nx iX ?_
 cases a with
 |none=>
  refine CW.cond (b:=true) rfl (fun _=> ?_) (fun h=>nomatch h)
  refine CW.sr fun K4 jJ=> ?_
  refine WL.p (.slice none 0 0) rfl rfl ?_
  refine WL.nx jJ ?_
  rw[hn rfl] at hr
  obtain rfl:=vX hr
  exact CW.jg (vs:=[.slice none 0 0]) Tryz.results200 ⟨rfl,trivial⟩ ⟨_,rfl,mc (n:=23) (e:=141) (q:=1000) (K:=[]) (M:=[]) (N:=[]) rfl rfl rfl (by simp) (by simp) (ba.refl _ _ γ.o w) (Ow.nil _ _ _ _ _) (fun x hx=>by simp at hx<;>omega)⟩ (fun _ _ h=>h)
 |some a=>
  refine CW.cond (b:=false) rfl (fun h=>nomatch h) (fun _=> ?_)
  refine CW.skip ?_
  refine fU _ _ ?_
  refine CW.sr fun K5 ki=> ?_
  refine WL.step (OW.buildSlice (o:=γ.o) (k:=1000) (K:=[]) (xs:=([]:List (D 23))) zN.1 hT rfl trivial rfl rfl) rfl ?_
  rintro v1 w1 ⟨o1,g9,h1⟩
  have g0:=g0.m9 g9 rfl
  refine WL.p (.slice (some a) m q) rfl rfl ?_
  refine WL.step (OW.append (K:=[]) zN.1 hT rfl rfl h1 (@dM.flat (D 23) _ akn _ _ _ _ _ g0.bS) hr rfl) rfl ?_
  rintro v2 w2 ⟨o2,da,h2⟩
  refine WL.p v2 rfl rfl ?_
  refine WL.nx ki ?_
  exact CW.jg (vs:=[v2]) Tryz.results200 ⟨rfl,trivial⟩ ⟨_,rfl,mc (n:=23) (e:=141) (q:=1000) (K:=[]) (M:=[1000]) (N:=[1000]) rfl rfl rfl (by simp) (by simp) ((g9.weaken (by simp) (by simp)).trans da) h2 (fun x hx=>by simp at hx<;>omega)⟩ (fun _ _ h=>h)
def Jb(a0:bm)(a1:Int):Option (Int×Int×Int×Int×Int×List eO):=(JP a0.km).bind fun x1=>some (a0.Kind,a0.nW,dx a0.Max (imax a1 0),a0.qg,a0.cY,x1)
def Y4:ar D:=⟨130,IN,Db,IG,[],[.agg [.h 0 [],.h 1 [],.h 2 [],.h 3 [],.h 4 [],.own 1000]],[(1000,.sl 23 141 5 [])],fun h=>Jb ⟨h.1,h.2.1,h.2.2.1,h.2.2.2.1,h.2.2.2.2.1,h.2.2.2.2.2.1⟩ h.2.2.2.2.2.2⟩
theorem aok:CK Y4:=fo [X5] [.cell 4 69] .o ⟨ans,trivial⟩ Tryz.call130 Tryz.func130 rfl rfl
def Pg(a0:gu)(a1:List Int):Int×List du×List bm→Option (Int×List du×List bm⊕List du×List bm):=fun x6=>if decide (x6.1<len a0.bN)=true then(idx a0.bN x6.1).bind fun x7=>(idx a1 x6.1).bind fun x8=>(Jb x7 x8).bind fun x9=>(bq x6.2.2 [bm.mk x9.1 x9.2.1 x9.2.2.1 x9.2.2.2.1 x9.2.2.2.2.1 x9.2.2.2.2.2]).bind fun aH=>some (.inl (W (x6.1+1),x6.2.1,aH)) else some (.inr (x6.2.1,x6.2.2))
def Pf(a2:List du)(a3:List Int):Int→Option (Int⊕Unit⊕List du×Int×List Int×List bm):=fun aM=>if decide (aM<len a2)=true then(idx a2 aM).bind fun aY=>(tB [aY.X,aY.Y] (-5000) 5000).bind fun bO=>if(!bO)=true then some (.inr (.inr ([],1,a3,[]))) else some (.inl (W (aM+1))) else some (.inr (.inl ()))
def H7(a0:gu)(a1:List Int)(a2:List du)(a3:List Int):Option (List du×Int×List Int×List bm):=(rE a0).bind fun x1=>if(x1 !=0)=true then(rE a0).bind fun cK=>some ([],cK,a3,[]) else(if(len a1 !=len a0.bN)=true then some true else if decide (len a2>0)=true then if(len a2 !=len a0.bN)=true then some true else some (len a3 !=len a0.bN) else some (len a3 !=len a0.bN)).bind fun x2=>if x2=true then some ([],8,a3,[]) else((tB a1 0 5000).bind fun x3=>if(!x3)=true then some true else(tB a3 (-5000) 5000).bind fun x4=>some !x4).bind fun x5=>if x5=true then some ([],1,a3,[]) else(ay (Pg a0 a1) (0,a2,[])).bind fun aN=>(ay (Pf a2 a3) 0).bind fun aS=>aqU (fun bj=>some (aN.1,0,a3,aN.2)) (some) aS
def Wz:ar D:=⟨68,[.lf (.int .i64),.lf (.int .i64),.lf (.sl 22),.lf (.sl 0),.lf (.sl 24),.lf (.sl 0)],[.lf (.sl 24),.lf (.int .i64),.lf (.sl 0),.lf (.sl 22)],[.agg [.h 0 [],.h 1 [],.h 2 [0]],.one (.h 3 [0]),.one (.h 4 [0]),.one (.own 1000)],[(1000,.sl 0 3 5 [])],[.agg [.own 1001,.h 0 [0]],.one (.h 1 [])],[(1000,.sl 0 3 2 []),(1001,.sl 22 69 3 [1])],fun h=>H7 ⟨h.1,h.2.1,h.2.2.1⟩ h.2.2.2.1 h.2.2.2.2.1 h.2.2.2.2.2⟩
theorem al2:CK Wz:=fo [Hg,Om,Y4] [.cell 8 103,.tmp 9] (.n none .o (.n none .o (.n none (.n none (.n none .o (.n none .o (.n none (.r (some (true,[(.normal,⟨[.lf .bool],[(26,.one (.h 0 []))],[],[],2768⟩)])) .nil) (.n none .o (.n none (.r (some (true,[(.normal,⟨[.lf .bool],[(49,.one (.h 0 []))],[],[],2833⟩)])) .nil) .o))))) .o) (.n none .o (.n none (.n none .o (.n none (.loop ⟨[.lf (.int .i64),.lf (.sl 24),.lf (.sl 22)],[(64,.one (.h 0 []))],[(2962,.box [.own 3346,.h 1 [0]]),(3346,.sl 22 69 2 [1])],[2962],3410⟩ true [(.exit 1,⟨[.lf (.sl 24),.lf (.sl 22)],[],[(2962,.box [.own 3346,.h 0 [0]]),(3346,.sl 22 69 1 [1])],[2962],3410⟩)] .o) .o)) (.n none (.n none .o (.n none (.loop ⟨z8,[(83,.one (.h 0 []))],[(2064,.box [.bi,.bi])],[2064],3668⟩ false [(.exit 3,⟨[],[],[(2064,.box [.bi,.bi])],[2064],3668⟩)] .o) .o)) .o)))))) ⟨Ox,Wy,aok,trivial⟩ Tryz.call68 Tryz.func68 rfl rfl
def Pd(a0:gu)(a1:List Int)(a2:List du)(a3:ja):Option (List du×Int×List bm):=(jC 0 (len a0.bN)).bind fun x1=>(H7 a0 a1 a2 x1).bind fun x2=>(if(x2.2.1==0)=true then(tB [a3.ms,a3.gz,a3.fZ] (-500000) 500000).bind fun x3=>some !x3 else some false).bind fun x4=>(if x4=true then some 1 else some x2.2.1).bind fun x5=>some (x2.1,x5,x2.2.2.2)
def Xa:ar D:=⟨29,Qo,[.lf (.sl 24),.lf (.int .i64),.lf (.sl 22)],Qg,[],[.agg [.own 1000,.h 0 [0]],.one (.h 1 [])],[(1000,.sl 22 69 2 [1])],fun h=>Pd ⟨h.1,h.2.1,h.2.2.1⟩ h.2.2.2.1 h.2.2.2.2.1 ⟨h.2.2.2.2.2.1,h.2.2.2.2.2.2.1,h.2.2.2.2.2.2.2⟩⟩
theorem amz:CK Xa:=fo [Wz,Om] [.cell 8 103,.tmp 9] (.n none .o (.n none .o (.n none (.n none (.r (some (true,[(.normal,⟨[.lf .bool],[(35,.one (.h 0 []))],[],[],3216⟩)])) .nil) (.n (some (true,[(.normal,⟨z8,tV,[],[],3281⟩)])) .o .o)) .o))) ⟨al2,Wy,trivial⟩ Tryz.call29 Tryz.func29 rfl rfl
def y_(a0:Int)(a1:Int):Option (Bool):=(if decide (imax a0 a1≤1000000000)=true then some (decide (dx a0 a1≥(-1000000000))) else some false).bind some
def OD:ar D:=⟨235,cP,[.lf .bool],dD,[],z7,[],fun h=>y_ h.1 h.2⟩
theorem Xv:CK OD:=fo [] [.tmp 4] Qe trivial Tryz.call235 Tryz.func235 rfl rfl
def Pa(a0:Int)(a1:Int):Option (Int):=(tz (W (W (2*a0)+a1)) (W (2*a1))).bind some
def Xf:ar D:=⟨257,cP,z8,dD,[],z7,[],fun h=>Pa h.1 h.2⟩
theorem amE:CK Xf:=fo [Ha] [.tmp 4] .o ⟨Oh,trivial⟩ Tryz.call257 Tryz.func257 rfl rfl
def O9(a0:Int)(a1:Int):Option (Int×Int):=(if decide (a0<(-1000000000000000000))=true then some true else if decide (a0>1000000000000000000)=true then some true else if decide (a1<1)=true then some true else some (decide (a1>1000000000))).bind fun x1=>if x1=true then some (0,1) else(Pa a0 a1).bind fun x2=>some (x2,0)
def Wf:ar D:=⟨84,cP,cP,[.one (.h 0 []),.one (.h 1 []),.one (.fn 257 [])],[],dD,[],fun h=>O9 h.1 h.2⟩
theorem alM:CK Wf:=fo [Xf] [.tmp 6,.tmp 7] IR ⟨amE,trivial⟩ Tryz.call84 Tryz.func84 rfl rfl
def HZ(a0:Int)(a1:Int):Option (Int×Int):=(O9 a0 a1).bind fun x1=>some (x1.1,x1.2)
def Xi:ar D:=⟨252,cP,cP,dD,[],dD,[],fun h=>HZ h.1 h.2⟩
theorem amH:CK Xi:=fo [Wf] [.tmp 4,.tmp 5] .o ⟨alM,trivial⟩ Tryz.call252 Tryz.func252 rfl rfl
def zb(a0:Int):Option (Int):=(nV a0).bind fun x1=>(if decide (x1>1800)=true then some (W (x1-1800),(-1)) else some (x1,1)).bind fun x2=>(HZ (W (40000*W (x2.1*W (1800-x2.1)))) (W (4050000-W (x2.1*W (1800-x2.1))))).bind fun x3=>some (W (x2.2*x3.1))
def Hj:ar D:=⟨238,z8,z8,z7,[],z7,[],fun h=>zb h⟩
theorem OA:CK Hj:=fo [yN,Xi] [.tmp 2] (.n none .o (.n none .o (.n none .o (.n none (.n none .o (.n (some (true,[(.normal,⟨cP,[(0,.one (.h 0 [])),(3,.one (.h 1 []))],[],[],2512⟩)])) .o .o)) .o)))) ⟨Cl,amH,trivial⟩ Tryz.call238 Tryz.func238 rfl rfl
def CU(a0:Int):Option (Int):=(nV a0).bind fun x1=>(zb (W (x1+900))).bind some
def OC:ar D:=⟨237,z8,z8,z7,[],z7,[],fun h=>CU h⟩
theorem Xt:CK OC:=fo [yN,Hj] [.tmp 2] .o ⟨Cl,OA,trivial⟩ Tryz.call237 Tryz.func237 rfl rfl
def CT(a0:Int)(a1:Int)(a2:Int):Option (Int):=(y_ a1 a2).bind fun x1=>if(!x1)=true then some 0 else(CU a0).bind fun x2=>(zb a0).bind fun x3=>some (W (W (x2*a2)-W (x3*a1)))
def Xu:ar D:=⟨236,mA,z8,tM,[],z7,[],fun h=>CT h.1 h.2.1 h.2.2⟩
theorem amS:CK Xu:=fo [OD,OC,Hj] [.tmp 6] .o ⟨Xv,Xt,OA,trivial⟩ Tryz.call236 Tryz.func236 rfl rfl
def H4(a0:eO)(a1:Int)(a2:Int):Option (Bool):=((qd a0).bind fun x1=>if(!x1)=true then some true else if(a1==0)=true then if(a2==0)=true then some true else(y_ a1 a2).bind fun x3=>some !x3 else(y_ a1 a2).bind fun x2=>some !x2).bind fun x4=>if x4=true then some false else(CT a0.tI a1 a2).bind fun x5=>(if decide (x5>0)=true then some true else(CU a0.tI).bind fun x6=>(zb a0.tI).bind fun x7=>some (decide (W (W (x6*a1)+W (x7*a2))>0))).bind fun x8=>(if decide (x5≥0)=true then(CT a0.To a1 a2).bind fun x9=>if decide (x9≤0)=true then some x8 else some false else some false).bind some
def X3:ar D:=⟨202,qo,[.lf .bool],[.agg [.h 0 [],.h 1 []],.one (.h 2 []),.one (.h 3 [])],[],z7,[],fun h=>H4 ⟨h.1,h.2.1⟩ h.2.2.1 h.2.2.2⟩
theorem anq:CK X3:=fo [Oi,OD,Xu,OC,Hj] [.tmp 6] (.n none .o (.n none (.n none (.r (some (true,[(.normal,⟨[.lf .bool],[(25,.one (.h 0 []))],[],[],2192⟩)])) .nil) .o) (.n none .o (.n none (.r (some (true,[(.normal,⟨[.lf .bool],n9,[],[],2641⟩)])) .nil) (.n none (.r (some (true,[(.normal,⟨[.lf .bool],lG,[],[],2706⟩)])) .nil) .o))))) ⟨Wh,Xv,amS,Xt,OA,trivial⟩ Tryz.call202 Tryz.func202 rfl rfl
def J_(a0:eO)(a1:Int)(a2:Int):Option (Bool):=(H4 a0 a1 a2).bind some
def X4:ar D:=⟨201,[.lf (.int .i64),.lf (.int .i64),.el 0,.el 0],[.lf .bool],[.agg [.h 0 [],.h 1 []],.one (.rp 2 0 [0]),.one (.rp 3 0 [0])],[],z7,[],fun h=>J_ ⟨h.1,h.2.1⟩ h.2.2.1 h.2.2.2⟩
theorem anr:CK X4:=fo [X3] [.tmp 4] .o ⟨anq,trivial⟩ Tryz.call201 Tryz.func201 rfl rfl
def JF(a0:List eO)(a1:Int)(a2:Int):Int→Option (Int⊕Unit⊕Int):=fun x1=>if decide (x1<len a0)=true then(idx a0 x1).bind fun x2=>(J_ x2 a1 a2).bind fun x3=>if x3=true then some (.inr (.inr x1)) else some (.inl (W (x1+1))) else some (.inr (.inl ()))
def JG(a0:List eO)(a1:Int)(a2:Int):Option (Int):=(ay (JF a0 a1 a2) 0).bind fun x4=>aqU (fun x5=>some (-1)) (some) x4
def YU:ar D:=⟨138,[.lf (.sl 23),.el 0,.el 0],z8,[.one (.h 0 [0]),.one (.fn 201 [.rp 1 0 [0],.rp 2 0 [0]])],[],z7,[],fun h=>JG h.1 h.2.1 h.2.2⟩
theorem aod:CK YU:=fo [X4] [.tmp 4] z3 ⟨anr,trivial⟩ Tryz.call138 Tryz.func138 rfl rfl
def JK(a0:List eO)(a1:Int)(a2:Int):Option (Bool):=(JG a0 a1 a2).bind fun x1=>some (decide (x1≥0))
def Wj:ar D:=⟨81,[.lf (.sl 23),.el 0,.el 0],[.lf .bool],[.one (.h 0 [0]),.one (.fn 201 [.rp 1 0 [0],.rp 2 0 [0]])],[],z7,[],fun h=>JK h.1 h.2.1 h.2.2⟩
theorem alP:CK Wj:=fo [YU] [.tmp 4] .o ⟨aod,trivial⟩ Tryz.call81 Tryz.func81 rfl rfl
def Ah(a0:bm)(a1:Int)(a2:Int):Option (Bool):=(if decide (imax a1 a2>a0.Max)=true then some true else if decide (dx a1 a2<W (-a0.Max))=true then some true else if decide (W (W (a1*a1)+W (a2*a2))>W (a0.Max*a0.Max))=true then some true else if(a0.Kind==1)=true then if(a1 !=0)=true then some true else if(a0.Kind==2)=true then some (a2 !=0) else some false else if(a0.Kind==2)=true then some (a2 !=0) else some false).bind fun x1=>if x1=true then some false else(JK a0.km a1 a2).bind fun x2=>some !x2
def OU:ar D:=⟨135,Qq,[.lf .bool],[.agg [.h 0 [],.h 1 [],.h 2 [],.h 3 [],.h 4 [],.h 5 [0]],.one (.h 6 []),.one (.h 7 [])],[],z7,[],fun h=>Ah ⟨h.1,h.2.1,h.2.2.1,h.2.2.2.1,h.2.2.2.2.1,h.2.2.2.2.2.1⟩ h.2.2.2.2.2.2.1 h.2.2.2.2.2.2.2⟩
theorem YY:CK OU:=fo [Wj] [.tmp 6] (.n none .o (.n none (.n none (.r (some (true,[(.normal,⟨[.lf .bool],[(54,.one (.h 0 []))],[],[],2320⟩)])) .nil) .o) .o)) ⟨alP,trivial⟩ Tryz.call135 Tryz.func135 rfl rfl
def wW(a0:Int)(a1:bm):Option (Bool):=(Ah a1 0 a0).bind some
def YZ:ar D:=⟨134,[.lf (.int .i64),.el 22],[.lf .bool],[.one (.h 0 []),.one (.rp 1 22 [0])],[],z7,[],fun h=>wW h.1 h.2⟩
theorem aof:CK YZ:=fo [OU] [.tmp 3] .o ⟨YY,trivial⟩ Tryz.call134 Tryz.func134 rfl rfl
def Rr(a0:bm):Int→Option (Int⊕Int):=fun x2=>(wW (W (x2-1)) a0).bind fun x3=>if x3=true then some (.inl (W (x2-1))) else some (.inr x2)
def Rq(a0:bm):Int→Option (Int⊕Int):=fun x5=>(wW (W (x5+1)) a0).bind fun x6=>if x6=true then some (.inl (W (x5+1))) else some (.inr x5)
def J9(a0:bm):Option (Int×Int):=(wW 0 a0).bind fun x1=>if(!x1)=true then some (0,0) else(ay (Rr a0) 0).bind fun x4=>(ay (Rq a0) 0).bind fun x7=>some (x4,x7)
def Y1:ar D:=⟨133,[.el 22],cP,[.one (.fn 134 [.rp 0 22 [0]])],[],dD,[],fun h=>J9 h⟩
theorem aog:CK Y1:=fo [YZ] [.tmp 2,.tmp 3] Qa ⟨aof,trivial⟩ Tryz.call133 Tryz.func133 rfl rfl
def Eo(a0:bm):Option (Int×Int):=(ug a0).bind fun x1=>if(!x1)=true then some (0,0) else(J9 a0).bind fun x2=>some (x2.1,x2.2)
def Ws:ar D:=⟨75,Db,cP,I4,[],dD,[],fun h=>Eo ⟨h.1,h.2.1,h.2.2.1,h.2.2.2.1,h.2.2.2.2.1,h.2.2.2.2.2⟩⟩
theorem alX:CK Ws:=fo [Ck,Y1] [.tmp 2,.tmp 3] .o ⟨Hf,aog,trivial⟩ Tryz.call75 Tryz.func75 rfl rfl
def ZM(a0:du):Option (Int):=some a0.Y
def Wo:ar D:=⟨77,cP,z8,tW,[],z7,[],fun h=>ZM ⟨h.1,h.2⟩⟩
theorem alU:CK Wo:=fo [] [.tmp 2] .o trivial Tryz.call77 Tryz.func77 rfl rfl
def Ka(a0:Int)(a1:Int)(a2:Int)(a3:Int):Option (Int×Int):=(if decide (imax (imax (imax a0 a1) a2) a3>1000000000)=true then some true else if decide (dx (dx a0 a1) a2<(-1000000000))=true then some true else if decide (a0>a1)=true then some true else some (decide (a3<0))).bind fun x1=>if x1=true then some (a0,a1) else if decide (imax a0 (W (a2-a3))≤dx a1 (W (a2+a3)))=true then some (imax a0 (W (a2-a3)),dx a1 (W (a2+a3))) else if decide (a2<a0)=true then some (a0,a0) else some (a1,a1)
def OT:ar D:=⟨136,qo,cP,[.one (.h 0 []),.one (.h 1 []),.one (.h 2 []),.one (.h 3 [])],[],dD,[],fun h=>Ka h.1 h.2.1 h.2.2.1 h.2.2.2⟩
theorem YX:CK OT:=fo [] [.tmp 8,.tmp 9] (.n none .o (.n none (.n none (.r (some (true,[(.normal,⟨[.lf .bool],[(33,.one (.h 0 []))],[],[],2192⟩)])) .nil) .o) .o)) trivial Tryz.call136 Tryz.func136 rfl rfl
def KT(a0:kX)(a1:Int)(a2:Int)(a3:Int):Option (Int×Int×Int):=(idx a0.qv a1).bind fun x1=>(if decide (len a0.last>0)=true then(idx a0.last a1).bind fun x2=>(ZM x2).bind fun x3=>(Ka a2 a3 x3 x1.qg).bind fun x4=>some (x4.1,x4.2) else some (a2,a3)).bind fun x5=>some (x5.1,x5.2,x1.cY)
def Wr:ar D:=⟨76,[.lf (.sl 22),.lf (.sl 24),.lf (.int .i64),.lf (.int .i64),.lf (.int .i64)],mA,[.agg [.h 0 [0],.h 1 [0]],.one (.h 2 []),.one (.h 3 []),.one (.h 4 []),.one (.fn 77 [])],[],rz,[],fun h=>KT ⟨h.1,h.2.1⟩ h.2.2.1 h.2.2.2.1 h.2.2.2.2⟩
theorem alV:CK Wr:=fo [Wo,OT] [.cell 10 161] PR ⟨alU,YX,trivial⟩ Tryz.call76 Tryz.func76 rfl rfl
def KU(a0:kX)(a1:Int):Int×List dH→Option (Int×List dH⊕List dH):=fun x1=>if decide (x1.1<len a0.qv)=true then((idx a0.qv x1.1).bind fun x2=>if(x2.nW !=a1)=true then(bq x1.2 [dH.mk 0 0 x2.cY]).bind some else(Eo x2).bind fun x3=>(KT a0 x1.1 x3.1 x3.2).bind fun x4=>(bq x1.2 [dH.mk x4.1 x4.2.1 x4.2.2]).bind some).bind fun x7=>some (.inl (W (x1.1+1),x7)) else some (.inr x1.2)
def AU(a0:kX)(a1:Int):Option (List dH):=(ay (KU a0 a1) (0,[])).bind some
def W9:ar D:=⟨31,[.lf (.sl 22),.lf (.sl 24),.lf (.int .i64)],[.lf (.sl 28)],[.agg [.h 0 [0],.h 1 [0]],.one (.h 2 [])],[],jc,[(1000,.sl 28 161 0 [])],fun h=>AU ⟨h.1,h.2.1⟩ h.2.2⟩
theorem amx:CK W9:=fo [Ws,Wr] [.tmp 4] (.n none .o (.n none .o (.n none (.n none .o (.n none (.loop Qm true [(.exit 0,⟨[.lf (.sl 28)],[(5,.one (.own 2448))],[(2448,.sl 28 161 0 [])],[],2512⟩)] (.n none .o (.n none .o (.n none (.n (some (true,[(.normal,⟨[.lf (.sl 28)],[(5,.one (.own 2578))],[(2578,.sl 28 161 0 [])],[2448],2642⟩)])) .o .o) .o)))) .o)) .o))) ⟨alX,alV,trivial⟩ Tryz.call31 Tryz.func31 rfl rfl
def Af(a0:List dH):Int→Option (Int⊕Unit⊕Int):=fun x1=>if decide (x1<len a0)=true then(idx a0 x1).bind fun x2=>(if decide (x2.eY<(-5000))=true then some true else if decide (x2.eY>x2.eD)=true then some true else if decide (x2.eD>5000)=true then some true else if decide (x2.cY<1)=true then some true else some (decide (x2.cY>100))).bind fun x3=>if x3=true then some (.inr (.inr 1)) else some (.inl (W (x1+1))) else some (.inr (.inl ()))
def Eg(a0:List dH):Option (Int):=if decide (len a0>8)=true then some 2 else(ay (Af a0) 0).bind fun x4=>aqU (fun x5=>some 0) (some) x4
def Y2:ar D:=⟨132,[.lf (.sl 28)],z8,lE,[],z7,[],fun h=>Eg h⟩
theorem aoi:CK Y2:=fo [] [.tmp 2] (.n none .o (.n none .o (.n none (.n none .o (.n none (.loop ⟨z8,tT,[],[],2512⟩ false [(.exit 0,⟨[],[],[],[],2512⟩)] (.n none .o (.n none .o (.n none (.n none (.n none .o (.n none (.r (some (true,[(.normal,⟨[.lf .bool],[(18,.one (.any)),(19,.one (.any)),(20,.one (.any)),(21,.one (.any)),(22,.one (.any)),(25,.one (.any)),(26,.one (.any)),(27,.one (.any)),(30,.one (.any)),(31,.one (.any)),(32,.one (.any)),(35,.one (.any)),(36,.one (.any)),(37,.one (.any)),(38,.one (.h 0 []))],[],[],2897⟩)])) .nil) .o)) .o) .o)))) .o)) .o))) trivial Tryz.call132 Tryz.func132 rfl rfl
def J2(a0:List dH):Int×Int×Int→Option (Int×Int×Int⊕Int×Int):=fun x2=>if decide (x2.2.2<len a0)=true then(idx a0 x2.2.2).bind fun x3=>some (.inl (W (x2.1+x3.eY),W (x2.2.1+x3.eD),W (x2.2.2+1))) else some (.inr (x2.1,x2.2.1))
def Eh(a0:List dH):Option (Int×Int×Int):=(Eg a0).bind fun x1=>if(x1 !=0)=true then some (0,0,x1) else(ay (J2 a0) (0,0,0)).bind fun x4=>some (x4.1,x4.2,0)
def Wx:ar D:=⟨70,[.lf (.sl 28)],mA,lE,[],tM,[],fun h=>Eh h⟩
theorem al0:CK Wx:=fo [Y2] [.tmp 2,.tmp 3,.tmp 4] (.n none .o (.n none .o (.n none (.n none .o (.n none (.loop ⟨mA,[(2,.one (.h 0 [])),(3,.one (.h 1 [])),(15,.one (.h 2 []))],[],[],2768⟩ true [(.exit 0,⟨cP,[(2,.one (.h 0 [])),(3,.one (.h 1 []))],[],[],2768⟩)] .o) .o)) .o))) ⟨aoi,trivial⟩ Tryz.call70 Tryz.func70 rfl rfl
def CS(a0:Int)(a1:Int)(a2:Int):Option (Int):=some (imax a1 (dx a0 a2))
def Ol:ar D:=⟨71,mA,z8,tM,[],z7,[],fun h=>CS h.1 h.2.1 h.2.2⟩
theorem Ww:CK Ol:=fo [] [.tmp 6] .o trivial Tryz.call71 Tryz.func71 rfl rfl
def HW(a0:Int)(a1:Int):Option (Int×Int):=(if decide (a0<(-1000000000000000000))=true then some true else if decide (a0>1000000000000000000)=true then some true else if decide (a1<1)=true then some true else some (decide (a1>1000000000))).bind fun x1=>if x1=true then some (0,1) else(tz a0 a1).bind fun x2=>some (x2,0)
def We:ar D:=⟨84,cP,cP,[.one (.h 0 []),.one (.h 1 []),.one (.fn 86 [])],[],dD,[],fun h=>HW h.1 h.2⟩
theorem alL:CK We:=fo [Ha] [.tmp 6,.tmp 7] IR ⟨Oh,trivial⟩ Tryz.call84 Tryz.func84 rfl rfl
def vW(a0:Int)(a1:Int):Option (Int×Int):=(HW a0 a1).bind fun x1=>some (x1.1,x1.2)
def Oj:ar D:=⟨72,cP,cP,dD,[],dD,[],fun h=>vW h.1 h.2⟩
theorem Wv:CK Oj:=fo [We] [.tmp 4,.tmp 5] .o ⟨alL,trivial⟩ Tryz.call72 Tryz.func72 rfl rfl
def J0(a0:List dH)(a1:Int):Int×Int×List Int→Option (Int×Int×List Int⊕Int×List Int):=fun x1=>if decide (x1.2.1<len a0)=true then(idx a0 x1.2.1).bind fun x2=>(vW (W (a1+x2.cY)) (W (2*x2.cY))).bind fun x3=>(CS x3.1 x2.eY x2.eD).bind fun x4=>(bq x1.2.2 [x4]).bind fun x5=>some (.inl (W (x1.1+x4),W (x1.2.1+1),x5)) else some (.inr (x1.1,x1.2.2))
def Ae(a0:List dH)(a1:Int):Option (Int×List Int):=(ay (J0 a0 a1) (0,0,[])).bind fun x6=>some (x6.1,x6.2)
def Wu:ar D:=⟨73,[.lf (.sl 28),.lf (.int .i64)],iu,pg,[],[.one (.own 1000),.one (.h 0 [])],tU,fun h=>Ae h.1 h.2⟩
theorem alZ:CK Wu:=fo [Ol,Oj] [.tmp 4,.tmp 5] (.n none .o (.n none (.n none .o (.n none (.loop ⟨wg,[(4,.one (.own 2320)),(5,.one (.h 0 [])),(12,.one (.h 1 []))],[(2320,.sl 0 3 2 [])],[],2384⟩ true [(.exit 0,⟨iu,[(4,.one (.own 2320)),(5,.one (.h 0 []))],[(2320,.sl 0 3 1 [])],[],2384⟩)] .o) .o)) .o)) ⟨Ww,Wv,trivial⟩ Tryz.call73 Tryz.func73 rfl rfl
def J1(a0:dH)(a1:Int):Option (Int):=some (W (a0.cY*W (W (2*a1)+1)))
def Wt:ar D:=⟨74,qo,z8,[.agg [.h 0 [],.h 1 [],.h 2 []],.one (.h 3 [])],[],z7,[],fun h=>J1 ⟨h.1,h.2.1,h.2.2.1⟩ h.2.2.2⟩
theorem alY:CK Wt:=fo [] [.tmp 4] .o trivial Tryz.call74 Tryz.func74 rfl rfl
def Rh(a0:List dH)(x3:Int):Int×Int→Option (Int×Int⊕Int):=fun x4=>if decide (x4.1<x4.2)=true then(vW (W (x4.1+x4.2)) 2).bind fun x5=>(Ae a0 x5.1).bind fun x6=>(if decide (x6.1≥x3)=true then some (x4.1,x5.1) else some (W (x5.1+1),x4.2)).bind fun x7=>some (.inl (x7.1,x7.2)) else some (.inr x4.1)
def J3(a0:List dH)(x3:Int)(x8:Int):Int×Int×List Int→Option (Int×Int×List Int⊕List Int):=fun aH=>if decide (aH.2.1<len a0)=true then(idx a0 aH.2.1).bind fun aN=>(if decide (aH.1<x3)=true then(idx aH.2.2 aH.2.1).bind fun aM=>if decide (aM<aN.eD)=true then(idx aH.2.2 aH.2.1).bind fun aY=>(J1 aN aY).bind fun bO=>some (bO==x8) else some false else some false).bind fun aS=>(if aS=true then(idx aH.2.2 aH.2.1).bind fun bj=>(idx aH.2.2 aH.2.1).bind fun bw=>(idx aH.2.2 aH.2.1).bind fun cK=>(cm aH.2.2 aH.2.1 (W (bj+1))).bind fun db=>some (W (aH.1+1),db) else some (aH.1,aH.2.2)).bind fun cu=>some (.inl (cu.1,W (aH.2.1+1),cu.2)) else some (.inr aH.2.2)
def wS(a0:List dH)(a1:Int):Option (Int×Int×List Int):=(Eh a0).bind fun x1=>if(x1.2.2 !=0)=true then some (0,x1.2.2,[]) else(if decide (a1<(-500000))=true then some true else some (decide (a1>500000))).bind fun x2=>if x2=true then some (0,1,[]) else(CS a1 x1.1 x1.2.1).bind fun x3=>(ay (Rh a0 x3) ((-1000200),1000200)).bind fun x8=>(Ae a0 (W (x8-1))).bind fun x9=>(ay (J3 a0 x3 x8) (x9.1,0,x9.2)).bind fun e_=>some (W (a1-x3),0,e_)
def W_:ar D:=⟨30,[.lf (.sl 28),.lf (.int .i64)],wg,pg,[],[.one (.own 1000),.one (.h 0 []),.one (.h 1 [])],[(1000,.sl 0 3 2 [])],fun h=>wS h.1 h.2⟩
theorem amy:CK W_:=fo [Wx,Ol,Oj,Wu,Wt] [.tmp 4,.tmp 5,.tmp 6] (.n none .o (.n none .o (.n none .o (.n none (.n none (.r (some (true,[(.normal,⟨[.lf .bool],[(35,.one (.h 0 []))],[],[],2960⟩)])) .nil) .o) (.n none .o (.n none .o (.n none (.n none (.loop ⟨cP,[(11,.one (.h 0 [])),(12,.one (.h 1 []))],[],[],3473⟩ true [(.exit 0,⟨z8,tV,[],[],3473⟩)] (.n none .o (.n none (.n none .o (.n none .o (.n none .o (.n (some (true,[(.normal,⟨cP,[(11,.one (.h 0 [])),(12,.one (.h 1 []))],[],[],5011⟩)])) .o .o)))) .o))) .o) (.n none .o (.n none (.n none .o (.n none (.loop ⟨wg,[(18,.one (.h 0 [])),(71,.one (.h 1 []))],[(3674,.sl 0 3 2 [])],[3674],4306⟩ true [(.exit 2,⟨dC,[],[(3674,.sl 0 3 0 [])],[3674],4306⟩)] (.n none .o (.n none .o (.n none (.n none (.n none .o (.n none (.r (some (true,[(.normal,⟨[.lf .bool],[(80,.one (.any)),(81,.one (.any)),(82,.one (.any)),(83,.one (.any)),(84,.one (.any)),(85,.one (.any)),(86,.one (.any)),(89,.one (.any)),(90,.one (.any)),(91,.one (.any)),(92,.one (.any)),(93,.one (.any)),(94,.one (.any)),(95,.one (.any)),(96,.one (.any)),(97,.one (.h 0 []))],[],[],4821⟩)])) .nil) (.n (some (true,[(.normal,⟨iu,[(18,.one (.h 0 []))],[(3674,.sl 0 3 1 [])],[3674],4886⟩)])) .o .o))) .o) .o)))) .o)) .o))))))))) ⟨al0,Ww,Wv,alZ,alY,trivial⟩ Tryz.call30 Tryz.func30 rfl rfl
def wV(a0:Int)(a1:bm)(a2:Int):Option (Bool):=(Ah a1 a0 a2).bind some
def YW:ar D:=⟨137,[.lf (.int .i64),.el 22,.el 0],[.lf .bool],[.one (.h 0 []),.one (.rp 1 22 [0]),.one (.rp 7 0 [0])],[],z7,[],fun h=>wV h.1 h.2.1 h.2.2⟩
theorem aoe:CK YW:=fo [OU] [.tmp 4] .o ⟨YY,trivial⟩ Tryz.call137 Tryz.func137 rfl rfl
def Rp(a0:bm)(a1:Int):Int→Option (Int⊕Int):=fun x2=>(wV (W (x2-1)) a0 a1).bind fun x3=>if x3=true then some (.inl (W (x2-1))) else some (.inr x2)
def Ro(a0:bm)(a1:Int):Int→Option (Int⊕Int):=fun x5=>(wV (W (x5+1)) a0 a1).bind fun x6=>if x6=true then some (.inl (W (x5+1))) else some (.inr x5)
def J8(a0:bm)(a1:Int):Option (Int×Int):=(wV 0 a0 a1).bind fun x1=>if(!x1)=true then some (0,0) else(ay (Rp a0 a1) 0).bind fun x4=>(ay (Ro a0 a1) 0).bind fun x7=>some (x4,x7)
def Y0:ar D:=⟨133,[.el 22,.el 0],cP,[.one (.fn 137 [.rp 0 22 [0],.rp 6 0 [0]])],[],dD,[],fun h=>J8 h.1 h.2⟩
theorem aoh:CK Y0:=fo [YW] [.tmp 2,.tmp 3] Qa ⟨aoe,trivial⟩ Tryz.call133 Tryz.func133 rfl rfl
def En(a0:bm)(a1:Int):Option (Int×Int):=(ug a0).bind fun x1=>if(!x1)=true then some (0,0) else(J8 a0 a1).bind fun x2=>some (x2.1,x2.2)
def Wn:ar D:=⟨78,IN,cP,IG,[],dD,[],fun h=>En ⟨h.1,h.2.1,h.2.2.1,h.2.2.2.1,h.2.2.2.2.1,h.2.2.2.2.2.1⟩ h.2.2.2.2.2.2⟩
theorem alT:CK Wn:=fo [Ck,Y0] [.tmp 4,.tmp 5] .o ⟨Hf,aoh,trivial⟩ Tryz.call78 Tryz.func78 rfl rfl
def ZL(a0:du):Option (Int):=some a0.X
def Wm:ar D:=⟨79,cP,z8,tW,[],z7,[],fun h=>ZL ⟨h.1,h.2⟩⟩
theorem alS:CK Wm:=fo [] [.tmp 2] .o trivial Tryz.call79 Tryz.func79 rfl rfl
def KS(a0:kX)(a1:Int)(a2:Int)(a3:Int):Option (Int×Int×Int):=(idx a0.qv a1).bind fun x1=>(if decide (len a0.last>0)=true then(idx a0.last a1).bind fun x2=>(ZL x2).bind fun x3=>(Ka a2 a3 x3 x1.qg).bind fun x4=>some (x4.1,x4.2) else some (a2,a3)).bind fun x5=>some (x5.1,x5.2,x1.cY)
def Wq:ar D:=⟨76,[.lf (.sl 22),.lf (.sl 24),.lf (.int .i64),.lf (.int .i64),.lf (.int .i64)],mA,[.agg [.h 0 [0],.h 1 [0]],.one (.h 2 []),.one (.h 3 []),.one (.h 4 []),.one (.fn 79 [])],[],rz,[],fun h=>KS ⟨h.1,h.2.1⟩ h.2.2.1 h.2.2.2.1 h.2.2.2.2⟩
theorem alW:CK Wq:=fo [Wm,OT] [.cell 10 161] PR ⟨alS,YX,trivial⟩ Tryz.call76 Tryz.func76 rfl rfl
def KR(a0:kX)(a1:List Int):Int×List dH→Option (Int×List dH⊕List dH):=fun x1=>if decide (x1.1<len a0.qv)=true then(idx a0.qv x1.1).bind fun x2=>(idx a1 x1.1).bind fun x3=>(En x2 x3).bind fun x4=>(KS a0 x1.1 x4.1 x4.2).bind fun x5=>(bq x1.2 [dH.mk x5.1 x5.2.1 x5.2.2]).bind fun x6=>some (.inl (W (x1.1+1),x6)) else some (.inr x1.2)
def E9(a0:kX)(a1:List Int):Option (List dH):=(ay (KR a0 a1) (0,[])).bind some
def W8:ar D:=⟨32,[.lf (.sl 22),.lf (.sl 24),.lf (.sl 0)],[.lf (.sl 28)],[.agg [.h 0 [0],.h 1 [0]],.one (.h 2 [0])],[],jc,[(1000,.sl 28 161 0 [])],fun h=>E9 ⟨h.1,h.2.1⟩ h.2.2⟩
theorem amw:CK W8:=fo [Wq,Wn] [.tmp 4] (.n none .o (.n none .o (.n none (.n none .o (.n none (.loop Qm true [(.exit 0,⟨[.lf (.sl 28)],[(5,.one (.own 2448))],[(2448,.sl 28 161 0 [])],[],2512⟩)] .o) .o)) .o))) ⟨alW,alT,trivial⟩ Tryz.call32 Tryz.func32 rfl rfl
end Rx
end Go.Proofs.YtncbfgppjfcijaaGreat
