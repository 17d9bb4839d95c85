import Derived.Test.YtncbfgppjfcijaaGreatDt
import Derived.Great.BuildSlice
set_option linter.unusedVariables false
set_option linter.unusedSimpArgs false
open List renaming eq_nil_of_length_eq_zero→ar5,flatten_cons→arn,nil_append→arT
open Nat renaming ble→aq2,le_of_ble_eq_true→aqT,succ_mul→aru
namespace Go.Proofs.YtncbfgppjfcijaaGreat
open Go Go.RowKit
namespace Dp
section
variable {α β:Type} [ab α] [ab β]
variable {P:Program} {n:Nat} {Q:Exit→Act→World→Prop} {L:List (Nat×Value)} {w:World} {ops:Array Oper} {rest:List Oper} {d:Option Tmp} {ty:TypeId} {pos:String} {af:Array Edge} {g:Option (Nat×Bool)} {t T e:TypeId} {o:bL} {K:List Nat} {k:Nat}
theorem OW.buildSlice [Rd]{m:Nat}{parts:List (Nat×Operand)}{vs:List Value}{xs:List α}(hu:P.underlying t=some (.slice e))(hT:bz P e α)(hp:rW L 0 parts=some vs)(h:ry (In o K) w vs xs)(hm:xs.length=m)(hs:aq2 (m*ab.sz α) 65536=true):
  OW P Q L ⟨d,.buildSlice t m parts.toArray,ty,pos,af,g⟩ w (fun v' w'=>∃o',ba [] [k] o w o' w'∧Ow e o' k K w' v' xs):=by
 obtain⟨aw,rfl,h2⟩:=h.aw
 obtain⟨i,dX,cF,fF,jo⟩:=hT.jD
 have cf:=h2.length
 have dG:=mb h2
 have lS:m*ab.sz α≤65536:=aqT hs
 have nE:=ab.pos (α:=α)
 have apX:m≤m*ab.sz α:=Nat.le_mul_of_pos_right m nE
 have pL:∀ob:Obj,∀b,In o K b→b<w.heap.size→In (grow o w k) K b∧(w.alloc ob).heap[b]? =w.heap[b]? :=fun ob=>ba.ro (ba.alloc o w ob k) (by simp[gJ])
 refine OW.run fun a ha=>⟨.slice (some ⟨w.heap.size,0,none⟩) m m,w.alloc (.cells aw.flatten.toArray e), ?_,grow o w k,ba.alloc o w _ k,.inr ⟨w.heap.size,m,_,aw,by rw[hm],nM o w k _ (Nat.le_refl _),heap_alloc_new w _,by omega,by unfold maxLen;omega,by simp[dG,hm],h2.mono fun _ _=>ab.mono (pL _), ?_⟩⟩
 · have uQ:(parts.toArray.map fun(x:Nat×Operand)=>(x.1,a.eval x.2)).toList=number 0 (aw.map (pack (ab.agg α))):=by
    rw[←Kz ha hp];simp
   by_cases h0:m=0
   · have hx:aw=[]:=ar5 (by omega)
     subst hx
     simp[number] at uQ
     simp[execOp,Instr.buildSlice,run_underlying hu,sizeOf,typeInfo,dX,h0,newRow,newObj,Instr.fill,uQ]
     have e0:Array.range 0= #[]:=by simp[Array.range]
     rw[e0,Array.map_empty]
     rfl
   · have bg:¬m*i.size=0:=by rw[cF];intro hh;rcases Nat.mul_eq_zero.1 hh with h|h<;>omega
     have hf:=NG (xs:=xs) h2 0 ((Array.range (m*i.size)).map ((pack (ab.agg α) (ab.zc α)).cells[·% (pack (ab.agg α) (ab.zc α)).cells.size]!)) (by simp[cF,cf,hm])
     have MW:((Array.range (m*i.size)).map ((pack (ab.agg α) (ab.zc α)).cells[·% (pack (ab.agg α) (ab.zc α)).cells.size]!)).toList.drop ((0+aw.length)*ab.sz α)=[]:=List.drop_eq_nil_of_le (by simp[cF,cf,hm])
     rw[MW,←cF] at hf
     simp only[Nat.zero_mul,List.take_zero,arT,List.append_nil] at hf
     rw[←uQ] at hf
     have df:¬m*i.size>2^24:=by rw[cF];omega
     have hb:=run_buildSlice (P:=P) w t e m _ _ i _ hu dX jo df bg hf
     simp only[execOp,Sem.run_bind]
     rw[hb]
     rfl
 · show(aw.flatten.toArray.toList).take (xs.length*ab.sz α)=aw.flatten
   rw[←dG]
   exact List.take_length
structure eV(P:Program)(T:TypeId)(pl:List (Nat×Nat)):Prop where
 fs:∃fs,P.underlying T=some (.struct fs)∧fs.toList.mapM (fun f=>(P.info? f.type).map fun i=>(f.offset,i.size))=some pl
def vC(L:List (Nat×Value)):List (Nat×Operand)→Option (List (Nat×Value))
 |[]=>some []
 |(i,x)::r=>match ev L x,vC L r with
  |some v,some vs=>some ((i,v)::vs)
  |_,_=>none
theorem Vw [Rd]{a:Act}(ha:Reads L a):∀{l:List (Nat×Operand)} {vs:List (Nat×Value)},vC L l=some vs→l.map (fun p=>(p.1,a.eval p.2))=vs
 |[],vs,h=>by simp[vC] at h;subst h;rfl
 |(i,x)::r,vs,h=>by
  unfold vC at h
  split at h
  · rename_i v us h2 h3
    cases h
    simp[Vw ha h3,ha _ _ h2]
  · cases h
theorem OW.Zo [Rd]{m:Nat}{S:Nat→Prop}{parts:List (Nat×Operand)}{vs:List Value}{xs:List α}(hu:P.underlying t=some (.array m e))(hT:bz P e α)(hz:∃i z,P.info? t=some i∧i.zero=some z∧z.cells.size=m*ab.sz α)(hp:rW L 0 parts=some vs)(h:ry S w vs xs)(hm:xs.length=m):
  OW P Q L ⟨d,.build t parts.toArray,ty,pos,af,g⟩ w (fun v' w'=>w'=w∧∃aw,v'= .agg aw.flatten.toArray∧bC (ab.rd S w) aw xs):=by
 obtain⟨aw,rfl,h2⟩:=h.aw
 obtain⟨i,dX,cF,fF,jo⟩:=hT.jD
 obtain⟨j,z,hj1,FZ,Ui⟩:=hz
 have cf:=h2.length
 refine OW.run fun a ha=>⟨.agg aw.flatten.toArray,w, ?_,rfl,aw,rfl,h2⟩
 have uQ:(parts.toArray.map fun(x:Nat×Operand)=>(x.1,a.eval x.2)).toList=number 0 (aw.map (pack (ab.agg α))):=by
  rw[←Kz ha hp];simp
 have hf:=NG (xs:=xs) h2 0 z.cells (by rw[Ui,cf,hm];simp)
 have MW:z.cells.toList.drop ((0+aw.length)*ab.sz α)=[]:=List.drop_eq_nil_of_le (by simp[Ui,cf,hm])
 rw[MW,←cF] at hf
 simp only[Nat.zero_mul,List.take_zero,arT,List.append_nil] at hf
 have hb:P.built t (parts.toArray.map fun(x:Nat×Operand)=>(x.1,a.eval x.2)).toList=some aw.flatten.toArray:=by
  simp only[Program.built,hj1,hu,FZ,dX,uQ,hf]
 have hr:=run_build (P:=P) w t _ _ hb
 simp only[execOp,Sem.run_bind]
 rw[hr]
 rfl
theorem BW{z:Nat}:∀{aw:List (List Value)},(∀c∈aw,c.length=z)→∀i,(aw.drop i).flatten=aw.flatten.drop (i*z)
 |aw,_,0=>by simp
 |[],_,i+1=>by simp
 |b::aw,hz,i+1=>by
  have hb:b.length=z:=hz b (by simp)
  have e1:(i+1)*z=b.length+i*z:=by rw[hb,aru];omega
  rw[List.drop_succ_cons,BW (aw:=aw) (fun c hc=>hz c (by simp[hc])) i,arn,e1,List.drop_length_add_append]
theorem vA{z:Nat}:∀{aw:List (List Value)},(∀c∈aw,c.length=z)→∀i,(aw.take i).flatten=aw.flatten.take (i*z)
 |aw,_,0=>by simp
 |[],_,i+1=>by simp
 |b::aw,hz,i+1=>by
  have hb:b.length=z:=hz b (by simp)
  have e1:(i+1)*z=b.length+i*z:=by rw[hb,aru];omega
  rw[List.take_succ_cons,arn,vA (aw:=aw) (fun c hc=>hz c (by simp[hc])) i,arn,e1,List.take_length_add_append]
def tG(L:List (Nat×Value))(x:Option Operand)(ak0:Int)(l:Int):Prop:=(x=none∧l=ak0)∨∃y,x=some y∧ev L y=some (.int .i64 l)
theorem OW.slice [Rd]{S:Nat→Prop}{u:Operand}{lo hi:Option Operand}{l h:Int}{v:Value}{xs zs:List α}(hu:P.underlying t=some (.slice e))(hT:bz P e α)(hx:ev L u=some v)(hr:Rv S w v xs)(By:tG L lo 0 l)(u_:tG L hi (Dp.len xs) h)(hz:dV xs l h=some zs):
  OW P Q L ⟨d,.slice t u lo hi none,ty,pos,af,g⟩ w (fun v' w'=>w'=w∧Rv S w v' zs):=by
 obtain⟨p,cap,rfl,h1,h2,h3⟩:=om hr
 unfold dV at hz
 split at hz
 case isFalse=>cases hz
 rename_i hb
 cases hz
 obtain⟨b1,b2,b3⟩:=hb
 have hlen:((xs.take h.toNat).drop l.toNat).length=h.toNat-l.toNat:=by simp;omega
 refine OW.run fun a ha=>⟨.slice (if cap=l.toNat then p else p.map (·.add (l.toNat*ab.sz α))) (h.toNat-l.toNat) (cap-l.toNat),w, ?_,rfl,_,rfl,_,cap-l.toNat,by rw[hlen],by rw[hlen];omega,by unfold maxLen at*;omega, ?_⟩
 · have lW:h≤(cap:Int):=by omega
   have u9:(h.toNat:Int)=h:=by omega
   have nG:(l.toNat:Int)=l:=by omega
   rcases By with⟨rfl,rfl⟩|⟨yl,rfl,hl⟩<;>rcases u_ with⟨rfl,rfl⟩|⟨yh,rfl,hh⟩
   · simp[execOp,ha _ _ hx,Instr.sliceAt,run_underlying hu,Instr.slice,Instr.sliceBounds,hT.sizeOf,Dp.len]
   · have b0:0≤h:=by omega
     simp[execOp,ha _ _ hx,ha _ _ hh,Instr.sliceAt,run_underlying hu,Instr.slice,Instr.sliceBounds,Instr.sliceBound,asIntOf,hT.sizeOf,b0,lW]
   · have b0:l≤(xs.length:Int):=by unfold Dp.len at b2;omega
     simp[execOp,ha _ _ hx,ha _ _ hl,Instr.sliceAt,run_underlying hu,Instr.slice,Instr.sliceBounds,Instr.sliceBound,asIntOf,hT.sizeOf,b1,b0,Dp.len]
   · have b0:0≤h:=by omega
     simp[execOp,ha _ _ hx,ha _ _ hl,ha _ _ hh,Instr.sliceAt,run_underlying hu,Instr.slice,Instr.sliceBounds,Instr.sliceBound,asIntOf,hT.sizeOf,b1,b0,lW,u9,b2]
 · by_cases he:(xs.take h.toNat).drop l.toNat=[]
   · exact .inl he
   · have aK:l.toNat<h.toNat:=by
      rcases Nat.lt_or_ge l.toNat h.toNat with hh|hh
      · exact hh
      · exact(he (ar5 (by omega))).elim
     rcases h3 with rfl|⟨a,aw,rfl,h4,h5,h6⟩
     · simp at he
     · right
       have dy:=h5.lK
       refine⟨a.add (l.toNat*ab.sz α),(aw.take h.toNat).drop l.toNat, ?_,by rw[H'];exact h4,(h5.take _).drop _, ?_⟩
       · rw[if_neg (by omega)];rfl
       · intro j u hj
         rw[tC]
         refine h6 _ _ ?_
         rw[BW (fun c hc=>dy c (List.mem_of_mem_take hc)),vA dy,List.getElem?_drop,List.getElem?_take] at hj
         split at hj
         · exact hj
         · cases hj
theorem OW.aly [Rd]{f:FuncId}{u:Operand}{args:List Operand}{fJ:Array Value}{vs:List Value}{ats:Array TypeId}{R:Value→World→Prop}(hf:∀(args:Array Value) (w:World),(callFunc f args).run P w= .ok (.enter f args) w)(hu:ev L u=some (.func (.func f) #[] fJ))(ha:lA L args=some vs)(hC:Calls P f (vs.toArray++fJ) w (jT R)):
  OW P Q L ⟨d,.call {callee:= .value u,args:=args.toArray,argTypes:=ats},ty,pos,af,g⟩ w R:=by
 refine OW.RD fun a hr=>⟨f,vs.toArray++fJ, ?_,hC⟩
 have h2:args.toArray.map a.eval=vs.toArray:=by rw[←yf hr _ ha];simp
 simp[execOp,resolve,invoke,Deferred.ofValue,hr _ _ hu,hf] at h2⊢
 rw[h2]
theorem OW.conv [Rd]{src dst:TypeId}{x:Operand}{j:IntKind}{q:Int}(h1:∃k',P.underlying src=some (.int k'))(h2:P.underlying dst=some (.int .i64))(hx:ev L x=some (.int j q)):
  OW P Q L ⟨d,.convert src dst x,ty,pos,af,g⟩ w (fun v' w'=>v'= .int .i64 (W q)∧w'=w):=by
 obtain⟨k',h1⟩:=h1
 refine OW.run fun a ha=>⟨_,w, ?_,rfl,rfl⟩
 simp[execOp,ha _ _ hx,convert,run_underlying h1,run_underlying h2,Conv.intToInt,W]
structure PI(P:Program)(t:TypeId)(α:Type)[ab α][DecidableEq α]:Prop where
 run:∀{S S':Nat→Prop} {w:World} {v1 v2:Value} {x y:α} (a b:Operand),Rv S w v1 x→Rv S' w v2 y→
  ((eqGuard .eql t a b v1 v2).run P w= .ok () w∧(binOp .eql t v1 v2).run P w= .ok (.bool (decide (x=y))) w)∧((eqGuard .neq t a b v1 v2).run P w= .ok () w∧(binOp .neq t v1 v2).run P w= .ok (.bool (!decide (x=y))) w)
theorem PI.bool(h:P.underlying t=some .bool):PI P t Bool:=⟨by
 intro S S' w v1 v2 x y a b h1 h2
 rw[adD] at h1 h2
 subst h1 h2
 have h3:∀d:Nat,(Op.equalIn (d+1) t (.bool x) (.bool y)).run P w= .ok (x==y) w:=fun d=>run_equalIn_bool' w d t x y h
 have h4:=h3 9999
 cases x<;>cases y<;>simp[eqGuard,binOp,Op.equal,Op.maxDepth] at h4⊢<;>simp[h4]⟩
def Z4(P:Program)(L:List (Nat×Value))(w:World):ResultVar→Value→Prop
 | .tmp t,v=>look L t=some v
 | .cell t T,v=>∃pa,look L t=some (.pointer (some pa))∧(loadVar T pa).run P w= .ok v w
def tF(P:Program)(L:List (Nat×Value))(w:World):List ResultVar→List Value→Prop
 |[],[]=>True
 |r::rs,v::vs=>Z4 P L w r v∧tF P L w rs vs
 |_,_=>False
def rR:List Value→Value
 |[v]=>v
 |vs=> .tuple vs.toArray
theorem um [Rd]{fn:Func}{a:Act}(ha:Reads L a){rs:List ResultVar}{vs:List Value}(hr:fn.results=rs.toArray)(h:tF P L w rs vs):(results fn a.tmps).run P w= .ok (rR vs) w:=by
 obtain⟨f,hf⟩:∃f:ResultVar→Sem Value,f=(fun r=>(match r with
  | .tmp t=>pure (a.tmps.getD t undef)
  | .cell a' t=>(do loadVar t (←asAddr (a.tmps.getD a' undef))))):=⟨_,rfl⟩
 have one:∀{r:ResultVar} {v:Value},Z4 P L w r v→(f r).run P w= .ok v w:=by
  intro r v h
  rw[hf]
  cases r with
  |tmp t=>
   have h1:=ha (.tmp t) v h
   simp only[Act.eval] at h1
   simp only[Sem.run_pure,h1]
  |cell t T=>
   obtain⟨pa,h3,h4⟩:=h
   have h1:=ha (.tmp t) _ h3
   simp only[Act.eval] at h1
   simp only[Sem.run_bind,h1,asAddr,Sem.run_pure,Result.andThen_ok,h4]
 have key:∀{rs:List ResultVar} {vs:List Value},tF P L w rs vs→(rs.mapM f).run P w= .ok vs w:=by
  intro rs
  induction rs with
  |nil=>intro vs h;cases vs with
   |nil=>simp
   |cons v vs=>exact h.elim
  |cons r rs ih=>
   intro vs h
   cases vs with
   |nil=>exact h.elim
   |cons v vs=>simp only[List.mapM_cons,Sem.run_bind,one h.1,Result.andThen_ok,ih h.2,Sem.run_pure]
 have h1:=key h
 have h2:results fn a.tmps=(do let vs ←fn.results.mapM f;pure (if h:vs.size=1 then vs[0] else .tuple vs)):=by rw[hf];rfl
 rw[h2,hr,Array.mapM_eq_mapM_toList]
 simp only[map_eq_pure_bind,Sem.run_bind,h1,Result.andThen_ok,Sem.run_pure]
 match vs with
 |[]=>simp[rR]
 |[v]=>simp[rR]
 |_::_::_=>simp[rR]
theorem CW.jg{fn:Func}{R:Ending→World→Prop}{rs:List ResultVar}{vs:List Value}(hr:fn.results=rs.toArray)(h:tF P L w rs vs)(hR:R (.returned (rR vs)) w)(hQ:∀a w,bodyPost P fn R .ret a w→Q .ret a w):CW P n .ret Q L w:=
 fun a ha=>wpIn_ret (hQ _ _ (bodyPost_ret (um (fun _ _ hx=>ha.ev hx) hr h) ha.defers hR))
end
def LH:TypeDesc→Bool
 | .struct _| .array _ _=>true
 |_=>false
theorem bz.of{P:Program}{t:TypeId}{α:Type}[ab α]{d:TypeDesc}(h1:P.underlying t=some d)(h2:LH d=ab.agg α)
  (h3:(P.info? t).map (fun i=>(i.size,aq2 i.bytes 65536,i.zero))=some (ab.sz α,true,some (pack (ab.agg α) (ab.zc α)))):bz P t α:=by
 refine⟨⟨d,h1,by rw[←h2];cases d<;>rfl⟩, ?_⟩
 cases hi:P.info? t with
 |none=>simp[hi] at h3
 |some i=>
  simp[hi] at h3
  exact⟨i,rfl,h3.1,h3.2.1,h3.2.2⟩
section
variable {o:bL} {w w':World}
end
end Dp
end Go.Proofs.YtncbfgppjfcijaaGreat
namespace Go.Proofs.YtncbfgppjfcijaaGreat
open Go Go.RowKit
namespace Dp
section
variable {α β:Type} [ab α] [ab β]
variable {P:Program} {n:Nat} {Q:Exit→Act→World→Prop} {L:List (Nat×Value)} {w w':World} {ops:Array Oper} {rest:List Oper} {d:Option Tmp} {ty:TypeId} {pos:String} {af:Array Edge} {g:Option (Nat×Bool)} {t T e:TypeId} {o o':bL} {K M N:List Nat} {k c:Nat}
theorem Rv.one{α:Type}[ab α]{S:Nat→Prop}{v:Value}{x:α}(h:Rv S w v x)(hg:ab.agg α=false):v.oneCell'=true:=by
 obtain⟨cs,rfl,h1⟩:=h
 have hl:=ab.len h1
 rw[ab.flat hg] at hl
 match cs,hl with
 |[u],_=>
  have:=ab.one h1 u (by simp)
  simpa[pack,hg] using this
theorem Ow.one{v:Value}{xs:List α}(h:Ow T o k K w v xs):v.oneCell'=true:=by
 rcases h with⟨rfl,_⟩|⟨g,cap,aL,aw,rfl,_⟩<;>rfl
theorem add_zero'(a:Addr):a.add 0=a:=by simp[Addr.add]
structure eZ(P:Program)(T:TypeId)(i off:Nat):Prop where
 oR:∃fs fd,P.underlying T=some (.struct fs)∧fs[i]? =some fd∧fd.offset=off∧∃inf,P.info? fd.type=some inf∧inf.size≠0
theorem OW.Ny [Rd]{i off:Nat}{pa:Addr}{x:Operand}(hF:eZ P T i off)(hx:ev L x=some (.pointer (some pa))):
  OW P Q L ⟨d,.fieldAddr T x i,ty,pos,af,g⟩ w (fun v w'=>v= .pointer (some (pa.add off))∧w'=w):=by
 refine OW.run fun a ha=>⟨_,w, ?_,rfl,rfl⟩
 obtain⟨fs,fd,h1,h2,h3,inf,h4,h5⟩:=hF.oR
 have hs:(sizeOf fd.type).run P w= .ok inf.size w:=by simp[sizeOf,typeInfo,h4]
 simp[execOp,ha _ _ hx,Instr.fieldAt,run_underlying h1,h2,Instr.sureAddr,fieldPlace,hs,h5,h3]
theorem G3{v:Value}(h:v.oneCell'=true):v.cells=[v].toArray:=by
 cases v<;>simp_all [Value.cells,Value.oneCell']
def Iu:List (Nat×Value)→List (Nat×List Value)→Prop
 |[],[]=>True
 |(i,v)::r,(j,c)::s=>i=j∧v.cells=c.toArray∧Iu r s
 |_,_=>False
def vB(pl:List (Nat×Nat)):List Value→List (Nat×List Value)→Option (List Value)
 |cs,[]=>some cs
 |cs,(i,c)::r=>match pl[i]? with
  |some (off,sz)=>if Nat.beq c.length sz=true∧aq2 (off+sz) cs.length=true then vB pl (cs.take off++c++cs.drop (off+c.length)) r else none
  |none=>none
theorem Vs{pl:List (Nat×Nat)}:∀{vs:List (Nat×Value)} {ns:List (Nat×List Value)} {cs fI:List Value},Iu vs ns→vB pl cs ns=some fI→Instr.fill (pl.toArray[·]?) cs.toArray vs=some fI.toArray
 |[],[],cs,fI,_,h=>by
  simp[vB] at h
  subst h
  rfl
 |(i,v)::r,(j,c)::s,cs,fI,hp,h=>by
  obtain⟨rfl,hc,hp⟩:=hp
  unfold vB at h
  split at h
  case h_2=>cases h
  rename_i off sz lT
  split at h
  case isFalse=>cases h
  rename_i hb
  have h1:c.length=sz:=Nat.eq_of_beq_eq_true hb.1
  have h2:off+sz≤cs.length:=aqT hb.2
  have hf:=R7 c off 0 cs.toArray (by simp;omega)
  simp only[Nat.add_zero] at hf
  have ahA:pl.toArray[i]? =some (off,sz):=by simpa using lT
  have ez:c.toArray.zipIdx.toList=c.zipIdx:=by simp
  simp only[Instr.fill,ahA,hc,List.size_toArray,h1,ne_eq,not_true_eq_false,false_or,decide_false,Bool.false_or]
  rw[if_neg (by simp;omega)]
  rw[←Array.foldl_toList,ez,hf]
  exact Vs hp h
theorem Rv.Kr{S:Nat→Prop}{v:Value}{x:α}(h:Rv S w v x)(hg:ab.agg α=false):ab.rd S w [v] x:=by
 obtain⟨cs,rfl,h1⟩:=h
 have hl:=ab.len h1
 rw[ab.flat hg] at hl
 match cs,hl with
 |[u],_=>simpa[pack,hg] using h1
end
end Dp
end Go.Proofs.YtncbfgppjfcijaaGreat
