import Derived.Test.YtncbfgppjfcijaaGreatDm
set_option linter.unusedVariables false
set_option linter.unusedSimpArgs false
open Array renaming length_toList→arE
open List renaming append_assoc→aq4,drop_drop→arp,drop_length_add_append→asc,ext_getElem?→arQ,flatten_append→aro,flatten_cons→arn,getElem?_append_left→ark,getElem?_append_right→ary,getElem?_drop→arM,getElem?_eq_some_iff→aq9,getElem?_set→arq,getElem?_take→arh,length_append→aqY,length_cons→arz,length_take→arU,nil_append→arT,replicate→aqS,size_toArray→arS,take_left→ar8,take_of_length_le→arY
open Nat renaming add_assoc→ar3,add_mul→aq_,le_refl→aqM,mul_le_mul_right→arl,succ_mul→aru
namespace Go.Proofs.YtncbfgppjfcijaaGreat
open Go Go.RowKit
namespace Dp
def W(x:Int):Int:=IntKind.i64.wrap x
theorem qe{x:Int}(h1: -9223372036854775808≤x)(h2:x≤9223372036854775807):W x=x:=IntWalk.i64_in x ⟨h1,by omega⟩
def idx{α:Type}(xs:List α)(j:Int):Option α:=if 0≤j then xs[j.toNat]? else none
def cm{α:Type}(xs:List α)(j:Int)(y:α):Option (List α):=if 0≤j∧j<xs.length then some (xs.set j.toNat y) else none
def bq{α:Type}(xs ys:List α):Option (List α):=if xs.length+ys.length≤1073741824 then some (xs++ys) else none
def rZ(α:Type)[ab α](n:Int):Option (List α):=if 0≤n∧n≤1073741824 then some (aqS n.toNat ab.zero) else none
def dV{α:Type}(xs:List α)(lo hi:Int):Option (List α):=if 0≤lo∧lo≤hi∧hi≤xs.length then some ((xs.take hi.toNat).drop lo.toNat) else none
def ny(a b:Int):Option Int:=if b=0 then none else some (W (a.tdiv b))
def jh(a b:Int):Option Int:=if b=0 then none else some (a.tmod b)
def len{α:Type}(xs:List α):Int:=xs.length
def bin:BinOp→Value→Value→Option Value
 | .add,.int .i64 a,.int .i64 b=>some (.int .i64 (W (a+b)))
 | .sub,.int .i64 a,.int .i64 b=>some (.int .i64 (W (a-b)))
 | .mul,.int .i64 a,.int .i64 b=>some (.int .i64 (W (a*b)))
 | .eql,.int .i64 a,.int .i64 b=>some (.bool (a==b))
 | .neq,.int .i64 a,.int .i64 b=>some (.bool (a !=b))
 | .lss,.int .i64 a,.int .i64 b=>some (.bool (decide (a<b)))
 | .leq,.int .i64 a,.int .i64 b=>some (.bool (decide (a≤b)))
 | .gtr,.int .i64 a,.int .i64 b=>some (.bool (decide (a>b)))
 | .geq,.int .i64 a,.int .i64 b=>some (.bool (decide (a≥b)))
 |_,_,_=>none
def lA(L:List (Nat×Value)):List Operand→Option (List Value)
 |[]=>some []
 |x::r=>match ev L x,lA L r with
  |some v,some vs=>some (v::vs)
  |_,_=>none
def pv(L:List (Nat×Value)):Op→Option Value
 | .move x=>ev L x
 | .assign x=>ev L x
 | .pick c a b=>match ev L c with
   |some (.bool true)=>ev L a
   |some (.bool false)=>ev L b
   |_=>none
 | .binOp op _ x y _=>match ev L x,ev L y with
   |some a,some b=>bin op a b
   |_,_=>none
 | .unOp .not _ x=>match ev L x with
   |some (.bool b)=>some (.bool (!b))
   |_=>none
 | .unOp .neg _ x=>match ev L x with
   |some (.int .i64 a)=>some (.int .i64 (W (-a)))
   |_=>none
 | .nilCheck x=>match ev L x with
   |some (.pointer (some a))=>some (.pointer (some a))
   |_=>none
 | .extract x i=>match ev L x with
   |some (.tuple vs)=>vs[i]?
   |_=>none
 | .makeFunc fn first fJ=>match lA L first.toList,lA L fJ.toList with
   |some f,some c=>some (.func fn f.toArray c.toArray)
   |_,_=>none
 |_=>none
section
variable {P:Program} {n:Nat} {Q:Exit→Act→World→Prop} {L:List (Nat×Value)} {w:World} {ops:Array Oper} {rest:List Oper} {d:Option Tmp} {ty:TypeId} {pos:String} {af:Array Edge} {g:Option (Nat×Bool)}
abbrev Reads(L:List (Nat×Value))(a:Act):Prop:=∀x v,ev L x=some v→a.eval x=v
theorem El{ro:Option Nat}{o:Oper}{ρ:Operand→Value}{x:Next}{w':World}(h:(execOp ρ o).run P w= .ok x w')(hx:∀d,x≠.defer d):(o.semAt ro ρ).run P w= .ok x w':=by
 by_cases hd:∃c,o.op= .defer c
 · obtain⟨c,hc⟩:=hd
   exfalso
   simp only[execOp,hc,Sem.run_bind] at h
   generalize (resolve ρ c o.type).run P w=r at h
   cases r with
   |ok d w1=>simp only[Result.andThen_ok,Sem.run_pure,Result.ok.injEq] at h;exact hx _ h.1.symm
   |halt e w1=>cases h
 · rw[Oper.semAt_eq ro ρ o fun c hc=>hd ⟨c,hc⟩]
   exact h
theorem OW.run [I:Rd]{o:Oper}{R:Value→World→Prop}(h:∀a,Reads L a→∃v w',(execOp a.eval o).run P w= .ok (.value v) w'∧R v w'):OW P Q L o w R:=by
 intro a K ha hK
 obtain⟨v,w',h1,h2⟩:=h a ha
 unfold Oper.wpIn
 rw[El h1 (fun _ h=>by cases h)]
 exact⟨fun f _=>trivial,hK v w' h2⟩
theorem OW.Eu [I:Rd]{o:Oper}{R:Value→World→Prop}(h:∀a,Reads L a→∃w',(execOp a.eval o).run P w= .ok .skip w'∧R undef w'):OW P Q L o w R:=by
 intro a K ha hK
 obtain⟨w',h1,h2⟩:=h a ha
 unfold Oper.wpIn
 rw[El h1 (fun _ h=>by cases h)]
 exact⟨fun f _=>trivial,hK _ w' h2⟩
def jT(R:Value→World→Prop):Ending→World→Prop:=fun e w'=>∃v,e= .returned v∧R v w'
theorem OW.RD [I:Rd]{o:Oper}{R:Value→World→Prop}(h:∀a,Reads L a→∃f args,(execOp a.eval o).run P w= .ok (.enter f args) w∧Calls P f args w (jT R)):OW P Q L o w R:=by
 intro a K ha hK
 obtain⟨f,args,h1,h2⟩:=h a ha
 unfold Oper.wpIn
 rw[El h1 (fun _ h=>by cases h),Oper.uponIn_enter]
 refine⟨fun f _=>trivial,fun h=>by simp[Rd.F,Fence.wide] at h, ?_⟩
 have h3:=(callsIn_wide (n:=0)).2 h2
 refine(h3:CallsIn Fence.wide 0 P f args w (jT R)).mono ?_
 rintro e w' ⟨v,rfl,hr⟩
 exact hK v w' hr
theorem yf [Rd]{a:Act}(ha:Reads L a):∀(l:List Operand) {vs:List Value},lA L l=some vs→l.map a.eval=vs
 |[],vs,h=>by simp[lA] at h;simp[h]
 |x::r,vs,h=>by
  unfold lA at h
  split at h
  · rename_i v us h1 h2
    cases h
    simp[ha _ _ h1,yf ha r h2]
  · cases h
theorem ao4{op:BinOp}{x y v:Value}{a b:Operand}(h:bin op x y=some v)(t:TypeId):(eqGuard op t a b x y).run P w= .ok () w∧(binOp op t x y).run P w= .ok v w:=by
 unfold bin at h
 split at h<;>first
  |(cases h;simp[eqGuard,binOp,Op.intArith,Op.intCmp,W];done)
  |cases h
theorem OW.pv [Rd]{op:Op}{v:Value}(h:Dp.pv L op=some v):OW P Q L ⟨d,op,ty,pos,af,g⟩ w (fun v' w'=>v'=v∧w'=w):=by
 refine OW.run fun a ha=>⟨v,w, ?_,rfl,rfl⟩
 unfold Dp.pv at h
 split at h
 · rename_i x
   simp[execOp,ha _ _ h]
 · rename_i x
   simp[execOp,ha _ _ h]
 · rename_i c x y
   split at h<;>first
    |(rename_i hc;simp[execOp,ha _ _ hc,ha _ _ h,asBool];done)
    |cases h
 · rename_i op t x y u
   split at h
   · rename_i vx vy hx hy
     obtain⟨h1,h2⟩:=ao4 (P:=P) (w:=w) (a:=x) (b:=y) h t
     simp[execOp,ha _ _ hx,ha _ _ hy,Sem.run_bind,h1,h2]
   · cases h
 · rename_i t x
   split at h
   · rename_i b hx
     cases h
     simp[execOp,ha _ _ hx,Op.unary]
   · cases h
 · rename_i t x
   split at h
   · rename_i b hx
     cases h
     simp[execOp,ha _ _ hx,Op.unary,W,Op.intArith]
   · cases h
 · rename_i x
   split at h
   · rename_i b hx
     cases h
     simp[execOp,ha _ _ hx]
   · cases h
 · rename_i x i
   split at h
   · rename_i vs hx
     simp[execOp,ha _ _ hx,Instr.extract,h]
   · cases h
 · rename_i fn first fJ
   split at h
   · rename_i f c hf hc
     cases h
     have h1:first.map a.eval=f.toArray:=by rw[←yf ha _ hf,←List.map_toArray,Array.toArray_toList]
     have h2:fJ.map a.eval=c.toArray:=by rw[←yf ha _ hc,←List.map_toArray,Array.toArray_toList]
     simp[execOp,Instr.makeFunc,h1,h2]
   · cases h
 · cases h
theorem WL.v [I:Rd]{d:Nat}{op:Op}{v:Value}(h:Dp.pv L op=some v)(hd:I.ft n d=true)(k:WL P n ops Q rest ((d,v)::L) w):WL P n ops Q (⟨some d,op,ty,pos,af,none⟩::rest) L w:=
 WL.step (OW.pv h) hd (by rintro v' w' ⟨rfl,rfl⟩;exact k)
theorem tC(a:Addr)(i j:Nat):(a.add i).add j=a.add (i+j):=by
 by_cases hi:i=0
 · subst hi;simp[Addr.add]
 · by_cases hj:j=0
   · subst hj;simp[Addr.add]
   · simp[Addr.add,hi,hj,ar3]
structure bz(P:Program)(t:TypeId)(α:Type)[ab α]:Prop where
 agg:∃d,P.underlying t=some d∧(match d with| .struct _| .array _ _=>true|_=>false)=ab.agg α
 jD:∃i,P.info? t=some i∧i.size=ab.sz α∧i.bytes≤65536∧i.zero=some (pack (ab.agg α) (ab.zc α))
def apy{α β:Type}[ab α][ab β](off:Nat)(st:α→β→α):Prop:=
 ∀{S:Nat→Prop} {w:World} {cs:List Value} {x:α} {c':List Value} {y:β},ab.rd S w cs x→ab.rd S w c' y→ab.rd S w (cs.take off++c'++cs.drop (off+c'.length)) (st x y)
section
variable {α β:Type} [ab α] [ab β] {t T:TypeId} {x:Operand}
theorem bz.isAgg(h:bz P t α)(w:World):(isAgg t).run P w= .ok (ab.agg α) w:=by
 obtain⟨d,h1,h2⟩:=h.agg
 unfold Go.isAgg
 rw[Sem.run_bind,run_underlying h1 w]
 simp only[Result.andThen_ok]
 rw[←h2]
 cases d<;>rfl
theorem bz.sizeOf(h:bz P t α)(w:World):(sizeOf t).run P w= .ok (ab.sz α) w:=by
 obtain⟨i,h1,h2,_⟩:=h.jD
 simp[Go.sizeOf,typeInfo,h1,h2]
theorem bz.zero(h:bz P t α)(w:World):(zeroValue t).run P w= .ok (pack (ab.agg α) (ab.zc α)) w:=by
 obtain⟨i,h1,_,_,h4⟩:=h.jD
 simp[zeroValue,typeInfo,h1,h4]
theorem adF(hT:bz P t β){cs c1 c c2:List Value}{S:Nat→Prop}{y:β}(fm:cs=c1++c++c2)(hc:ab.rd S w c y):(part t cs.toArray c1.length).run P w= .ok (pack (ab.agg β) c) w:=by
 have hl:=ab.len hc
 simp only[part,Sem.run_bind,hT.isAgg,Result.andThen_ok]
 cases hg:ab.agg β with
 |true=>
  simp[hT.sizeOf,pack,←hl,fm]
 |false=>
  rw[ab.flat hg] at hl
  match c,hl with
  |[u],_=>simp[fm,pack]
theorem OW.len [Rd]{S:Nat→Prop}{e:TypeId}{v:Value}{xs:List α}{o:Operand}(hu:P.underlying t=some (.slice e))(hx:ev L o=some v)(h:Rv S w v xs):
  OW P Q L ⟨d,.call {callee:= .builtin .len,args:= #[o],argTypes:= #[t]},ty,pos,af,g⟩ w (fun v' w'=>v'= .int .i64 (Dp.len xs)∧w'=w):=by
 obtain⟨p,cap,rfl,_⟩:=om h
 refine OW.run fun a ha=>⟨_,w, ?_,rfl,rfl⟩
 simp[execOp,resolve,invoke,builtin,Builtin.len_,run_underlying hu,ha _ _ hx,goInt,Dp.len]
theorem OW.min [Rd]{u v:Operand}{p q:Int}{ts:Array TypeId}(hu:ev L u=some (.int .i64 p))(hv:ev L v=some (.int .i64 q)):
  OW P Q L ⟨d,.call {callee:= .builtin .min,args:= #[u,v],argTypes:=ts},ty,pos,af,g⟩ w (fun v' w'=>v'= .int .i64 (if q<p then q else p)∧w'=w):=by
 refine OW.run fun a ha=>⟨_,w, ?_,rfl,rfl⟩
 simp[execOp,resolve,invoke,builtin,Builtin.min_,Builtin.min2,ha _ _ hu,ha _ _ hv]
theorem OW.max [Rd]{u v:Operand}{p q:Int}{ts:Array TypeId}(hu:ev L u=some (.int .i64 p))(hv:ev L v=some (.int .i64 q)):
  OW P Q L ⟨d,.call {callee:= .builtin .max,args:= #[u,v],argTypes:=ts},ty,pos,af,g⟩ w (fun v' w'=>v'= .int .i64 (if p<q then q else p)∧w'=w):=by
 refine OW.run fun a ha=>⟨_,w, ?_,rfl,rfl⟩
 simp[execOp,resolve,invoke,builtin,Builtin.max_,Builtin.max2,ha _ _ hu,ha _ _ hv]
theorem OW.afn [Rd]{u v x:Operand}{p q r:Int}{ts:Array TypeId}(hu:ev L u=some (.int .i64 p))(hv:ev L v=some (.int .i64 q))(hx:ev L x=some (.int .i64 r)):
  OW P Q L ⟨d,.call {callee:= .builtin .max,args:= #[u,v,x],argTypes:=ts},ty,pos,af,g⟩ w (fun v' w'=>v'= .int .i64 (if(if p<q then q else p)<r then r else if p<q then q else p)∧w'=w):=by
 refine OW.run fun a ha=>⟨_,w, ?_,rfl,rfl⟩
 simp[execOp,resolve,invoke,builtin,Builtin.max_,Builtin.max2,ha _ _ hu,ha _ _ hv,ha _ _ hx]
theorem OW.afm [Rd]{u v x y:Operand}{p q r s:Int}{ts:Array TypeId}(hu:ev L u=some (.int .i64 p))(hv:ev L v=some (.int .i64 q))(hx:ev L x=some (.int .i64 r))(hy:ev L y=some (.int .i64 s)):
  OW P Q L ⟨d,.call {callee:= .builtin .max,args:= #[u,v,x,y],argTypes:=ts},ty,pos,af,g⟩ w (fun v' w'=>v'= .int .i64 (if(if(if p<q then q else p)<r then r else if p<q then q else p)<s then s else if(if p<q then q else p)<r then r else if p<q then q else p)∧w'=w):=by
 refine OW.run fun a ha=>⟨_,w, ?_,rfl,rfl⟩
 simp[execOp,resolve,invoke,builtin,Builtin.max_,Builtin.max2,ha _ _ hu,ha _ _ hv,ha _ _ hx,ha _ _ hy]
theorem OW.afj [Rd]{u v x:Operand}{p q r:Int}{ts:Array TypeId}(hu:ev L u=some (.int .i64 p))(hv:ev L v=some (.int .i64 q))(hx:ev L x=some (.int .i64 r)):
  OW P Q L ⟨d,.call {callee:= .builtin .min,args:= #[u,v,x],argTypes:=ts},ty,pos,af,g⟩ w (fun v' w'=>v'= .int .i64 (if r<(if q<p then q else p) then r else if q<p then q else p)∧w'=w):=by
 refine OW.run fun a ha=>⟨_,w, ?_,rfl,rfl⟩
 simp[execOp,resolve,invoke,builtin,Builtin.min_,Builtin.min2,ha _ _ hu,ha _ _ hv,ha _ _ hx]
theorem OW.quo [Rd]{u v:Operand}{p q r:Int}{t1 t2:TypeId}(hu:ev L u=some (.int .i64 p))(hv:ev L v=some (.int .i64 q))(h:ny p q=some r):
  OW P Q L ⟨d,.binOp .quo t1 u v t2,ty,pos,af,g⟩ w (fun v' w'=>v'= .int .i64 r∧w'=w):=by
 refine OW.run fun a ha=>⟨_,w, ?_,rfl,rfl⟩
 unfold ny at h
 split at h
 · cases h
 · rename_i hq
   cases h
   simp[execOp,eqGuard,binOp,Op.intDiv,ha _ _ hu,ha _ _ hv,hq,W]
theorem OW.rem [Rd]{k:IntKind}{u v:Operand}{p q r:Int}{t1 t2:TypeId}(hu:ev L u=some (.int k p))(hv:ev L v=some (.int k q))(h:jh p q=some r):
  OW P Q L ⟨d,.binOp .rem t1 u v t2,ty,pos,af,g⟩ w (fun v' w'=>v'= .int k r∧w'=w):=by
 refine OW.run fun a ha=>⟨_,w, ?_,rfl,rfl⟩
 unfold jh at h
 split at h
 · cases h
 · rename_i hq
   cases h
   simp[execOp,eqGuard,binOp,Op.intDiv,ha _ _ hu,ha _ _ hv,hq]
theorem Gt{z:Nat}:∀{aw:List (List Value)},(∀c∈aw,c.length=z)→∀{i:Nat} {c:List Value},aw[i]? =some c→∀{j:Nat} {u:Value},c[j]? =some u→aw.flatten[i*z+j]? =some u
 |[],_,i,c,hi,_,_,_=>by simp at hi
 |b::aw,hz,0,c,hi,j,u,hu=>by
  have:b=c:=by simpa using hi
  subst this
  simp only[arn,Nat.zero_mul,Nat.zero_add]
  rw[ark (aq9.1 hu).1]
  exact hu
 |b::aw,hz,i+1,c,hi,j,u,hu=>by
  have hb:b.length=z:=hz b (by simp)
  have ih:=Gt (aw:=aw) (fun c hc=>hz c (by simp[hc])) (i:=i) (c:=c) (by simpa using hi) hu
  have e:(i+1)*z+j=b.length+(i*z+j):=by rw[hb,aru];omega
  rw[arn,e,ary (by omega),Nat.add_sub_cancel_left]
  exact ih
theorem bC.lK{S:Nat→Prop}{aw:List (List Value)}{xs:List α}(h:bC (ab.rd S w) aw xs):∀c∈aw,c.length=ab.sz α:=by
 intro c hc
 obtain⟨x,hx⟩:=h.mem c hc
 exact ab.len hx
def zk(v:Value)(z:Nat)(i:Int)(pa:Addr):Prop:=∃a n cap,v= .slice (some a) n cap∧pa=a.add (i.toNat*z)
theorem OW.indexAddr [Rd]{S:Nat→Prop}{e:TypeId}{v:Value}{xs:List α}{y:α}{u i:Operand}{k:IntKind}{j:Int}(hu:P.underlying t=some (.slice e))(hT:bz P e α)(hx:ev L u=some v)(h:Rv S w v xs)
  (hi:ev L i=some (.int k j)) (hj:idx xs j=some y):
  OW P Q L ⟨d,.indexAddr t u i,ty,pos,af,g⟩ w (fun v' w'=>w'=w∧∃pa,v'= .pointer (some pa)∧ru S w pa y∧zk v (ab.sz α) j pa):=by
 obtain⟨p,cap,rfl,h1,h2,h3⟩:=om h
 unfold idx at hj
 split at hj
 · rename_i h0
   have aK:j.toNat<xs.length:=(aq9.1 hj).1
   rcases h3 with h3|⟨a,aw,rfl,h4,h5,h6⟩
   · subst h3;simp at hj
   · obtain⟨c,eu,gG⟩:=h5.get hj
     refine OW.run fun b hb=>⟨_,w, ?_,rfl,a.add (j.toNat*ab.sz α),rfl,⟨c,gG,by rw[H'];exact h4,fun m q hq=> ?_⟩,a,_,cap,rfl,rfl⟩
     · have bW:j<(xs.length:Int):=by omega
       simp[execOp,UO hb hx,UO hb hi,Instr.indexAt,asIntOf,run_underlying hu,h0,bW,hT.sizeOf]
     · rw[tC]
       exact h6 _ _ (Gt h5.lK eu hq)
 · cases hj
where
 UO {b:Act} (hb:Reads L b) {o:Operand} {v:Value} (h:ev L o=some v):b.eval o=v:=hb _ _ h
theorem OW.agv [Rd]{e m:TypeId}{pa:Addr}{u i:Operand}{k:IntKind}{q:Nat}(hu:P.underlying t=some (.array m e))(hT:bz P e α)(hx:ev L u=some (.pointer (some pa)))(hi:ev L i=some (.int k (q:Int)))(hq:q<m):
  OW P Q L ⟨d,.indexAddr t u i,ty,pos,af,g⟩ w (fun v w'=>v= .pointer (some (pa.add (q*ab.sz α)))∧w'=w):=by
 refine OW.run fun b hb=>⟨_,w, ?_,rfl,rfl⟩
 have h1:b.eval u= .pointer (some pa):=hb _ _ hx
 have h2:b.eval i= .int k (q:Int):=hb _ _ hi
 have h3:(q:Int)<(m:Int):=by omega
 simp[execOp,h1,h2,Instr.indexAt,asIntOf,run_underlying hu,Instr.sureAddr,hq,hT.sizeOf]
theorem OW.agw [Rd]{S:Nat→Prop}{e m:TypeId}{xs:List α}{aw:List (List Value)}{y:α}{u i:Operand}{k:IntKind}{j:Int}(hu:P.underlying t=some (.array m e))(hm:xs.length=m)(hT:bz P e α)
  (hx:ev L u=some (.agg aw.flatten.toArray)) (h:bC (ab.rd S w) aw xs) (hi:ev L i=some (.int k j)) (hj:idx xs j=some y):
  OW P Q L ⟨d,.index t u i,ty,pos,af,g⟩ w (fun v' w'=>w'=w∧Rv S w v' y):=by
 unfold idx at hj
 split at hj
 · rename_i h0
   have aK:j.toNat<xs.length:=(aq9.1 hj).1
   obtain⟨c,eu,gG⟩:=h.get hj
   obtain⟨l1,l2,hl,hlen⟩:=cut h.lK eu
   have bW:j<(m:Int):=by omega
   have hp:=adF (P:=P) (w:=w) hT hl gG
   refine OW.run fun b hb=>⟨_,w, ?_,rfl,c,rfl,gG⟩
   simp[execOp,hb _ _ hx,hb _ _ hi,Instr.index,asIntOf,run_underlying hu,h0,bW,hT.sizeOf,←hlen,hp]
 · cases hj
where
 cut {z:Nat}:∀{aw:List (List Value)},(∀c∈aw,c.length=z)→∀{i:Nat} {c:List Value},aw[i]? =some c→∃l1 l2,aw.flatten=l1++c++l2∧l1.length=i*z
  |[],_,i,c,hi=>by simp at hi
  |b::aw,hz,0,c,hi=>by
   have:b=c:=by simpa using hi
   subst this
   exact⟨[],aw.flatten,by simp,by simp⟩
  |b::aw,hz,i+1,c,hi=>by
   obtain⟨l1,l2,h1,h2⟩:=cut (aw:=aw) (fun c hc=>hz c (by simp[hc])) (i:=i) (c:=c) (by simpa using hi)
   refine⟨b++l1,l2,by rw[arn,h1];simp, ?_⟩
   rw[aqY,h2,hz b (by simp),aru];omega
theorem ba.alloc(o:bL)(w:World)(ob:Obj)(c:Nat):ba [] [c] o w (grow o w c) (w.alloc ob):=
 ba.fresh c ((Below.refl _ _).alloc (aqM _) _)
theorem nM(o:bL)(w:World)(c b:Nat)(h:w.heap.size≤b):grow o w c b=c:=by simp[grow,Nat.not_lt.2 h]
end
end
end Dp
end Go.Proofs.YtncbfgppjfcijaaGreat
namespace Go.Proofs.YtncbfgppjfcijaaGreat
open Go Go.RowKit
namespace Dp
class Flat(α:Type)[ab α]:Prop where
 any:∀{S S':Nat→Prop} {w w':World} {cs:List Value} {x:α},ab.rd S w cs x→ab.rd S' w' cs x
instance:Flat Int:=⟨fun h=>h⟩
instance:Flat Bool:=⟨fun h=>h⟩
instance:Flat ByteArray:=⟨fun h=>h⟩
instance:Flat U8:=⟨fun h=>h⟩
instance{α β:Type}[ab α][ab β][Flat α][Flat β]:Flat (α×β):=⟨fun⟨c1,c2,h,h1,h2⟩=>⟨c1,c2,h,Flat.any h1,Flat.any h2⟩⟩
structure FnV where
 v:Value
instance:ab FnV where
 sz:=1
 agg:=false
 zc:=[.nilFunc]
 zero:=⟨.nilFunc⟩
 rd:=fun _ _ cs x=>cs=[x.v]∧x.v.oneCell'=true
 len:=by rintro S w cs x ⟨rfl,_⟩;rfl
 one:=by rintro S w cs x ⟨rfl,h⟩ u hu;simp at hu;subst hu;exact h
 mono:=fun _ h=>h
 flat:=fun _=>rfl
 pos:=Nat.one_pos
 d_:=fun _ _=>⟨rfl,rfl⟩
instance:Flat FnV:=⟨fun h=>h⟩
def dM{α:Type}[ab α](S:Nat→Prop)(w:World)(v:Value)(ys:List α):Prop:=
 ∃p cap,v= .slice p ys.length cap∧(ys=[]∨∃a aw,p=some a∧bC (ab.rd S w) aw ys∧gy w a aw.flatten)
section
variable {α β:Type} [ab α] [ab β]
theorem Rv.bS{S:Nat→Prop}{w:World}{v:Value}{ys:List α}(h:Rv S w v ys):dM S w v ys:=by
 obtain⟨p,cap,rfl,_,_,h⟩:=om h
 refine⟨p,cap,rfl, ?_⟩
 rcases h with h|⟨a,aw,h1,_,h3,h4⟩
 · exact .inl h
 · exact .inr ⟨a,aw,h1,h3,h4⟩
theorem Ow.bS{T:TypeId}{o:bL}{k:Nat}{K:List Nat}{w:World}{v:Value}{ys:List α}(r:Ow T o k K w v ys):dM (In o K) w v ys:=by
 rcases r with⟨rfl,rfl⟩|⟨g,cap,aL,aw,rfl,h2,h3,h4,h5,h6,h7,h8⟩
 · exact⟨none,0,rfl,.inl rfl⟩
 · refine⟨_,cap,rfl,.inr ⟨_,aw,rfl,h7, ?_⟩⟩
   intro j u hu
   have dL:(⟨g,0,none⟩:Addr).add j=⟨g,j,none⟩:=by unfold Addr.add;split<;>simp_all
   rw[dL,cell_of_row w g j aL T (0,0) h3]
   rw[←h8,arh] at hu
   split at hu
   · simpa using hu
   · cases hu
theorem dM.flat [Flat α]{S S':Nat→Prop}{w:World}{v:Value}{ys:List α}(h:dM S w v ys):dM S' w v ys:=by
 obtain⟨p,cap,rfl,h⟩:=h
 refine⟨p,cap,rfl, ?_⟩
 rcases h with h|⟨a,aw,h1,h3,h4⟩
 · exact .inl h
 · exact .inr ⟨a,aw,h1,h3.mono fun _ _=>Flat.any,h4⟩
variable {P:Program} {n:Nat} {Q:Exit→Act→World→Prop} {L:List (Nat×Value)} {w:World} {ops:Array Oper} {rest:List Oper} {d:Option Tmp} {ty:TypeId} {pos:String} {af:Array Edge} {g:Option (Nat×Bool)} {t T e:TypeId} {o:bL} {K:List Nat} {k:Nat}
theorem ba.row{c:Nat}{b:Nat}(cs:Array Value)(hb:o b=c):ba [c] [] o w o (w.setRow b cs):=
 ⟨rfl,rfl,rfl,by simp,fun _ _=>rfl,fun b' h1 h2=>by simp at h2;omega,fun b' _ bg=>setRow_other w b b' cs (fun e=>bg (by rw[e,hb];exact List.mem_singleton.2 rfl))⟩
theorem OW.make [Rd]{u1 u2:Operand}{zs:List α}{m:Int}(hu:P.underlying t=some (.slice e))(hT:bz P e α)(h1:ev L u1=some (.int .i64 m))(h2:ev L u2=some (.int .i64 m))(hm:rZ α m=some zs):
  OW P Q L ⟨d,.makeSlice t u1 u2,ty,pos,af,g⟩ w (fun v' w'=>∃o',ba [] [k] o w o' w'∧Ow e o' k [] w' v' zs):=by
 unfold rZ at hm
 split at hm
 · rename_i hb
   cases hm
   obtain⟨i,dX,cF,fF,jo⟩:=hT.jD
   have hr:=run_make (P:=P) w t e i _ hu dX jo .i64 .i64 m m hb.1 (by omega) (by
    have h:(i.bytes:Int)≤65536:=by omega
    have h':(i.bytes:Int)*m≤65536*1073741824:=Int.mul_le_mul h hb.2 hb.1 (by omega)
    omega) (by omega)
   refine OW.run fun a ha=>⟨.slice (some ⟨w.heap.size,0,none⟩) m.toNat m.toNat,w.alloc (.cells (madeCells (pack (ab.agg α) (ab.zc α)).cells (m.toNat*i.size)) e), ?_,_,ba.alloc o w _ k,.inr ⟨w.heap.size,m.toNat,_,aqS m.toNat (ab.zc α), ?_,nM o w k _ (aqM _),heap_alloc_new w _,by simp, ?_, ?_, ?_, ?_⟩⟩
   · simp[execOp,ha _ _ h1,ha _ _ h2,hr]
   · simp
   · unfold maxLen;omega
   · simp[size_madeCells,cF]
   · exact bC.replicate (ab.d_ _ _) _
   · have hz:(pack (ab.agg α) (ab.zc α)).cells.toList=ab.zc α:=qF (α:=α) (ab.d_ (fun _=>True) w)
     have eP:(ab.zc α).length=ab.sz α:=ab.len (ab.d_ (α:=α) (fun _=>True) w)
     have nE:=ab.pos (α:=α)
     generalize Tz:(pack (ab.agg α) (ab.zc α)).cells=z at*
     rw[cF]
     rw[List.length_replicate,arY (by simp[size_madeCells])]
     unfold madeCells
     have eI:z.size=ab.sz α:=by rw[←arE,hz,eP]
     have key:∀q:Nat,(List.range (q*ab.sz α)).map (z[·% z.size]!)=(aqS q (ab.zc α)).flatten:=by
      intro q
      induction q with
      |zero=>simp
      |succ q ih=>
       rw[List.replicate_succ',aro,←ih,aru,List.range_add,List.map_append]
       congr 1
       simp only[List.map_map,List.flatten_singleton]
       rw[←hz]
       apply arQ
       intro j
       by_cases hj:j<ab.sz α
       · have e1:(q*ab.sz α+j)% z.size=j:=by rw[eI,Nat.mul_comm,Nat.mul_add_mod,Nat.mod_eq_of_lt hj]
         have et:j<z.size:=by omega
         simp[hj,e1,et,getElem!_pos]
       · simp[hj,eI]
     simpa using key m.toNat
 · cases hm
theorem uq{S:Nat→Prop}{aw:List (List Value)}{xs:List α}(h:bC (ab.rd S w) aw xs):∀u∈aw.flatten,u.oneCell'=true:=by
 intro u hu
 obtain⟨c,hc,huc⟩:=List.mem_flatten.1 hu
 obtain⟨x,hx⟩:=h.mem c hc
 exact ab.one hx u huc
theorem mb{S:Nat→Prop}{aw:List (List Value)}{xs:List α}(h:bC (ab.rd S w) aw xs):aw.flatten.length=xs.length*ab.sz α:=by
 have hl:=h.length
 have hs:=h.lK
 rw[←hl]
 clear h hl
 induction aw with
 |nil=>simp
 |cons c aw ih=>
  rw[arn,aqY,ih (fun c hc=>hs c (by simp[hc])),hs c (by simp),arz,aru]
  omega
theorem RB{v vx:Value}{xs ys zs:List α}(hu:P.underlying t=some (.slice e))(hT:bz P e α)(ho:Ow e o k K w v xs)(hr:dM (In o K) w vx ys)(hz:bq xs ys=some zs)(hd:gJ K [k]=true):
  ∃v' w' o',(Builtin.append_ #[t,t] ty #[v,vx]).run P w= .ok v' w'∧ba [k] [k] o w o' w'∧Ow e o' k K w' v' zs:=by
 unfold bq at hz
 split at hz
 case isFalse=>cases hz
 rename_i hlen
 cases hz
 obtain⟨i,dX,cF,fF,jo⟩:=hT.jD
 obtain⟨p,Oc,rfl,hx⟩:=hr
 have oD:(pack (ab.agg α) (ab.zc α)).cells.toList=ab.zc α:=qF (α:=α) (ab.d_ (fun _=>True) w)
 have eP:(ab.zc α).length=ab.sz α:=ab.len (ab.d_ (α:=α) (fun _=>True) w)
 have eI:(pack (ab.agg α) (ab.zc α)).cells.size=ab.sz α:=by rw[←arE,oD,eP]
 have x_:(xs.length+ys.length)*i.bytes≤140737488355328:=by
  have:=Nat.mul_le_mul hlen fF
  omega
 by_cases hy:ys=[]
 · subst hy
   refine⟨v,w,o, ?_,ba.refl _ _ _ _,by simpa using ho⟩
   rcases ho with⟨rfl,rfl⟩|⟨gg,cap,aL,aw,rfl,h2,h3,h4,h5,h6,h7,h8⟩
   · cases p<;>simp[Builtin.append_,run_underlying hu,sizeOf,typeInfo,dX,Builtin.lenOf,Builtin.firstCells,loadCells,loadCellsFrom]
   · cases p<;>simp[Builtin.append_,run_underlying hu,sizeOf,typeInfo,dX,Builtin.lenOf,Builtin.firstCells,loadCells,loadCellsFrom,storeCells,h4]
 · rcases hx with hx|⟨a,jK,rfl,mN,k_⟩
   · exact(hy hx).elim
   have pP:=mb mN
   have Mq:=uq mN
   have agQ:0<ys.length:=List.length_pos_iff.2 hy
   rcases ho with⟨rfl,rfl⟩|⟨gg,cap,aL,aw,rfl,h2,h3,h4,h5,h6,h7,h8⟩
   · have fb:=run_append_nil (P:=P) w t ty e i _ hu dX jo a ys.length Oc jK.flatten (by rw[pP,cF]) k_ agQ (by simp at hlen;omega) (by simp at x_;omega)
     have pL:∀(ob:Obj) (b:Nat),In o K b→b<w.heap.size→In (grow o w k) K b∧(w.drew.alloc ob).heap[b]? =w.heap[b]? :=fun ob b hb aK=>
      ⟨by simp[In,grow,aK] at hb⊢;exact hb,Below.heap_alloc w.drew _ b aK⟩
     refine⟨_,_,grow o w k,fb, ?_,.inr ⟨w.heap.size,grownCap w ys.length 0 e,_,jK,by simp,nM o w k _ (aqM _),heap_alloc_new w.drew _, ?_, ?_, ?_, ?_, ?_⟩⟩
     · exact(ba.fresh k ((Below.refl _ _).drew.alloc (aqM _) _)).weaken (by simp) (by simp)
     · simpa using grownCap_ge w ys.length 0 e
     · exact grownCap_le_maxLen w _ _ _ (by unfold maxLen;simp at hlen;omega)
     · have nJ:=grownCap_ge w ys.length 0 e
       simp only[Array.size_append,arS,size_zeroCells,eI,pP,←aq_]
       congr 1
       omega
     · simp only[arT]
       exact mN.mono fun _ _=>ab.mono (pL _)
     · simp only[arT]
       rw[←pP]
       simp
   · have cf:=mb h7
     by_cases FH:xs.length+ys.length≤cap
     · have fb:=run_append_room (P:=P) w t ty e i hu dX gg xs.length cap aL h3 a ys.length Oc jK.flatten (by rw[pP,cF]) k_ Mq FH (by
        rw[cF,pP,h6,←aq_]
        exact arl _ FH)
       rw[cF] at fb
       have bh:ba [k] [k] o w o (w.setRow gg (aL.toList.take (xs.length*ab.sz α)++jK.flatten++aL.toList.drop (xs.length*ab.sz α+jK.flatten.length)).toArray):=(ba.row _ h2).weaken (by simp) (by simp)
       refine⟨_,_,o,fb,bh,.inr ⟨gg,cap,_,aw++jK,by simp,h2,setRow_heap w gg aL _ e _ h3,by simpa using FH,h5, ?_, ?_, ?_⟩⟩
       · have air:(xs.length+ys.length)*ab.sz α≤cap*ab.sz α:=arl _ FH
         rw[aq_] at air
         simp only[arS,aqY,arU,List.length_drop,arE,h6,pP]
         omega
       · exact bC.append (h7.mono fun _ _=>ab.mono (bh.ro hd)) (mN.mono fun _ _=>ab.mono (bh.ro hd))
       · simp only[aqY,aro]
         rw[h8,aq_,←pP,←cf,←aqY]
         exact ar8
     · have ahF:∀(j:Nat) (u:Value),aw.flatten[j]? =some u→w.cell? ((⟨gg,0,none⟩:Addr).add j)=some u:=by
        intro j u hu
        have dL:(⟨gg,0,none⟩:Addr).add j=⟨gg,j,none⟩:=by unfold Addr.add;split<;>simp_all
        rw[dL,cell_of_row w gg j aL e (0,0) h3]
        rw[←h8,arh] at hu
        split at hu
        · simpa using hu
        · cases hu
       have fb:=run_append_grow (P:=P) w t ty e i _ hu dX jo ⟨gg,0,none⟩ xs.length cap aw.flatten (by rw[cf,cF]) ahF a ys.length Oc jK.flatten (by rw[pP,cF]) k_ (by omega) (by omega) (growslice_fits (by omega) x_)
       have nJ:=grownCap_ge w (xs.length+ys.length) cap e
       have pL:∀(ob:Obj) (b:Nat),In o K b→b<w.heap.size→In (grow o w k) K b∧(w.drew.alloc ob).heap[b]? =w.heap[b]? :=fun ob b hb aK=>
        ⟨by simp[In,grow,aK] at hb⊢;exact hb,Below.heap_alloc w.drew _ b aK⟩
       refine⟨_,_,grow o w k,fb, ?_,.inr ⟨w.heap.size,grownCap w (xs.length+ys.length) cap e,_,aw++jK,by simp,nM o w k _ (aqM _),heap_alloc_new w.drew _,by simpa using nJ, ?_, ?_, ?_, ?_⟩⟩
       · exact(ba.fresh k ((Below.refl _ _).drew.alloc (aqM _) _)).weaken (by simp) (by simp)
       · exact grownCap_le_maxLen w _ _ _ (by unfold maxLen;omega)
       · simp only[Array.size_append,arS,size_zeroCells,eI,pP,cf,←aq_]
         congr 1
         omega
       · exact bC.append (h7.mono fun _ _=>ab.mono (pL _)) (mN.mono fun _ _=>ab.mono (pL _))
       · simp only[aqY,aro,Array.toList_append,aq4]
         rw[aq_,←pP,←cf,←aqY,←aq4]
         exact ar8
end
end Dp
end Go.Proofs.YtncbfgppjfcijaaGreat
namespace Go.Proofs.YtncbfgppjfcijaaGreat
open Go Go.RowKit
namespace Dp
section
variable {α β:Type} [ab α] [ab β]
variable {P:Program} {n:Nat} {Q:Exit→Act→World→Prop} {L:List (Nat×Value)} {w:World} {ops:Array Oper} {rest:List Oper} {d:Option Tmp} {ty:TypeId} {pos:String} {af:Array Edge} {g:Option (Nat×Bool)} {t T e:TypeId} {o:bL} {K:List Nat} {k:Nat}
theorem OW.append [Rd]{s x:Operand}{v vx:Value}{xs ys zs:List α}(hu:P.underlying t=some (.slice e))(hT:bz P e α)(hs:ev L s=some v)(hx:ev L x=some vx)(ho:Ow e o k K w v xs)(hr:dM (In o K) w vx ys)(hz:bq xs ys=some zs)(hd:gJ K [k]=true):
  OW P Q L ⟨d,.call {callee:= .builtin .append,args:= #[s,x],argTypes:= #[t,t]},ty,pos,af,g⟩ w (fun v' w'=>∃o',ba [k] [k] o w o' w'∧Ow e o' k K w' v' zs):=by
 obtain⟨v',w',o',h1,h2,h3⟩:=RB (P:=P) (ty:=ty) hu hT ho hr hz hd
 refine OW.run fun a ha=>⟨v',w', ?_,o',h2,h3⟩
 simp[execOp,resolve,invoke,builtin,ha _ _ hs,ha _ _ hx,h1]
theorem Vn{z:Nat}:∀{aw:List (List Value)},(∀c∈aw,c.length=z)→∀{i:Nat},i<aw.length→∀{c:List Value},c.length=z→(aw.set i c).flatten=aw.flatten.take (i*z)++c++aw.flatten.drop (i*z+z)
 |[],_,i,hi,_,_=>by simp at hi
 |b::aw,hz,0,_,c,hc=>by
  have hb:b.length=z:=hz b (by simp)
  simp[hc,←hb]
 |b::aw,hz,i+1,hi,c,hc=>by
  have hb:b.length=z:=hz b (by simp)
  have ih:=Vn (aw:=aw) (fun c hc=>hz c (by simp[hc])) (i:=i) (by simpa using hi) hc
  have e1:(i+1)*z=b.length+i*z:=by rw[hb,aru];omega
  simp only[List.set_cons_succ,arn,ih,e1]
  rw[List.take_length_add_append,ar3,asc]
  simp
theorem Vo{z:Nat}:∀{aw:List (List Value)},(∀c∈aw,c.length=z)→∀{i:Nat} {c:List Value},aw[i]? =some c→(aw.flatten.drop (i*z)).take z=c
 |[],_,i,c,hi=>by simp at hi
 |b::aw,hz,0,c,hi=>by
  have:b=c:=by simpa using hi
  subst this
  have hb:b.length=z:=hz b (by simp)
  simp[←hb]
 |b::aw,hz,i+1,c,hi=>by
  have hb:b.length=z:=hz b (by simp)
  have ih:=Vo (aw:=aw) (fun c hc=>hz c (by simp[hc])) (i:=i) (c:=c) (by simpa using hi)
  have e1:(i+1)*z=b.length+i*z:=by rw[hb,aru];omega
  rw[arn,e1,asc]
  exact ih
theorem Q5{A c:List Value}{m N:Nat}(h:m+c.length≤N)(hN:N≤A.length):(A.take m++c++A.drop (m+c.length)).take N=(A.take N).take m++c++(A.take N).drop (m+c.length):=by
 apply arQ
 intro j
 rw[arh]
 have FQ:min m A.length=m:=by omega
 have Ub:min m (min N A.length)=m:=by omega
 by_cases hj:j<N
 · rw[if_pos hj]
   by_cases h1:j<m
   · rw[ark (by simp;omega),ark (by simp;omega),ark (by simp;omega),ark (by simp;omega),arh,arh,arh,if_pos h1,if_pos h1,if_pos hj]
   · by_cases h2:j<m+c.length
     · rw[ark (by simp;omega),ary (by simp;omega),ark (by simp;omega),ary (by simp;omega)]
       simp[FQ,Ub]
     · rw[ary (by simp;omega),ary (by simp;omega)]
       simp only[aqY,arU,FQ,Ub,arM]
       rw[arh,if_pos (by omega)]
 · rw[if_neg hj]
   symm
   apply List.getElem?_eq_none
   simp
   omega
theorem Ow.put{v:Value}{xs:List α}{pa:Addr}{j:Int}{off:Nat}{c':List Value}{y y':α}(hE:zk v (ab.sz α) j pa)(ho:Ow T o k K w v xs)(hy:idx xs j=some y)(h1:∀u∈c',u.oneCell'=true)(uU:off+c'.length≤ab.sz α)
  (ahw:∀cs,ab.rd (In o K) w cs y→ab.rd (In o K) w (cs.take off++c'++cs.drop (off+c'.length)) y') (hd:gJ K [k]=true):
  ∃w',(storeCells (pa.add off) c').run P w= .ok () w'∧ba [k] [] o w o w'∧Ow T o k K w' v (xs.set j.toNat y'):=by
 unfold idx at hy
 split at hy
 case isFalse=>cases hy
 rename_i h0
 have aK:j.toNat<xs.length:=(aq9.1 hy).1
 rcases ho with⟨rfl,rfl⟩|⟨gg,cap,aL,aw,rfl,h2,h3,h4,h5,h6,h7,h8⟩
 · simp at aK
 · obtain⟨a,m,vM,hv,rfl⟩:=hE
   have ha:a=⟨gg,0,none⟩:=by
    have:=congrArg (fun v=>match v with|Value.slice (some a) _ _=>a|_=>(⟨0,0,none⟩:Addr)) hv
    simpa using this.symm
   subst ha
   obtain⟨c,eu,gG⟩:=h7.get hy
   have dy:=h7.lK
   have cf:c.length=ab.sz α:=ab.len gG
   have dL:((⟨gg,0,none⟩:Addr).add (j.toNat*ab.sz α)).add off=⟨gg,j.toNat*ab.sz α+off,none⟩:=by
    rw[tC]
    unfold Addr.add
    split<;>simp_all
   have hmul:(j.toNat+1)*ab.sz α≤xs.length*ab.sz α:=arl _ aK
   have ahL:xs.length*ab.sz α≤cap*ab.sz α:=arl _ h4
   rw[aru] at hmul
   have bD:=run_storeCells_at P gg (j.toNat*ab.sz α+off) T c' 0 aL w h3 (by omega) h1
   rw[←dL] at bD
   simp only[Nat.add_zero] at bD
   have bh:ba [k] [] o w o (w.setRow gg (aL.toList.take (j.toNat*ab.sz α+off)++c'++aL.toList.drop (j.toNat*ab.sz α+off+c'.length)).toArray):=ba.row _ h2
   refine⟨_,bD,bh,.inr ⟨gg,cap,_,aw.set j.toNat (c.take off++c'++c.drop (off+c'.length)),by simp,h2,setRow_heap w gg aL _ T _ h3,by simpa using h4,h5, ?_, ?_, ?_⟩⟩
   · simp
     omega
   · exact(bC.set h7 j.toNat (ahw _ gG)).mono fun _ _=>ab.mono (bh.ro hd)
   · have MF:j.toNat<aw.length:=by rw[h7.length];exact aK
     rw[Vn dy MF (by simp;omega),List.length_set]
     simp only
     rw[Q5 (by omega) (by simp;omega),h8]
     have dG:=mb h7
     have hce:c=(aw.flatten.drop (j.toNat*ab.sz α)).take (ab.sz α):=(Vo dy eu).symm
     rw[hce]
     generalize aw.flatten=A at*
     generalize hq:j.toNat*ab.sz α=q at*
     generalize ab.sz α=z at*
     rw[List.take_take,Nat.min_eq_left (by omega),List.drop_take,arp]
     rw[show q+off=q+off from rfl,List.take_add,aq4,aq4,aq4,aq4,aq4]
     congr 3
     rw[show q+(off+c'.length)=q+off+c'.length from by omega,show A.drop (q+z)=(A.drop (q+off+c'.length)).drop (z-(off+c'.length)) from by rw[arp];congr 1;omega]
     rw[List.take_append_drop]
def rW(L:List (Nat×Value)):Nat→List (Nat×Operand)→Option (List Value)
 |_,[]=>some []
 |k,(i,x)::r=>match Nat.beq i k,ev L x,rW L (k+1) r with
  |true,some v,some vs=>some (v::vs)
  |_,_,_=>none
def ry(S:Nat→Prop)(w:World):List Value→List α→Prop
 |[],[]=>True
 |v::vs,x::xs=>Rv S w v x∧ry S w vs xs
 |_,_=>False
theorem ry.aw{S:Nat→Prop}:∀{vs:List Value} {xs:List α},ry S w vs xs→∃aw,vs=aw.map (pack (ab.agg α))∧bC (ab.rd S w) aw xs
 |[],[],_=>⟨[],rfl,trivial⟩
 |_::_,_::_,h=>by
  obtain⟨⟨c,rfl,h1⟩,h2⟩:=h
  obtain⟨aw,rfl,h3⟩:=ry.aw h2
  exact⟨c::aw,rfl,h1,h3⟩
 |[],_::_,h=>h.elim
 |_::_,[],h=>h.elim
def number:Nat→List Value→List (Nat×Value)
 |_,[]=>[]
 |k,v::r=>(k,v)::number (k+1) r
theorem Kz [Rd]{a:Act}(ha:Reads L a):∀{l:List (Nat×Operand)} {k:Nat} {vs:List Value},rW L k l=some vs→l.map (fun p=>(p.1,a.eval p.2))=number k vs
 |[],k,vs,h=>by simp[rW] at h;subst h;rfl
 |(i,x)::r,k,vs,h=>by
  unfold rW at h
  split at h
  · rename_i v us h1 h2 h3
    cases h
    have hi:i=k:=Nat.eq_of_beq_eq_true h1
    simp[number,Kz ha h3,ha _ _ h2,hi]
  · cases h
theorem R7(c:List Value):∀(off s:Nat) (A:Array Value),off+s+c.length≤A.size→(c.zipIdx s).foldl (fun cs (x:Value×Nat)=>cs.setIfInBounds (off+x.2) x.1) A=(A.toList.take (off+s)++c++A.toList.drop (off+s+c.length)).toArray:=by
 induction c with
 |nil=>intro off s A _;simp
 |cons x c ih=>
  intro off s A h
  have hs:off+s<A.size:=by simp at h;omega
  rw[List.zipIdx_cons,List.foldl_cons,ih off (s+1) _ (by simp at h⊢;omega)]
  apply congrArg
  simp only[Array.toList_setIfInBounds]
  apply arQ
  intro j
  have hlen:(A.toList.set (off+s) x).length=A.toList.length:=by simp
  by_cases h1:j<off+s
  · rw[aq4,ark (by simp;omega),arh,if_pos (by omega),arq,if_neg (by omega),aq4,ark (by simp;omega),arh,if_pos h1]
  · by_cases h2:j=off+s
    · subst h2
      rw[aq4,ark (by simp;omega),arh,if_pos (by omega),arq,if_pos rfl,if_pos (by simpa using hs),aq4,ary (by simp;omega)]
      have:off+s-(A.toList.take (off+s)).length=0:=by simp;omega
      rw[this]
      simp
    · by_cases h3:j<off+s+(c.length+1)
      · rw[aq4,ary (by simp;omega),ark (by simp;omega),aq4,ary (by simp;omega),ark (by simp;omega)]
        have e1:j-((A.toList.set (off+s) x).take (off+(s+1))).length=j-(off+s+1):=by simp;omega
        have e2:j-(A.toList.take (off+s)).length=(j-(off+s+1))+1:=by simp;omega
        rw[e1,e2]
        simp
      · simp only[arz] at h h3⊢
        rw[aq4,ary (by simp;omega),ary (by simp;omega),aq4,ary (by simp;omega),ary (by simp;omega)]
        simp only[arU,arM,arz,hlen]
        rw[arq,if_neg (by simp;omega)]
        congr 1
        simp
        omega
theorem NG{S:Nat→Prop}{xs:List α}:∀{aw:List (List Value)} {xs:List α},bC (ab.rd S w) aw xs→∀(k:Nat) (A:Array Value),(k+aw.length)*ab.sz α≤A.size→
  Instr.fill (fun i=>some (i*ab.sz α,ab.sz α)) A (number k (aw.map (pack (ab.agg α))))=some (A.toList.take (k*ab.sz α)++aw.flatten++A.toList.drop ((k+aw.length)*ab.sz α)).toArray
 |[],[],_,k,A,h=>by simp[number,Instr.fill]
 |c::aw,x::xs,hh,k,A,h=>by
  have li:=qF hh.1
  have cf:=ab.len hh.1
  have Mm:(pack (ab.agg α) c).cells=c.toArray:=Array.toList_inj.1 (by simpa using li)
  have hm:(k+1+aw.length)*ab.sz α≤A.size:=by rw[arz] at h;rw[show k+1+aw.length=k+(aw.length+1) from by omega];exact h
  have Uc:(k+1)*ab.sz α≤(k+1+aw.length)*ab.sz α:=arl _ (by omega)
  have e1:(k+1)*ab.sz α=k*ab.sz α+ab.sz α:=aru _ _
  have Uy:=R7 c (k*ab.sz α) 0 A (by omega)
  simp only[Nat.add_zero] at Uy
  have ih:=NG (xs:=xs) hh.2 (k+1) ((A.toList.take (k*ab.sz α)++c++A.toList.drop (k*ab.sz α+c.length)).toArray) (by simp;omega)
  simp only[List.map_cons,number,Instr.fill,Mm,arS,cf,ne_eq,not_true_eq_false,false_or,decide_false,Bool.false_or]
  rw[if_neg (by simp;omega)]
  have ez:c.toArray.zipIdx.toList=c.zipIdx:=by simp
  rw[←Array.foldl_toList,ez,Uy]
  rw[ih]
  apply congrArg
  apply congrArg
  simp only
  rw[List.take_append_of_le_length (by simp;omega),arY (by simp;omega),List.drop_append,List.drop_eq_nil_of_le (by simp;omega),arT,arp]
  simp only[arn,aq4,arz]
  congr 4
  simp
  have:(k+(aw.length+1))*ab.sz α=(k+1+aw.length)*ab.sz α:=by rw[show k+(aw.length+1)=k+1+aw.length from by omega]
  omega
 |[],_::_,h,_,_,_=>h.elim
 |_::_,[],h,_,_,_=>h.elim
end
end Dp
end Go.Proofs.YtncbfgppjfcijaaGreat
