import Derived.Test.YtgaghlbepnjhiaaGreatDm
set_option linter.all false
open Array renaming length_toList->oj
open Bool renaming true->ab
open Decidable renaming decide->ak
open Go renaming Builtin->dO,Oper->aV,Operand->ba,Program->cT,TypeId->aX,Value->ai,World->ax
open List renaming append_assoc->eg,drop_append_of_le_length->YZ,drop_drop->mT,drop_length_add_append->J4,ext_getElem?->xL,flatten_append->oh,flatten_cons->nE,getElem?_append_left->mr,getElem?_append_right->p7,getElem?_drop->wk,getElem?_eq_some_iff->g9,getElem?_set->o_,getElem?_take->mq,length_append->cW,length_cons->jd,length_take->o9,nil_append->o7,replicate->cR,size_toArray->xI,take_left->Cj,take_of_length_le->xH
open Nat renaming add_assoc->q9,add_mul->jc,add_sub_cancel_left->Ci,le_refl->bw,mul_le_mul_right->mo,succ_mul->pX,zero_add->ke
open Option renaming some->aa
namespace Go.Proofs.YtgaghlbepnjhiaaGreat
open Go Go.RowKit
namespace Dp
def W(x:Int):Int:=IntKind.i64.wrap x
def zt{x:Int}(h1: -9223372036854775808<=x)(h2:x<=9223372036854775807):W x=x:=IntWalk.i64_in x ⟨h1,by omega⟩
def idx{α:Type}(xs:List α)(j:Int):Option α:=if 0<=j then xs[j.toNat]? else none
def dq{α:Type}(xs:List α)(j:Int)(y:α):Option (List α):=if 0<=j∧j<xs.length then aa (xs.set j.toNat y)else none
def bD{α:Type}(xs ys:List α):Option (List α):=if xs.length+ys.length<=1073741824 then aa (xs++ys)else none
def yx(α:Type)[ad α](n:Int):Option (List α):=if 0<=n∧n<=1073741824 then aa (cR n.toNat ad.zero)else none
def dH{α:Type}(xs:List α)(lo hi:Int):Option (List α):=if 0<=lo∧lo<=hi∧hi<=xs.length then aa ((xs.take hi.toNat).drop lo.toNat)else none
def nJ(a b:Int):Option Int:=if b=0 then none else aa (W (a.tdiv b))
def lA(a b:Int):Option Int:=if b=0 then none else aa (a.tmod b)
def len{α:Type}(xs:List α):Int:=xs.length
def bin:BinOp->ai->ai->Option ai
 | .add,.int .i64 a,.int .i64 b=>aa (.int .i64 (W (a+b)))
 | .sub,.int .i64 a,.int .i64 b=>aa (.int .i64 (W (a-b)))
 | .mul,.int .i64 a,.int .i64 b=>aa (.int .i64 (W (a*b)))
 | .eql,.int .i64 a,.int .i64 b=>aa (.bool (a==b))
 | .neq,.int .i64 a,.int .i64 b=>aa (.bool (a !=b))
 | .lss,.int .i64 a,.int .i64 b=>aa (.bool (ak (a<b)))
 | .leq,.int .i64 a,.int .i64 b=>aa (.bool (ak (a<=b)))
 | .gtr,.int .i64 a,.int .i64 b=>aa (.bool (ak (a>b)))
 | .geq,.int .i64 a,.int .i64 b=>aa (.bool (ak (a>=b)))
 |_,_,_=>none
def oQ(L:List (Nat×ai)):List ba->Option (List ai)
 |[]=>aa []
 |x::r=>match ev L x,oQ L r with
  |some v,aa vs=>aa (v::vs)
  |_,_=>none
def pv(L:List (Nat×ai)):Op->Option ai
 | .move x=>ev L x
 | .assign x=>ev L x
 | .pick c a b=>match ev L c with
   |some (.bool ab)=>ev L a
   |some (.bool false)=>ev L b
   |_=>none
 | .binOp op _ x y _=>match ev L x,ev L y with
   |some a,aa b=>bin op a b
   |_,_=>none
 | .unOp .not _ x=>match ev L x with
   |some (.bool b)=>aa (.bool (!b))
   |_=>none
 | .unOp .neg _ x=>match ev L x with
   |some (.int .i64 a)=>aa (.int .i64 (W (-a)))
   |_=>none
 | .nilCheck x=>match ev L x with
   |some (.pointer (aa a))=>aa (.pointer (aa a))
   |_=>none
 | .extract x i=>match ev L x with
   |some (.tuple vs)=>vs[i]?
   |_=>none
 | .makeFunc fn first jo=>match oQ L first.toList,oQ L jo.toList with
   |some f,aa c=>aa (.func fn f.toArray c.toArray)
   |_,_=>none
 |_=>none
section
variable {P:cT} {n:Nat} {Q:Exit->Act->ax->Prop} {L:List (Nat×ai)} {w:ax} {ops:Array aV} {rest:List aV} {d:Option Tmp} {ty:aX} {pos:String} {af:Array Edge} {g:Option (Nat×Bool)}
abbrev Reads(L:List (Nat×ai))(a:Act):Prop:=∀x v,ev L x=aa v->a.eval x=v
def LG{ro:Option Nat}{o:aV}{ρ:ba->ai}{x:Next}{w':ax}(h:(execOp ρ o).run P w= .ok x w')(hx:∀d,x≠.defer d):(o.semAt ro ρ).run P w= .ok x w':=by
 by_cases hd:∃c,o.op= .defer c
 ·obtain⟨c,hc⟩:=hd;exfalso;simp only[execOp,hc,Sem.run_bind]at h;generalize (resolve ρ c o.type).run P w=r at h;cases r with
  |ok d w1=>simp only[Result.andThen_ok,Sem.run_pure,Result.ok.injEq]at h;exact hx _ h.1.symm
  |halt e w1=>cases h
 ·rw[aV.semAt_eq ro ρ o λc hc=>hd ⟨c,hc⟩];exact h
def OW.run [I:Rd]{o:aV}{R:ai->ax->Prop}(h:∀a,Reads L a->∃v w',(execOp a.eval o).run P w= .ok (.value v) w'∧R v w'):OW P Q L o w R:=by intro a K ha hK;obtain⟨v,w',h1,h2⟩:=h a ha;unfold aV.wpIn;rw[LG h1 (λ_ h=>by cases h)];exact⟨λf _=>trivial,hK v w' h2⟩
def OW.LP [I:Rd]{o:aV}{R:ai->ax->Prop}(h:∀a,Reads L a->∃w',(execOp a.eval o).run P w= .ok .skip w'∧R undef w'):OW P Q L o w R:=by intro a K ha hK;obtain⟨w',h1,h2⟩:=h a ha;unfold aV.wpIn;rw[LG h1 (λ_ h=>by cases h)];exact⟨λf _=>trivial,hK _ w' h2⟩
def mi(R:ai->ax->Prop):Ending->ax->Prop:=λe w'=>∃v,e= .returned v∧R v w'
def OW.abf [I:Rd]{o:aV}{R:ai->ax->Prop}(h:∀a,Reads L a->∃f args,(execOp a.eval o).run P w= .ok (.enter f args) w∧Calls P f args w (mi R)):OW P Q L o w R:=by intro a K ha hK;obtain⟨f,args,h1,h2⟩:=h a ha;unfold aV.wpIn;rw[LG h1 (λ_ h=>by cases h),aV.uponIn_enter];refine⟨λf _=>trivial,λh=>by simp[Rd.F,Fence.wide]at h,?_⟩;have h3:=(callsIn_wide (n:=0)).2 h2;refine(h3:CallsIn Fence.wide 0 P f args w (mi R)).mono ?_;rintro e w' ⟨v,rfl,hr⟩;exact hK v w' hr
def EB [Rd]{a:Act}(ha:Reads L a):∀(l:List ba) {vs:List ai},oQ L l=aa vs->l.map a.eval=vs
 |[],vs,h=>by simp[oQ]at h;simp[h]
 |x::r,vs,h=>by
  unfold oQ at h;split at h
  ·rename_i v us h1 h2;cases h;simp[ha _ _ h1,EB ha r h2]
  ·cases h
def aDG{op:BinOp}{x y v:ai}{a b:ba}(h:bin op x y=aa v)(t:aX):(eqGuard op t a b x y).run P w= .ok () w∧(binOp op t x y).run P w= .ok v w:=by
 unfold bin at h;split at h<;>first
  |(cases h;simp[eqGuard,binOp,Op.intArith,Op.intCmp,W];done)
  |cases h
def OW.pv [Rd]{op:Op}{v:ai}(h:Dp.pv L op=aa v):OW P Q L ⟨d,op,ty,pos,af,g⟩ w (λv' w'=>v'=v∧w'=w):=by
 refine OW.run λa ha=>⟨v,w,?_,rfl,rfl⟩;unfold Dp.pv at h;split at h
 ·rename_i x;simp[execOp,ha _ _ h]
 ·rename_i x;simp[execOp,ha _ _ h]
 ·rename_i c x y;split at h<;>first
   |(rename_i hc;simp[execOp,ha _ _ hc,ha _ _ h,asBool];done)
   |cases h
 ·rename_i op t x y u;split at h
  ·rename_i vx vy hx hy;obtain⟨h1,h2⟩:=aDG (P:=P) (w:=w) (a:=x) (b:=y) h t;simp[execOp,ha _ _ hx,ha _ _ hy,Sem.run_bind,h1,h2]
  ·cases h
 ·rename_i t x;split at h
  ·rename_i b hx;cases h;simp[execOp,ha _ _ hx,Op.unary]
  ·cases h
 ·rename_i t x;split at h
  ·rename_i b hx;cases h;simp[execOp,ha _ _ hx,Op.unary,W,Op.intArith]
  ·cases h
 ·rename_i x;split at h
  ·rename_i b hx;cases h;simp[execOp,ha _ _ hx]
  ·cases h
 ·rename_i x i;split at h
  ·rename_i vs hx;simp[execOp,ha _ _ hx,Instr.extract,h]
  ·cases h
 ·rename_i fn first jo
  split at h
  ·rename_i f c hf hc;cases h;have h1:first.map a.eval=f.toArray:=by rw[<-EB ha _ hf,<-List.map_toArray,Array.toArray_toList]
   have h2:jo.map a.eval=c.toArray:=by rw[<-EB ha _ hc,<-List.map_toArray,Array.toArray_toList]
   simp[execOp,Instr.makeFunc,h1,h2]
  ·cases h
 ·cases h
def WL.v [I:Rd]{d:Nat}{op:Op}{v:ai}(h:Dp.pv L op=aa v)(hd:I.fb n d=ab)(k:WL P n ops Q rest ((d,v)::L) w):WL P n ops Q (⟨aa d,op,ty,pos,af,none⟩::rest) L w:=WL.step (OW.pv h) hd (by rintro v' w' ⟨rfl,rfl⟩;exact k)
def Fw(a:Addr)(i j:Nat):(a.add i).add j=a.add (i+j):=by
 by_cases hi:i=0
 ·subst hi;simp[Addr.add]
 ·by_cases hj:j=0
  ·subst hj;simp[Addr.add]
  ·simp[Addr.add,hi,hj,q9]
structure bN(P:cT)(t:aX)(α:Type)[ad α]:Prop where
 agg:∃d,P.underlying t=aa d∧(match d with| .struct _| .array _ _=>ab|_=>false)=ad.agg α
 m_:∃i,P.info? t=aa i∧i.size=ad.sz α∧i.bytes<=65536∧i.zero=aa (pack (ad.agg α) (ad.zc α))
def aEa{α β:Type}[ad α][ad β](off:Nat)(st:α->β->α):Prop:=∀{S:Nat->Prop} {w:ax} {cs:List ai} {x:α} {c':List ai} {y:β},ad.rd S w cs x->ad.rd S w c' y->ad.rd S w (cs.take off++c'++cs.drop (off+c'.length)) (st x y)
section
variable {α β:Type} [ad α] [ad β] {t T:aX} {x:ba}
def bN.isAgg(h:bN P t α)(w:ax):(isAgg t).run P w= .ok (ad.agg α) w:=by obtain⟨d,h1,h2⟩:=h.agg;unfold Go.isAgg;rw[Sem.run_bind,run_underlying h1 w];simp only[Result.andThen_ok];rw[<-h2];cases d<;>rfl
def bN.sizeOf(h:bN P t α)(w:ax):(sizeOf t).run P w= .ok (ad.sz α) w:=by obtain⟨i,h1,h2,_⟩:=h.m_;simp[Go.sizeOf,typeInfo,h1,h2]
def bN.zero(h:bN P t α)(w:ax):(zeroValue t).run P w= .ok (pack (ad.agg α) (ad.zc α)) w:=by obtain⟨i,h1,_,_,h4⟩:=h.m_;simp[zeroValue,typeInfo,h1,h4]
def ap2(hT:bN P t β){cs c1 c c2:List ai}{S:Nat->Prop}{y:β}(jk:cs=c1++c++c2)(hc:ad.rd S w c y):(part t cs.toArray c1.length).run P w= .ok (pack (ad.agg β) c) w:=by
 have hl:=ad.len hc;simp only[part,Sem.run_bind,hT.isAgg,Result.andThen_ok];cases hg:ad.agg β with
 |true=>simp[hT.sizeOf,pack,<-hl,jk]
 |false=>
  rw[ad.flat hg]at hl;match c,hl with
  |[u],_=>simp[jk,pack]
def OW.len [Rd]{S:Nat->Prop}{e:aX}{v:ai}{xs:List α}{o:ba}(hu:P.underlying t=aa (.slice e))(hx:ev L o=aa v)(h:Rv S w v xs):
  OW P Q L ⟨d,.call {callee:= .builtin .len,args:= #[o],argTypes:= #[t]},ty,pos,af,g⟩ w (λv' w'=>v'= .int .i64 (Dp.len xs)∧w'=w):=by
 obtain⟨p,cap,rfl,_⟩:=u9 h
 refine OW.run λa ha=>⟨_,w,?_,rfl,rfl⟩
 simp[execOp,resolve,invoke,builtin,dO.len_,run_underlying hu,ha _ _ hx,goInt,Dp.len]
def OW.min [Rd]{u v:ba}{p q:Int}{ts:Array aX}(hu:ev L u=aa (.int .i64 p))(hv:ev L v=aa (.int .i64 q)):
  OW P Q L ⟨d,.call {callee:= .builtin .min,args:= #[u,v],argTypes:=ts},ty,pos,af,g⟩ w (λv' w'=>v'= .int .i64 (if q<p then q else p)∧w'=w):=by
 refine OW.run λa ha=>⟨_,w,?_,rfl,rfl⟩
 simp[execOp,resolve,invoke,builtin,dO.min_,dO.min2,ha _ _ hu,ha _ _ hv]
def OW.max [Rd]{u v:ba}{p q:Int}{ts:Array aX}(hu:ev L u=aa (.int .i64 p))(hv:ev L v=aa (.int .i64 q)):
  OW P Q L ⟨d,.call {callee:= .builtin .max,args:= #[u,v],argTypes:=ts},ty,pos,af,g⟩ w (λv' w'=>v'= .int .i64 (if p<q then q else p)∧w'=w):=by
 refine OW.run λa ha=>⟨_,w,?_,rfl,rfl⟩
 simp[execOp,resolve,invoke,builtin,dO.max_,dO.max2,ha _ _ hu,ha _ _ hv]
def OW.ase [Rd]{u v x:ba}{p q r:Int}{ts:Array aX}(hu:ev L u=aa (.int .i64 p))(hv:ev L v=aa (.int .i64 q))(hx:ev L x=aa (.int .i64 r)):
  OW P Q L ⟨d,.call {callee:= .builtin .max,args:= #[u,v,x],argTypes:=ts},ty,pos,af,g⟩ w (λv' w'=>v'= .int .i64 (if(if p<q then q else p)<r then r else if p<q then q else p)∧w'=w):=by
 refine OW.run λa ha=>⟨_,w,?_,rfl,rfl⟩
 simp[execOp,resolve,invoke,builtin,dO.max_,dO.max2,ha _ _ hu,ha _ _ hv,ha _ _ hx]
def OW.asd [Rd]{u v x y:ba}{p q r s:Int}{ts:Array aX}(hu:ev L u=aa (.int .i64 p))(hv:ev L v=aa (.int .i64 q))(hx:ev L x=aa (.int .i64 r))(hy:ev L y=aa (.int .i64 s)):
  OW P Q L ⟨d,.call {callee:= .builtin .max,args:= #[u,v,x,y],argTypes:=ts},ty,pos,af,g⟩ w (λv' w'=>v'= .int .i64 (if(if(if p<q then q else p)<r then r else if p<q then q else p)<s then s else if(if p<q then q else p)<r then r else if p<q then q else p)∧w'=w):=by
 refine OW.run λa ha=>⟨_,w,?_,rfl,rfl⟩
 simp[execOp,resolve,invoke,builtin,dO.max_,dO.max2,ha _ _ hu,ha _ _ hv,ha _ _ hx,ha _ _ hy]
def OW.ar_ [Rd]{u v x:ba}{p q r:Int}{ts:Array aX}(hu:ev L u=aa (.int .i64 p))(hv:ev L v=aa (.int .i64 q))(hx:ev L x=aa (.int .i64 r)):
  OW P Q L ⟨d,.call {callee:= .builtin .min,args:= #[u,v,x],argTypes:=ts},ty,pos,af,g⟩ w (λv' w'=>v'= .int .i64 (if r<(if q<p then q else p)then r else if q<p then q else p)∧w'=w):=by
 refine OW.run λa ha=>⟨_,w,?_,rfl,rfl⟩
 simp[execOp,resolve,invoke,builtin,dO.min_,dO.min2,ha _ _ hu,ha _ _ hv,ha _ _ hx]
def OW.quo [Rd]{u v:ba}{p q r:Int}{t1 t2:aX}(hu:ev L u=aa (.int .i64 p))(hv:ev L v=aa (.int .i64 q))(h:nJ p q=aa r):
  OW P Q L ⟨d,.binOp .quo t1 u v t2,ty,pos,af,g⟩ w (λv' w'=>v'= .int .i64 r∧w'=w):=by
 refine OW.run λa ha=>⟨_,w,?_,rfl,rfl⟩
 unfold nJ at h
 split at h
 ·cases h
 ·rename_i hq;cases h;simp[execOp,eqGuard,binOp,Op.intDiv,ha _ _ hu,ha _ _ hv,hq,W]
def OW.rem [Rd]{k:IntKind}{u v:ba}{p q r:Int}{t1 t2:aX}(hu:ev L u=aa (.int k p))(hv:ev L v=aa (.int k q))(h:lA p q=aa r):
  OW P Q L ⟨d,.binOp .rem t1 u v t2,ty,pos,af,g⟩ w (λv' w'=>v'= .int k r∧w'=w):=by
 refine OW.run λa ha=>⟨_,w,?_,rfl,rfl⟩
 unfold lA at h
 split at h
 ·cases h
 ·rename_i hq;cases h;simp[execOp,eqGuard,binOp,Op.intDiv,ha _ _ hu,ha _ _ hv,hq]
def N4{z:Nat}:∀{aJ:List (List ai)},(∀c∈aJ,c.length=z)->∀{i:Nat} {c:List ai},aJ[i]? =aa c->∀{j:Nat} {u:ai},c[j]? =aa u->aJ.flatten[i*z+j]? =aa u
 |[],_,i,c,hi,_,_,_=>by simp at hi
 |b::aJ,hz,0,c,hi,j,u,hu=>by
  have:b=c:=by simpa using hi
  subst this;simp only[nE,Nat.zero_mul,ke];rw[mr (g9.1 hu).1];exact hu
 |b::aJ,hz,i+1,c,hi,j,u,hu=>by
  have hb:b.length=z:=hz b (by simp);have ih:=N4 (aJ:=aJ) (λc hc=>hz c (by simp[hc])) (i:=i) (c:=c) (by simpa using hi) hu;have e:(i+1)*z+j=b.length+(i*z+j):=by rw[hb,pX];omega
  rw[nE,e,p7 (by omega),Ci];exact ih
def cA.pu{S:Nat->Prop}{aJ:List (List ai)}{xs:List α}(h:cA (ad.rd S w) aJ xs):∀c∈aJ,c.length=ad.sz α:=by intro c hc;obtain⟨x,hx⟩:=h.mem c hc;exact ad.len hx
def FU(v:ai)(z:Nat)(i:Int)(pa:Addr):Prop:=∃a n cap,v= .slice (aa a) n cap∧pa=a.add (i.toNat*z)
def OW.indexAddr [Rd]{S:Nat->Prop}{e:aX}{v:ai}{xs:List α}{y:α}{u i:ba}{k:IntKind}{j:Int}(hu:P.underlying t=aa (.slice e))(hT:bN P e α)(hx:ev L u=aa v)(h:Rv S w v xs)
  (hi:ev L i=aa (.int k j)) (hj:idx xs j=aa y):
  OW P Q L ⟨d,.indexAddr t u i,ty,pos,af,g⟩ w (λv' w'=>w'=w∧∃pa,v'= .pointer (aa pa)∧xE S w pa y∧FU v (ad.sz α) j pa):=by
 obtain⟨p,cap,rfl,h1,h2,h3⟩:=u9 h
 unfold idx at hj
 split at hj
 ·rename_i h0;have aS:j.toNat<xs.length:=(g9.1 hj).1;rcases h3 with h3|⟨a,aJ,rfl,h4,h5,h6⟩
  ·subst h3;simp at hj
  ·obtain⟨c,jD,kz⟩:=h5.get hj;refine OW.run λb hb=>⟨_,w,?_,rfl,a.add (j.toNat*ad.sz α),rfl,⟨c,kz,by rw[P6];exact h4,λm q hq=>?_⟩,a,_,cap,rfl,rfl⟩
   ·have dt:j<(xs.length:Int):=by omega
    simp[execOp,ha_ hb hx,ha_ hb hi,Instr.indexAt,asIntOf,run_underlying hu,h0,dt,hT.sizeOf]
   ·rw[Fw];exact h6 _ _ (N4 h5.pu jD hq)
 ·cases hj
where
 ha_ {b:Act} (hb:Reads L b) {o:ba} {v:ai} (h:ev L o=aa v):b.eval o=v:=hb _ _ h
def OW.aty [Rd]{e m:aX}{pa:Addr}{u i:ba}{k:IntKind}{q:Nat}(hu:P.underlying t=aa (.array m e))(hT:bN P e α)(hx:ev L u=aa (.pointer (aa pa)))(hi:ev L i=aa (.int k (q:Int)))(hq:q<m):
  OW P Q L ⟨d,.indexAddr t u i,ty,pos,af,g⟩ w (λv w'=>v= .pointer (aa (pa.add (q*ad.sz α)))∧w'=w):=by
 refine OW.run λb hb=>⟨_,w,?_,rfl,rfl⟩
 have h1:b.eval u= .pointer (aa pa):=hb _ _ hx
 have h2:b.eval i= .int k (q:Int):=hb _ _ hi
 have h3:(q:Int)<(m:Int):=by omega
 simp[execOp,h1,h2,Instr.indexAt,asIntOf,run_underlying hu,Instr.sureAddr,hq,hT.sizeOf]
def OW.atz [Rd]{S:Nat->Prop}{e m:aX}{xs:List α}{aJ:List (List ai)}{y:α}{u i:ba}{k:IntKind}{j:Int}(hu:P.underlying t=aa (.array m e))(hm:xs.length=m)(hT:bN P e α)
  (hx:ev L u=aa (.agg aJ.flatten.toArray)) (h:cA (ad.rd S w) aJ xs) (hi:ev L i=aa (.int k j)) (hj:idx xs j=aa y):
  OW P Q L ⟨d,.index t u i,ty,pos,af,g⟩ w (λv' w'=>w'=w∧Rv S w v' y):=by
 unfold idx at hj
 split at hj
 ·rename_i h0;have aS:j.toNat<xs.length:=(g9.1 hj).1;obtain⟨c,jD,kz⟩:=h.get hj;obtain⟨l1,l2,hl,hlen⟩:=cut h.pu jD;have dt:j<(m:Int):=by omega
  have hp:=ap2 (P:=P) (w:=w) hT hl kz;refine OW.run λb hb=>⟨_,w,?_,rfl,c,rfl,kz⟩;simp[execOp,hb _ _ hx,hb _ _ hi,Instr.index,asIntOf,run_underlying hu,h0,dt,hT.sizeOf,<-hlen,hp]
 ·cases hj
where
 cut {z:Nat}:∀{aJ:List (List ai)},(∀c∈aJ,c.length=z)->∀{i:Nat} {c:List ai},aJ[i]? =aa c->∃l1 l2,aJ.flatten=l1++c++l2∧l1.length=i*z
  |[],_,i,c,hi=>by simp at hi
  |b::aJ,hz,0,c,hi=>by
   have:b=c:=by simpa using hi
   subst this;exact⟨[],aJ.flatten,by simp,by simp⟩
  |b::aJ,hz,i+1,c,hi=>by obtain⟨l1,l2,h1,h2⟩:=cut (aJ:=aJ) (λc hc=>hz c (by simp[hc])) (i:=i) (c:=c) (by simpa using hi);refine⟨b++l1,l2,by rw[nE,h1];simp,?_⟩;rw[cW,h2,hz b (by simp),pX];omega
def bJ.alloc(o:cE)(w:ax)(ob:Obj)(c:Nat):bJ [] [c] o w (grow o w c) (w.alloc ob):=bJ.fresh c ((Below.refl _ _).alloc (bw _) _)
def sT(o:cE)(w:ax)(c b:Nat)(h:w.heap.size<=b):grow o w c b=c:=by simp[grow,Nat.not_lt.2 h]
end
end
end Dp
end Go.Proofs.YtgaghlbepnjhiaaGreat
namespace Go.Proofs.YtgaghlbepnjhiaaGreat
open Go Go.RowKit
namespace Dp
class Flat(α:Type)[ad α]:Prop where
 any:∀{S S':Nat->Prop} {w w':ax} {cs:List ai} {x:α},ad.rd S w cs x->ad.rd S' w' cs x
instance:Flat Int:=⟨λh=>h⟩
instance:Flat Bool:=⟨λh=>h⟩
instance:Flat ByteArray:=⟨λh=>h⟩
instance:Flat U8:=⟨λh=>h⟩
instance{α β:Type}[ad α][ad β][Flat α][Flat β]:Flat (α×β):=⟨λ⟨c1,c2,h,h1,h2⟩=>⟨c1,c2,h,Flat.any h1,Flat.any h2⟩⟩
structure FnV where
 v:ai
instance:ad FnV where
 sz:=1
 agg:=false
 zc:=[.nilFunc]
 zero:=⟨.nilFunc⟩
 rd:=λ_ _ cs x=>cs=[x.v]∧x.v.oneCell'=ab
 len:=by rintro S w cs x ⟨rfl,_⟩;rfl
 one:=by rintro S w cs x ⟨rfl,h⟩ u hu;simp at hu;subst hu;exact h
 mono:=λ_ h=>h
 flat:=λ_=>rfl
 pos:=Nat.one_pos
 gh:=λ_ _=>⟨rfl,rfl⟩
instance:Flat FnV:=⟨λh=>h⟩
def fJ{α:Type}[ad α](S:Nat->Prop)(w:ax)(v:ai)(ys:List α):Prop:=∃p cap,v= .slice p ys.length cap∧(ys=[]∨∃a aJ,p=aa a∧cA (ad.rd S w) aJ ys∧j_ w a aJ.flatten)
section
variable {α β:Type} [ad α] [ad β]
def Rv.dp{S:Nat->Prop}{w:ax}{v:ai}{ys:List α}(h:Rv S w v ys):fJ S w v ys:=by
 obtain⟨p,cap,rfl,_,_,h⟩:=u9 h;refine⟨p,cap,rfl,?_⟩;rcases h with h|⟨a,aJ,h1,_,h3,h4⟩
 ·exact .inl h
 ·exact .inr ⟨a,aJ,h1,h3,h4⟩
def Ow.dp{T:aX}{o:cE}{k:Nat}{K:List Nat}{w:ax}{v:ai}{ys:List α}(r:Ow T o k K w v ys):fJ (In o K) w v ys:=by
 rcases r with⟨rfl,rfl⟩|⟨g,f,cap,aU,aJ,rfl,h2,h3,h4,h5,h6,h7,h8⟩
 ·exact⟨none,0,rfl,.inl rfl⟩
 ·refine⟨_,cap,rfl,.inr ⟨_,aJ,rfl,h7,?_⟩⟩;intro j u hu;rw[jR,cell_of_row w g (f+j) aU T (0,0) h3];rw[<-h8,mq]at hu;split at hu
  ·simpa using hu
  ·cases hu
def fJ.flat [Flat α]{S S':Nat->Prop}{w:ax}{v:ai}{ys:List α}(h:fJ S w v ys):fJ S' w v ys:=by
 obtain⟨p,cap,rfl,h⟩:=h;refine⟨p,cap,rfl,?_⟩;rcases h with h|⟨a,aJ,h1,h3,h4⟩
 ·exact .inl h
 ·exact .inr ⟨a,aJ,h1,h3.mono λ_ _=>Flat.any,h4⟩
variable {P:cT} {n:Nat} {Q:Exit->Act->ax->Prop} {L:List (Nat×ai)} {w:ax} {ops:Array aV} {rest:List aV} {d:Option Tmp} {ty:aX} {pos:String} {af:Array Edge} {g:Option (Nat×Bool)} {t T e:aX} {o:cE} {K:List Nat} {k:Nat}
def bJ.row{c:Nat}{b:Nat}(cs:Array ai)(hb:o b=c):bJ [c] [] o w o (w.setRow b cs):=⟨rfl,rfl,rfl,by simp,λ_ _=>rfl,λb' h1 h2=>by simp at h2;omega,λb' _ bM=>setRow_other w b b' cs (λe=>bM (by rw[e,hb];exact List.mem_singleton.2 rfl))⟩
def OW.make [Rd]{u1 u2:ba}{zs:List α}{m:Int}(hu:P.underlying t=aa (.slice e))(hT:bN P e α)(h1:ev L u1=aa (.int .i64 m))(h2:ev L u2=aa (.int .i64 m))(hm:yx α m=aa zs):
  OW P Q L ⟨d,.makeSlice t u1 u2,ty,pos,af,g⟩ w (λv' w'=>∃o',bJ [] [k] o w o' w'∧Ow e o' k [] w' v' zs):=by
 unfold yx at hm
 split at hm
 ·rename_i hb;cases hm;obtain⟨i,fP,eb,iK,mK⟩:=hT.m_;have hr:=run_make (P:=P) w t e i _ hu fP mK .i64 .i64 m m hb.1 (by omega) (by
   have h:(i.bytes:Int)<=65536:=by omega
   have h':(i.bytes:Int)*m<=65536*1073741824:=Int.mul_le_mul h hb.2 hb.1 (by omega);omega) (by omega)
  refine OW.run λa ha=>⟨.slice (aa ⟨w.heap.size,0,none⟩) m.toNat m.toNat,w.alloc (.cells (madeCells (pack (ad.agg α) (ad.zc α)).cells (m.toNat*i.size)) e),?_,_,bJ.alloc o w _ k,.inr ⟨w.heap.size,0,m.toNat,_,cR m.toNat (ad.zc α),?_,sT o w k _ (bw _),heap_alloc_new w _,by simp,?_,?_,?_,?_⟩⟩
  ·simp[execOp,ha _ _ h1,ha _ _ h2,hr]
  ·simp
  ·unfold maxLen;omega
  ·simp[size_madeCells,eb]
  ·exact cA.replicate (ad.gh _ _) _
  ·have hz:(pack (ad.agg α) (ad.zc α)).cells.toList=ad.zc α:=wR (α:=α) (ad.gh (λ_=>True) w);have ie:(ad.zc α).length=ad.sz α:=ad.len (ad.gh (α:=α) (λ_=>True) w);have oI:=ad.pos (α:=α);generalize hzz:(pack (ad.agg α) (ad.zc α)).cells=z at*;rw[eb];rw[List.length_replicate,xH (by simp[size_madeCells])];unfold madeCells;have jh:z.size=ad.sz α:=by rw[<-oj,hz,ie]
   have key:∀q:Nat,(List.range (q*ad.sz α)).map (z[·% z.size]!)=(cR q (ad.zc α)).flatten:=by
    intro q;induction q with
    |zero=>simp
    |succ q ih=>
     rw[List.replicate_succ',oh,<-ih,pX,List.range_add,List.map_append];congr 1;simp only[List.map_map,List.flatten_singleton];rw[<-hz];apply xL;intro j;by_cases hj:j<ad.sz α
     ·have e1:(q*ad.sz α+j)% z.size=j:=by rw[jh,Nat.mul_comm,Nat.mul_add_mod,Nat.mod_eq_of_lt hj]
      have nT:j<z.size:=by omega
      simp[hj,e1,nT,getElem!_pos]
     ·simp[hj,jh]
   simpa using key m.toNat
 ·cases hm
def Aw{S:Nat->Prop}{aJ:List (List ai)}{xs:List α}(h:cA (ad.rd S w) aJ xs):∀u∈aJ.flatten,u.oneCell'=ab:=by intro u hu;obtain⟨c,hc,huc⟩:=List.mem_flatten.1 hu;obtain⟨x,hx⟩:=h.mem c hc;exact ad.one hx u huc
def qN{S:Nat->Prop}{aJ:List (List ai)}{xs:List α}(h:cA (ad.rd S w) aJ xs):aJ.flatten.length=xs.length*ad.sz α:=by
 have hl:=h.length;have hs:=h.pu;rw[<-hl];clear h hl;induction aJ with
 |nil=>simp
 |cons c aJ ih=>rw[nE,cW,ih (λc hc=>hs c (by simp[hc])),hs c (by simp),jd,pX];omega
def abc(w:ax)(t ty e:aX)(i:TypeInfo)(ht:P.underlying t=aa (.slice e))(hi:P.info? e=aa i)
  (g f rj SG:Nat) (aU:Array ai) (hg:w.heap[g]? =aa (.cells aU e (0,0)))
  (a:Addr) (m c:Nat) (news:List ai) (hl:news.length=m*i.size) (auY:∀j u,news[j]? =aa u->w.cell? (a.add j)=aa u) (h1:∀u∈news,u.oneCell'=ab)
  (HP:rj+m<=SG) (Vj:f+rj*i.size+news.length<=aU.size):
  (dO.append_ #[t,t] ty #[.slice (aa ⟨g,f,none⟩) rj SG,.slice (aa a) m c]).run P w=
    .ok (.slice (aa ⟨g,f,none⟩) (rj+m) SG) (w.setRow g (aU.toList.take (f+rj*i.size)++news++aU.toList.drop (f+rj*i.size+news.length)).toArray):=by
 have hf:=run_firstCells_some (P:=P) w i.size m a m c news hl auY
 have b6:=run_storeCells_at P g (f+rj*i.size) e news 0 aU w hg (by simpa using Vj) h1
 simp only[Nat.add_zero]at b6
 simp[dO.append_,run_underlying ht,sizeOf,typeInfo,hi,dO.lenOf,HP,hf,Addr.add_lit,b6]
def abd{v vx:ai}{xs ys zs:List α}(hu:P.underlying t=aa (.slice e))(hT:bN P e α)(ho:Ow e o k K w v xs)(hr:fJ (In o K) w vx ys)(hz:bD xs ys=aa zs)(hd:j7 K [k]=ab):
  ∃v' w' o',(dO.append_ #[t,t] ty #[v,vx]).run P w= .ok v' w'∧bJ [k] [k] o w o' w'∧Ow e o' k K w' v' zs:=by
 unfold bD at hz
 split at hz
 case isFalse=>cases hz
 rename_i hlen
 cases hz
 obtain⟨i,fP,eb,iK,mK⟩:=hT.m_
 obtain⟨p,W3,rfl,hx⟩:=hr
 have tX:(pack (ad.agg α) (ad.zc α)).cells.toList=ad.zc α:=wR (α:=α) (ad.gh (λ_=>True) w)
 have ie:(ad.zc α).length=ad.sz α:=ad.len (ad.gh (α:=α) (λ_=>True) w)
 have jh:(pack (ad.agg α) (ad.zc α)).cells.size=ad.sz α:=by rw[<-oj,tX,ie]
 have Ep:(xs.length+ys.length)*i.bytes<=140737488355328:=by have:=Nat.mul_le_mul hlen iK;omega
 by_cases hy:ys=[]
 ·subst hy;refine⟨v,w,o,?_,bJ.refl _ _ _ _,by simpa using ho⟩;rcases ho with⟨rfl,rfl⟩|⟨gg,f,cap,aU,aJ,rfl,h2,h3,h4,h5,h6,h7,h8⟩
  ·cases p<;>simp[dO.append_,run_underlying hu,sizeOf,typeInfo,fP,dO.lenOf,dO.firstCells,loadCells,loadCellsFrom]
  ·cases p<;>simp[dO.append_,run_underlying hu,sizeOf,typeInfo,fP,dO.lenOf,dO.firstCells,loadCells,loadCellsFrom,storeCells,h4]
 ·rcases hx with hx|⟨a,k_,rfl,rC,pE⟩
  ·exact(hy hx).elim
  have vF:=qN rC;have UO:=Aw rC;have atU:0<ys.length:=List.length_pos_iff.2 hy;rcases ho with⟨rfl,rfl⟩|⟨gg,f,cap,aU,aJ,rfl,h2,h3,h4,h5,h6,h7,h8⟩
  ·have fD:=run_append_nil (P:=P) w t ty e i _ hu fP mK a ys.length W3 k_.flatten (by rw[vF,eb]) pE atU (by simp at hlen;omega) (by simp at Ep;omega);have vD:∀(ob:Obj) (b:Nat),In o K b->b<w.heap.size->In (grow o w k) K b∧(w.drew.alloc ob).heap[b]? =w.heap[b]? :=λob b hb aS=>
    ⟨by simp[In,grow,aS]at hb⊢;exact hb,Below.heap_alloc w.drew _ b aS⟩
   refine⟨_,_,grow o w k,fD,?_,.inr ⟨w.heap.size,0,grownCap w ys.length 0 e,_,k_,by simp,sT o w k _ (bw _),heap_alloc_new w.drew _,?_,?_,?_,?_,?_⟩⟩
   ·exact(bJ.fresh k ((Below.refl _ _).drew.alloc (bw _) _)).weaken (by simp) (by simp)
   ·simpa using grownCap_ge w ys.length 0 e
   ·exact grownCap_le_maxLen w _ _ _ (by unfold maxLen;simp at hlen;omega)
   ·have sP:=grownCap_ge w ys.length 0 e;simp only[Array.size_append,xI,size_zeroCells,jh,vF,<-jc,ke];exact mo _ (by omega)
   ·simp only[o7];exact rC.mono λ_ _=>ad.mono (vD _)
   ·simp only[o7,List.drop_zero];rw[<-vF];simp
  ·have dh:=qN h7;by_cases HP:xs.length+ys.length<=cap
   ·have Vj:(xs.length+ys.length)*ad.sz α<=cap*ad.sz α:=mo _ HP;rw[jc]at Vj;have fD:=abc (P:=P) w t ty e i hu fP gg f xs.length cap aU h3 a ys.length W3 k_.flatten (by rw[vF,eb]) pE UO HP (by rw[eb,vF];omega)
    rw[eb]at fD;have b8:bJ [k] [k] o w o (w.setRow gg (aU.toList.take (f+xs.length*ad.sz α)++k_.flatten++aU.toList.drop (f+xs.length*ad.sz α+k_.flatten.length)).toArray):=(bJ.row _ h2).weaken (by simp) (by simp);refine⟨_,_,o,fD,b8,.inr ⟨gg,f,cap,_,aJ++k_,by simp,h2,setRow_heap w gg aU _ e _ h3,by simpa using HP,h5,?_,?_,?_⟩⟩
    ·simp only[xI,cW,o9,List.length_drop,oj,vF];omega
    ·exact cA.append (h7.mono λ_ _=>ad.mono (b8.ro hd)) (rC.mono λ_ _=>ad.mono (b8.ro hd))
    ·have Vs:aU.toList.length=aU.size:=oj;have e1:(aU.toList.take (f+xs.length*ad.sz α)++k_.flatten++aU.toList.drop (f+xs.length*ad.sz α+k_.flatten.length)).drop f=aJ.flatten++k_.flatten++aU.toList.drop (f+xs.length*ad.sz α+k_.flatten.length):=by rw[eg,YZ (by rw[o9];omega),List.drop_take,Ci,h8,eg]
     simp only[cW,oh];rw[e1,jc,<-vF,<-dh,<-cW];exact Cj
   ·have auN:∀(j:Nat) (u:ai),aJ.flatten[j]? =aa u->w.cell? ((⟨gg,f,none⟩:Addr).add j)=aa u:=by
     intro j u hu;rw[jR,cell_of_row w gg (f+j) aU e (0,0) h3];rw[<-h8,mq]at hu;split at hu
     ·simpa using hu
     ·cases hu
    have fD:=run_append_grow (P:=P) w t ty e i _ hu fP mK ⟨gg,f,none⟩ xs.length cap aJ.flatten (by rw[dh,eb]) auN a ys.length W3 k_.flatten (by rw[vF,eb]) pE (by omega) (by omega) (growslice_fits (by omega) Ep);have sP:=grownCap_ge w (xs.length+ys.length) cap e;have vD:∀(ob:Obj) (b:Nat),In o K b->b<w.heap.size->In (grow o w k) K b∧(w.drew.alloc ob).heap[b]? =w.heap[b]? :=λob b hb aS=>
     ⟨by simp[In,grow,aS]at hb⊢;exact hb,Below.heap_alloc w.drew _ b aS⟩
    refine⟨_,_,grow o w k,fD,?_,.inr ⟨w.heap.size,0,grownCap w (xs.length+ys.length) cap e,_,aJ++k_,by simp,sT o w k _ (bw _),heap_alloc_new w.drew _,by simpa using sP,?_,?_,?_,?_⟩⟩
    ·exact(bJ.fresh k ((Below.refl _ _).drew.alloc (bw _) _)).weaken (by simp) (by simp)
    ·exact grownCap_le_maxLen w _ _ _ (by unfold maxLen;omega)
    ·simp only[Array.size_append,xI,size_zeroCells,jh,vF,dh,<-jc,ke];exact mo _ (by omega)
    ·exact cA.append (h7.mono λ_ _=>ad.mono (vD _)) (rC.mono λ_ _=>ad.mono (vD _))
    ·simp only[cW,oh,Array.toList_append,eg,List.drop_zero];rw[jc,<-vF,<-dh,<-cW,<-eg];exact Cj
end
end Dp
end Go.Proofs.YtgaghlbepnjhiaaGreat
namespace Go.Proofs.YtgaghlbepnjhiaaGreat
open Go Go.RowKit
namespace Dp
section
variable {α β:Type} [ad α] [ad β]
variable {P:cT} {n:Nat} {Q:Exit->Act->ax->Prop} {L:List (Nat×ai)} {w:ax} {ops:Array aV} {rest:List aV} {d:Option Tmp} {ty:aX} {pos:String} {af:Array Edge} {g:Option (Nat×Bool)} {t T e:aX} {o:cE} {K:List Nat} {k:Nat}
def OW.append [Rd]{s x:ba}{v vx:ai}{xs ys zs:List α}(hu:P.underlying t=aa (.slice e))(hT:bN P e α)(hs:ev L s=aa v)(hx:ev L x=aa vx)(ho:Ow e o k K w v xs)(hr:fJ (In o K) w vx ys)(hz:bD xs ys=aa zs)(hd:j7 K [k]=ab):
  OW P Q L ⟨d,.call {callee:= .builtin .append,args:= #[s,x],argTypes:= #[t,t]},ty,pos,af,g⟩ w (λv' w'=>∃o',bJ [k] [k] o w o' w'∧Ow e o' k K w' v' zs):=by
 obtain⟨v',w',o',h1,h2,h3⟩:=abd (P:=P) (ty:=ty) hu hT ho hr hz hd
 refine OW.run λa ha=>⟨v',w',?_,o',h2,h3⟩
 simp[execOp,resolve,invoke,builtin,ha _ _ hs,ha _ _ hx,h1]
def afp{z:Nat}:∀{aJ:List (List ai)},(∀c∈aJ,c.length=z)->∀{i:Nat},i<aJ.length->∀{c:List ai},c.length=z->(aJ.set i c).flatten=aJ.flatten.take (i*z)++c++aJ.flatten.drop (i*z+z)
 |[],_,i,hi,_,_=>by simp at hi
 |b::aJ,hz,0,_,c,hc=>by have hb:b.length=z:=hz b (by simp);simp[hc,<-hb]
 |b::aJ,hz,i+1,hi,c,hc=>by
  have hb:b.length=z:=hz b (by simp);have ih:=afp (aJ:=aJ) (λc hc=>hz c (by simp[hc])) (i:=i) (by simpa using hi) hc;have e1:(i+1)*z=b.length+i*z:=by rw[hb,pX];omega
  simp only[List.set_cons_succ,nE,ih,e1];rw[List.take_length_add_append,q9,J4];simp
def afq{z:Nat}:∀{aJ:List (List ai)},(∀c∈aJ,c.length=z)->∀{i:Nat} {c:List ai},aJ[i]? =aa c->(aJ.flatten.drop (i*z)).take z=c
 |[],_,i,c,hi=>by simp at hi
 |b::aJ,hz,0,c,hi=>by
  have:b=c:=by simpa using hi
  subst this;have hb:b.length=z:=hz b (by simp);simp[<-hb]
 |b::aJ,hz,i+1,c,hi=>by
  have hb:b.length=z:=hz b (by simp);have ih:=afq (aJ:=aJ) (λc hc=>hz c (by simp[hc])) (i:=i) (c:=c) (by simpa using hi);have e1:(i+1)*z=b.length+i*z:=by rw[hb,pX];omega
  rw[nE,e1,J4];exact ih
def aaK{A c:List ai}{m N:Nat}(h:m+c.length<=N)(hN:N<=A.length):(A.take m++c++A.drop (m+c.length)).take N=(A.take N).take m++c++(A.take N).drop (m+c.length):=by
 apply xL;intro j;rw[mq];have xd:min m A.length=m:=by omega
 have hmN:min m (min N A.length)=m:=by omega
 by_cases hj:j<N
 ·rw[aI hj];by_cases h1:j<m
  ·rw[mr (by simp;omega),mr (by simp;omega),mr (by simp;omega),mr (by simp;omega),mq,mq,mq,aI h1,aI h1,aI hj]
  ·by_cases h2:j<m+c.length
   ·rw[mr (by simp;omega),p7 (by simp;omega),mr (by simp;omega),p7 (by simp;omega)];simp[xd,hmN]
   ·rw[p7 (by simp;omega),p7 (by simp;omega)];simp only[cW,o9,xd,hmN,wk];rw[mq,aI (by omega)]
 ·rw[aK hj];symm;apply List.getElem?_eq_none;simp;omega
def Ow.put{v:ai}{xs:List α}{pa:Addr}{j:Int}{off:Nat}{c':List ai}{y y':α}(hE:FU v (ad.sz α) j pa)(ho:Ow T o k K w v xs)(hy:idx xs j=aa y)(h1:∀u∈c',u.oneCell'=ab)(Ba:off+c'.length<=ad.sz α)
  (auE:∀cs,ad.rd (In o K) w cs y->ad.rd (In o K) w (cs.take off++c'++cs.drop (off+c'.length)) y') (hd:j7 K [k]=ab):
  ∃w',(storeCells (pa.add off) c').run P w= .ok () w'∧bJ [k] [] o w o w'∧Ow T o k K w' v (xs.set j.toNat y'):=by
 unfold idx at hy
 split at hy
 case isFalse=>cases hy
 rename_i h0
 have aS:j.toNat<xs.length:=(g9.1 hy).1
 rcases ho with⟨rfl,rfl⟩|⟨gg,f,cap,aU,aJ,rfl,h2,h3,h4,h5,h6,h7,h8⟩
 ·simp at aS
 ·obtain⟨a,m,zi,hv,rfl⟩:=hE;have ha:a=⟨gg,f,none⟩:=by have:=iF (λv=>match v with|Value.slice (aa a) _ _=>a|_=>(⟨0,0,none⟩:Addr)) hv;simpa using this.symm
  subst ha;obtain⟨c,jD,kz⟩:=h7.get hy;have eQ:=h7.pu;have dh:c.length=ad.sz α:=ad.len kz;have jX:((⟨gg,f,none⟩:Addr).add (j.toNat*ad.sz α)).add off=⟨gg,f+(j.toNat*ad.sz α+off),none⟩:=by rw[jR,jR,q9]
  have hmul:(j.toNat+1)*ad.sz α<=xs.length*ad.sz α:=mo _ aS;have au1:xs.length*ad.sz α<=cap*ad.sz α:=mo _ h4;rw[pX]at hmul;have b6:=run_storeCells_at P gg (f+(j.toNat*ad.sz α+off)) T c' 0 aU w h3 (by omega) h1;rw[<-jX]at b6;simp only[Nat.add_zero]at b6;have b8:bJ [k] [] o w o (w.setRow gg (aU.toList.take (f+(j.toNat*ad.sz α+off))++c'++aU.toList.drop (f+(j.toNat*ad.sz α+off)+c'.length)).toArray):=bJ.row _ h2;refine⟨_,b6,b8,.inr ⟨gg,f,cap,_,aJ.set j.toNat (c.take off++c'++c.drop (off+c'.length)),by simp,h2,setRow_heap w gg aU _ T _ h3,by simpa using h4,h5,?_,?_,?_⟩⟩
  ·simp;omega
  ·exact(cA.set h7 j.toNat (auE _ kz)).mono λ_ _=>ad.mono (b8.ro hd)
  ·have U6:j.toNat<aJ.length:=by rw[h7.length];exact aS
   rw[afp eQ U6 (by simp;omega),List.length_set];simp only;have Vs:aU.toList.length=aU.size:=oj;have e0:(aU.toList.take (f+(j.toNat*ad.sz α+off))++c'++aU.toList.drop (f+(j.toNat*ad.sz α+off)+c'.length)).drop f=(aU.toList.drop f).take (j.toNat*ad.sz α+off)++c'++(aU.toList.drop f).drop (j.toNat*ad.sz α+off+c'.length):=by rw[eg,YZ (by rw[o9];omega),List.drop_take,Ci,eg,mT,q9]
   rw[e0,aaK (by omega) (by simp;omega),h8];have eL:=qN h7;have hce:c=(aJ.flatten.drop (j.toNat*ad.sz α)).take (ad.sz α):=(afq eQ jD).symm;rw[hce];generalize aJ.flatten=A at*;generalize hq:j.toNat*ad.sz α=q at*;generalize ad.sz α=z at*;rw[List.take_take,Nat.min_eq_left (by omega),List.drop_take,mT];rw[show q+off=q+off from rfl,List.take_add,eg,eg,eg,eg,eg];congr 3;rw[show q+(off+c'.length)=q+off+c'.length from by omega,show A.drop (q+z)=(A.drop (q+off+c'.length)).drop (z-(off+c'.length))from by rw[mT];congr 1;omega];rw[List.take_append_drop]
def yu(L:List (Nat×ai)):Nat->List (Nat×ba)->Option (List ai)
 |_,[]=>aa []
 |k,(i,x)::r=>match Nat.beq i k,ev L x,yu L (k+1) r with
  |true,aa v,aa vs=>aa (v::vs)
  |_,_,_=>none
def xG(S:Nat->Prop)(w:ax):List ai->List α->Prop
 |[],[]=>True
 |v::vs,x::xs=>Rv S w v x∧xG S w vs xs
 |_,_=>False
def xG.aJ{S:Nat->Prop}:∀{vs:List ai} {xs:List α},xG S w vs xs->∃aJ,vs=aJ.map (pack (ad.agg α))∧cA (ad.rd S w) aJ xs
 |[],[],_=>⟨[],rfl,trivial⟩
 |_::_,_::_,h=>by obtain⟨⟨c,rfl,h1⟩,h2⟩:=h;obtain⟨aJ,rfl,h3⟩:=xG.aJ h2;exact⟨c::aJ,rfl,h1,h3⟩
 |[],_::_,h=>h.elim
 |_::_,[],h=>h.elim
def number:Nat->List ai->List (Nat×ai)
 |_,[]=>[]
 |k,v::r=>(k,v)::number (k+1) r
def S6 [Rd]{a:Act}(ha:Reads L a):∀{l:List (Nat×ba)} {k:Nat} {vs:List ai},yu L k l=aa vs->l.map (λp=>(p.1,a.eval p.2))=number k vs
 |[],k,vs,h=>by simp[yu]at h;subst h;rfl
 |(i,x)::r,k,vs,h=>by
  unfold yu at h;split at h
  ·rename_i v us h1 h2 h3;cases h;have hi:i=k:=Nat.eq_of_beq_eq_true h1;simp[number,S6 ha h3,ha _ _ h2,hi]
  ·cases h
def abU(c:List ai):∀(off s:Nat) (A:Array ai),off+s+c.length<=A.size->(c.zipIdx s).foldl (λcs (x:ai×Nat)=>cs.setIfInBounds (off+x.2) x.1) A=(A.toList.take (off+s)++c++A.toList.drop (off+s+c.length)).toArray:=by
 induction c with
 |nil=>intro off s A _;simp
 |cons x c ih=>
  intro off s A h;have hs:off+s<A.size:=by simp at h;omega
  rw[List.zipIdx_cons,List.foldl_cons,ih off (s+1) _ (by simp at h⊢;omega)];apply iF;simp only[Array.toList_setIfInBounds];apply xL;intro j;have hlen:(A.toList.set (off+s) x).length=A.toList.length:=by simp
  by_cases h1:j<off+s
  ·rw[eg,mr (by simp;omega),mq,aI (by omega),o_,aK (by omega),eg,mr (by simp;omega),mq,aI h1]
  ·by_cases h2:j=off+s
   ·subst h2;rw[eg,mr (by simp;omega),mq,aI (by omega),o_,aI rfl,aI (by simpa using hs),eg,p7 (by simp;omega)];have:off+s-(A.toList.take (off+s)).length=0:=by simp;omega
    rw[this];simp
   ·by_cases h3:j<off+s+(c.length+1)
    ·rw[eg,p7 (by simp;omega),mr (by simp;omega),eg,p7 (by simp;omega),mr (by simp;omega)];have e1:j-((A.toList.set (off+s) x).take (off+(s+1))).length=j-(off+s+1):=by simp;omega
     have e2:j-(A.toList.take (off+s)).length=(j-(off+s+1))+1:=by simp;omega
     rw[e1,e2];simp
    ·simp only[jd]at h h3⊢;rw[eg,p7 (by simp;omega),p7 (by simp;omega),eg,p7 (by simp;omega),p7 (by simp;omega)];simp only[o9,wk,jd,hlen];rw[o_,aK (by simp;omega)];congr 1;simp;omega
def V5{S:Nat->Prop}{xs:List α}:∀{aJ:List (List ai)} {xs:List α},cA (ad.rd S w) aJ xs->∀(k:Nat) (A:Array ai),(k+aJ.length)*ad.sz α<=A.size->
  Instr.fill (λi=>aa (i*ad.sz α,ad.sz α)) A (number k (aJ.map (pack (ad.agg α))))=aa (A.toList.take (k*ad.sz α)++aJ.flatten++A.toList.drop ((k+aJ.length)*ad.sz α)).toArray
 |[],[],_,k,A,h=>by simp[number,Instr.fill]
 |c::aJ,x::xs,hh,k,A,h=>by
  have pJ:=wR hh.1;have dh:=ad.len hh.1;have UG:(pack (ad.agg α) c).cells=c.toArray:=Array.toList_inj.1 (by simpa using pJ);have hm:(k+1+aJ.length)*ad.sz α<=A.size:=by rw[jd]at h;rw[show k+1+aJ.length=k+(aJ.length+1)from by omega];exact h
  have hm1:(k+1)*ad.sz α<=(k+1+aJ.length)*ad.sz α:=mo _ (by omega);have e1:(k+1)*ad.sz α=k*ad.sz α+ad.sz α:=pX _ _;have aez:=abU c (k*ad.sz α) 0 A (by omega);simp only[Nat.add_zero]at aez;have ih:=V5 (xs:=xs) hh.2 (k+1) ((A.toList.take (k*ad.sz α)++c++A.toList.drop (k*ad.sz α+c.length)).toArray) (by simp;omega);simp only[List.map_cons,number,Instr.fill,UG,xI,dh,ne_eq,not_true_eq_false,false_or,decide_false,Bool.false_or];rw[aK (by simp;omega)];have ez:c.toArray.zipIdx.toList=c.zipIdx:=by simp
  rw[<-Array.foldl_toList,ez,aez];rw[ih];apply iF;apply iF;simp only;rw[List.take_append_of_le_length (by simp;omega),xH (by simp;omega),List.drop_append,List.drop_eq_nil_of_le (by simp;omega),o7,mT];simp only[nE,eg,jd];congr 4;simp;have:(k+(aJ.length+1))*ad.sz α=(k+1+aJ.length)*ad.sz α:=by rw[show k+(aJ.length+1)=k+1+aJ.length from by omega]
  omega
 |[],_::_,h,_,_,_=>h.elim
 |_::_,[],h,_,_,_=>h.elim
