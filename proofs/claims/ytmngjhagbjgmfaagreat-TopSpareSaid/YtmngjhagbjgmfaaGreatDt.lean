import Derived.Test.YtmngjhagbjgmfaaGreatDm
set_option linter.all false
open Array renaming length_toList->oc
open Bool renaming true->ab
open Decidable renaming decide->al
open Go renaming Builtin->dN,Oper->aT,Operand->a_,Program->cQ,TypeId->aY,Value->ah,World->ay
open List renaming append_assoc->ed,drop_append_of_le_length->Yb,drop_drop->q9,drop_length_add_append->Ju,ext_getElem?->xz,flatten_append->n9,flatten_cons->oZ,getElem?_append_left->mn,getElem?_append_right->pS,getElem?_drop->wc,getElem?_eq_some_iff->gK,getElem?_set->oY,getElem?_take->ml,length_append->cW,length_cons->jR,length_take->oX,nil_append->oV,replicate->cU,size_toArray->xy,take_left->B5,take_of_length_le->xx
open Nat renaming add_assoc->qX,add_mul->iT,add_sub_cancel_left->B4,le_refl->bx,mul_le_mul_right->mj,succ_mul->qW,zero_add->kG
open Option renaming none->ak,some->aa
namespace Go.Proofs.YtmngjhagbjgmfaaGreat
open Go Go.RowKit
namespace Dp
def W(x:Int):Int:=IntKind.i64.wrap x
def ze{x:Int}(h1: -9223372036854775808<=x)(h2:x<=9223372036854775807):W x=x:=IntWalk.i64_in x ⟨h1,by omega⟩
def idx{α:Type}(xs:List α)(j:Int):Option α:=if 0<=j then xs[j.toNat]? else ak
def di{α:Type}(xs:List α)(j:Int)(y:α):Option (List α):=if 0<=j∧j<xs.length then aa (xs.set j.toNat y)else ak
def bG{α:Type}(xs ys:List α):Option (List α):=if xs.length+ys.length<=1073741824 then aa (xs++ys)else ak
def ye(α:Type)[ad α](n:Int):Option (List α):=if 0<=n∧n<=1073741824 then aa (cU n.toNat ad.zero)else ak
def dK{α:Type}(xs:List α)(lo hi:Int):Option (List α):=if 0<=lo∧lo<=hi∧hi<=xs.length then aa ((xs.take hi.toNat).drop lo.toNat)else ak
def mT(a b:Int):Option Int:=if b=0 then ak else aa (W (a.tdiv b))
def kO(a b:Int):Option Int:=if b=0 then ak else aa (a.tmod b)
def len{α:Type}(xs:List α):Int:=xs.length
def bin:BinOp->ah->ah->Option ah
 | .add,.int .i64 a,.int .i64 b=>aa (.int .i64 (W (a+b)))
 | .sub,.int .i64 a,.int .i64 b=>aa (.int .i64 (W (a-b)))
 | .mul,.int .i64 a,.int .i64 b=>aa (.int .i64 (W (a*b)))
 | .eql,.int .i64 a,.int .i64 b=>aa (.bool (a==b))
 | .neq,.int .i64 a,.int .i64 b=>aa (.bool (a !=b))
 | .lss,.int .i64 a,.int .i64 b=>aa (.bool (al (a<b)))
 | .leq,.int .i64 a,.int .i64 b=>aa (.bool (al (a<=b)))
 | .gtr,.int .i64 a,.int .i64 b=>aa (.bool (al (a>b)))
 | .geq,.int .i64 a,.int .i64 b=>aa (.bool (al (a>=b)))
 |_,_,_=>ak
def oK(L:List (Nat×ah)):List a_->Option (List ah)
 |[]=>aa []
 |x::r=>match ev L x,oK L r with
  |some v,aa vs=>aa (v::vs)
  |_,_=>ak
def pv(L:List (Nat×ah)):Op->Option ah
 | .move x=>ev L x
 | .assign x=>ev L x
 | .pick c a b=>match ev L c with
   |some (.bool ab)=>ev L a
   |some (.bool false)=>ev L b
   |_=>ak
 | .binOp op _ x y _=>match ev L x,ev L y with
   |some a,aa b=>bin op a b
   |_,_=>ak
 | .unOp .not _ x=>match ev L x with
   |some (.bool b)=>aa (.bool (!b))
   |_=>ak
 | .unOp .neg _ x=>match ev L x with
   |some (.int .i64 a)=>aa (.int .i64 (W (-a)))
   |_=>ak
 | .nilCheck x=>match ev L x with
   |some (.pointer (aa a))=>aa (.pointer (aa a))
   |_=>ak
 | .extract x i=>match ev L x with
   |some (.tuple vs)=>vs[i]?
   |_=>ak
 | .makeFunc fn first jf=>match oK L first.toList,oK L jf.toList with
   |some f,aa c=>aa (.func fn f.toArray c.toArray)
   |_,_=>ak
 |_=>ak
section
variable {P:cQ} {n:Nat} {Q:Exit->Act->ay->Prop} {L:List (Nat×ah)} {w:ay} {ops:Array aT} {rest:List aT} {d:Option Tmp} {ty:aY} {pos:String} {af:Array Edge} {g:Option (Nat×Bool)}
abbrev Reads(L:List (Nat×ah))(a:Act):Prop:=∀x v,ev L x=aa v->a.eval x=v
def KN{ro:Option Nat}{o:aT}{ρ:a_->ah}{x:Next}{w':ay}(h:(execOp ρ o).run P w= .ok x w')(hx:∀d,x≠.defer d):(o.semAt ro ρ).run P w= .ok x w':=by
 by_cases hd:∃c,o.op= .defer c
 ·obtain⟨c,hc⟩:=hd;exfalso;simp only[execOp,hc,Sem.run_bind]at h;generalize (resolve ρ c o.type).run P w=r at h;cases r with
  |ok d w1=>simp only[Result.andThen_ok,Sem.run_pure,Result.ok.injEq]at h;exact hx _ h.1.symm
  |halt e w1=>cases h
 ·rw[aT.semAt_eq ro ρ o λc hc=>hd ⟨c,hc⟩];exact h
def OW.run [I:Rd]{o:aT}{R:ah->ay->Prop}(h:∀a,Reads L a->∃v w',(execOp a.eval o).run P w= .ok (.value v) w'∧R v w'):OW P Q L o w R:=by intro a K ha hK;obtain⟨v,w',h1,h2⟩:=h a ha;unfold aT.wpIn;rw[KN h1 (λ_ h=>by cases h)];exact⟨λf _=>trivial,hK v w' h2⟩
def OW.KW [I:Rd]{o:aT}{R:ah->ay->Prop}(h:∀a,Reads L a->∃w',(execOp a.eval o).run P w= .ok .skip w'∧R undef w'):OW P Q L o w R:=by intro a K ha hK;obtain⟨w',h1,h2⟩:=h a ha;unfold aT.wpIn;rw[KN h1 (λ_ h=>by cases h)];exact⟨λf _=>trivial,hK _ w' h2⟩
def mg(R:ah->ay->Prop):Ending->ay->Prop:=λe w'=>∃v,e= .returned v∧R v w'
def OW.aas [I:Rd]{o:aT}{R:ah->ay->Prop}(h:∀a,Reads L a->∃f args,(execOp a.eval o).run P w= .ok (.enter f args) w∧Calls P f args w (mg R)):OW P Q L o w R:=by intro a K ha hK;obtain⟨f,args,h1,h2⟩:=h a ha;unfold aT.wpIn;rw[KN h1 (λ_ h=>by cases h),aT.uponIn_enter];refine⟨λf _=>trivial,λh=>by simp[Rd.F,Fence.wide]at h,?_⟩;have h3:=(callsIn_wide (n:=0)).2 h2;refine(h3:CallsIn Fence.wide 0 P f args w (mg R)).mono ?_;rintro e w' ⟨v,rfl,hr⟩;exact hK v w' hr
def Eb [Rd]{a:Act}(ha:Reads L a):∀(l:List a_) {vs:List ah},oK L l=aa vs->l.map a.eval=vs
 |[],vs,h=>by simp[oK]at h;simp[h]
 |x::r,vs,h=>by
  unfold oK at h;split at h
  ·rename_i v us h1 h2;cases h;simp[ha _ _ h1,Eb ha r h2]
  ·cases h
def aCf{op:BinOp}{x y v:ah}{a b:a_}(h:bin op x y=aa v)(t:aY):(eqGuard op t a b x y).run P w= .ok () w∧(binOp op t x y).run P w= .ok v w:=by
 unfold bin at h;split at h<;>first
  |(cases h;simp[eqGuard,binOp,Op.intArith,Op.intCmp,W];done)
  |cases h
def OW.pv [Rd]{op:Op}{v:ah}(h:Dp.pv L op=aa v):OW P Q L ⟨d,op,ty,pos,af,g⟩ w (λv' w'=>v'=v∧w'=w):=by
 refine OW.run λa ha=>⟨v,w,?_,rfl,rfl⟩;unfold Dp.pv at h;split at h
 ·rename_i x;simp[execOp,ha _ _ h]
 ·rename_i x;simp[execOp,ha _ _ h]
 ·rename_i c x y;split at h<;>first
   |(rename_i hc;simp[execOp,ha _ _ hc,ha _ _ h,asBool];done)
   |cases h
 ·rename_i op t x y u;split at h
  ·rename_i vx vy hx hy;obtain⟨h1,h2⟩:=aCf (P:=P) (w:=w) (a:=x) (b:=y) h t;simp[execOp,ha _ _ hx,ha _ _ hy,Sem.run_bind,h1,h2]
  ·cases h
 ·rename_i t x;split at h
  ·rename_i b hx;cases h;simp[execOp,ha _ _ hx,Op.unary]
  ·cases h
 ·rename_i t x;split at h
  ·rename_i b hx;cases h;simp[execOp,ha _ _ hx,Op.unary,W,Op.intArith]
  ·cases h
 ·rename_i x;split at h
  ·rename_i b hx;cases h;simp[execOp,ha _ _ hx]
  ·cases h
 ·rename_i x i;split at h
  ·rename_i vs hx;simp[execOp,ha _ _ hx,Instr.extract,h]
  ·cases h
 ·rename_i fn first jf
  split at h
  ·rename_i f c hf hc;cases h;have h1:first.map a.eval=f.toArray:=by rw[<-Eb ha _ hf,<-List.map_toArray,Array.toArray_toList]
   have h2:jf.map a.eval=c.toArray:=by rw[<-Eb ha _ hc,<-List.map_toArray,Array.toArray_toList]
   simp[execOp,Instr.makeFunc,h1,h2]
  ·cases h
 ·cases h
def WL.v [I:Rd]{d:Nat}{op:Op}{v:ah}(h:Dp.pv L op=aa v)(hd:I.eZ n d=ab)(k:WL P n ops Q rest ((d,v)::L) w):WL P n ops Q (⟨aa d,op,ty,pos,af,ak⟩::rest) L w:=WL.step (OW.pv h) hd (by rintro v' w' ⟨rfl,rfl⟩;exact k)
def E5(a:Addr)(i j:Nat):(a.add i).add j=a.add (i+j):=by
 by_cases hi:i=0
 ·subst hi;simp[Addr.add]
 ·by_cases hj:j=0
  ·subst hj;simp[Addr.add]
  ·simp[Addr.add,hi,hj,qX]
structure bO(P:cQ)(t:aY)(α:Type)[ad α]:Prop where
 agg:∃d,P.underlying t=aa d∧(match d with| .struct _| .array _ _=>ab|_=>false)=ad.agg α
 nG:∃i,P.info? t=aa i∧i.size=ad.sz α∧i.bytes<=65536∧i.zero=aa (pack (ad.agg α) (ad.zc α))
def aCK{α β:Type}[ad α][ad β](off:Nat)(st:α->β->α):Prop:=∀{S:Nat->Prop} {w:ay} {cs:List ah} {x:α} {c':List ah} {y:β},ad.rd S w cs x->ad.rd S w c' y->ad.rd S w (cs.take off++c'++cs.drop (off+c'.length)) (st x y)
section
variable {α β:Type} [ad α] [ad β] {t T:aY} {x:a_}
def bO.isAgg(h:bO P t α)(w:ay):(isAgg t).run P w= .ok (ad.agg α) w:=by obtain⟨d,h1,h2⟩:=h.agg;unfold Go.isAgg;rw[Sem.run_bind,run_underlying h1 w];simp only[Result.andThen_ok];rw[<-h2];cases d<;>rfl
def bO.sizeOf(h:bO P t α)(w:ay):(sizeOf t).run P w= .ok (ad.sz α) w:=by obtain⟨i,h1,h2,_⟩:=h.nG;simp[Go.sizeOf,typeInfo,h1,h2]
def bO.zero(h:bO P t α)(w:ay):(zeroValue t).run P w= .ok (pack (ad.agg α) (ad.zc α)) w:=by obtain⟨i,h1,_,_,h4⟩:=h.nG;simp[zeroValue,typeInfo,h1,h4]
def aoR(hT:bO P t β){cs c1 c c2:List ah}{S:Nat->Prop}{y:β}(ja:cs=c1++c++c2)(hc:ad.rd S w c y):(part t cs.toArray c1.length).run P w= .ok (pack (ad.agg β) c) w:=by
 have hl:=ad.len hc;simp only[part,Sem.run_bind,hT.isAgg,Result.andThen_ok];cases hg:ad.agg β with
 |true=>simp[hT.sizeOf,pack,<-hl,ja]
 |false=>
  rw[ad.flat hg]at hl;match c,hl with
  |[u],_=>simp[ja,pack]
def OW.len [Rd]{S:Nat->Prop}{e:aY}{v:ah}{xs:List α}{o:a_}(hu:P.underlying t=aa (.slice e))(hx:ev L o=aa v)(h:Rv S w v xs):
  OW P Q L ⟨d,.call {callee:= .builtin .len,args:= #[o],argTypes:= #[t]},ty,pos,af,g⟩ w (λv' w'=>v'= .int .i64 (Dp.len xs)∧w'=w):=by
 obtain⟨p,cap,rfl,_⟩:=u0 h
 refine OW.run λa ha=>⟨_,w,?_,rfl,rfl⟩
 simp[execOp,resolve,invoke,builtin,dN.len_,run_underlying hu,ha _ _ hx,goInt,Dp.len]
def OW.min [Rd]{u v:a_}{p q:Int}{ts:Array aY}(hu:ev L u=aa (.int .i64 p))(hv:ev L v=aa (.int .i64 q)):
  OW P Q L ⟨d,.call {callee:= .builtin .min,args:= #[u,v],argTypes:=ts},ty,pos,af,g⟩ w (λv' w'=>v'= .int .i64 (if q<p then q else p)∧w'=w):=by
 refine OW.run λa ha=>⟨_,w,?_,rfl,rfl⟩
 simp[execOp,resolve,invoke,builtin,dN.min_,dN.min2,ha _ _ hu,ha _ _ hv]
def OW.max [Rd]{u v:a_}{p q:Int}{ts:Array aY}(hu:ev L u=aa (.int .i64 p))(hv:ev L v=aa (.int .i64 q)):
  OW P Q L ⟨d,.call {callee:= .builtin .max,args:= #[u,v],argTypes:=ts},ty,pos,af,g⟩ w (λv' w'=>v'= .int .i64 (if p<q then q else p)∧w'=w):=by
 refine OW.run λa ha=>⟨_,w,?_,rfl,rfl⟩
 simp[execOp,resolve,invoke,builtin,dN.max_,dN.max2,ha _ _ hu,ha _ _ hv]
def OW.aq1 [Rd]{u v x:a_}{p q r:Int}{ts:Array aY}(hu:ev L u=aa (.int .i64 p))(hv:ev L v=aa (.int .i64 q))(hx:ev L x=aa (.int .i64 r)):
  OW P Q L ⟨d,.call {callee:= .builtin .max,args:= #[u,v,x],argTypes:=ts},ty,pos,af,g⟩ w (λv' w'=>v'= .int .i64 (if(if p<q then q else p)<r then r else if p<q then q else p)∧w'=w):=by
 refine OW.run λa ha=>⟨_,w,?_,rfl,rfl⟩
 simp[execOp,resolve,invoke,builtin,dN.max_,dN.max2,ha _ _ hu,ha _ _ hv,ha _ _ hx]
def OW.aq0 [Rd]{u v x y:a_}{p q r s:Int}{ts:Array aY}(hu:ev L u=aa (.int .i64 p))(hv:ev L v=aa (.int .i64 q))(hx:ev L x=aa (.int .i64 r))(hy:ev L y=aa (.int .i64 s)):
  OW P Q L ⟨d,.call {callee:= .builtin .max,args:= #[u,v,x,y],argTypes:=ts},ty,pos,af,g⟩ w (λv' w'=>v'= .int .i64 (if(if(if p<q then q else p)<r then r else if p<q then q else p)<s then s else if(if p<q then q else p)<r then r else if p<q then q else p)∧w'=w):=by
 refine OW.run λa ha=>⟨_,w,?_,rfl,rfl⟩
 simp[execOp,resolve,invoke,builtin,dN.max_,dN.max2,ha _ _ hu,ha _ _ hv,ha _ _ hx,ha _ _ hy]
def OW.aqX [Rd]{u v x:a_}{p q r:Int}{ts:Array aY}(hu:ev L u=aa (.int .i64 p))(hv:ev L v=aa (.int .i64 q))(hx:ev L x=aa (.int .i64 r)):
  OW P Q L ⟨d,.call {callee:= .builtin .min,args:= #[u,v,x],argTypes:=ts},ty,pos,af,g⟩ w (λv' w'=>v'= .int .i64 (if r<(if q<p then q else p)then r else if q<p then q else p)∧w'=w):=by
 refine OW.run λa ha=>⟨_,w,?_,rfl,rfl⟩
 simp[execOp,resolve,invoke,builtin,dN.min_,dN.min2,ha _ _ hu,ha _ _ hv,ha _ _ hx]
def OW.quo [Rd]{u v:a_}{p q r:Int}{t1 t2:aY}(hu:ev L u=aa (.int .i64 p))(hv:ev L v=aa (.int .i64 q))(h:mT p q=aa r):
  OW P Q L ⟨d,.binOp .quo t1 u v t2,ty,pos,af,g⟩ w (λv' w'=>v'= .int .i64 r∧w'=w):=by
 refine OW.run λa ha=>⟨_,w,?_,rfl,rfl⟩
 unfold mT at h
 split at h
 ·cases h
 ·rename_i hq;cases h;simp[execOp,eqGuard,binOp,Op.intDiv,ha _ _ hu,ha _ _ hv,hq,W]
def OW.rem [Rd]{k:IntKind}{u v:a_}{p q r:Int}{t1 t2:aY}(hu:ev L u=aa (.int k p))(hv:ev L v=aa (.int k q))(h:kO p q=aa r):
  OW P Q L ⟨d,.binOp .rem t1 u v t2,ty,pos,af,g⟩ w (λv' w'=>v'= .int k r∧w'=w):=by
 refine OW.run λa ha=>⟨_,w,?_,rfl,rfl⟩
 unfold kO at h
 split at h
 ·cases h
 ·rename_i hq;cases h;simp[execOp,eqGuard,binOp,Op.intDiv,ha _ _ hu,ha _ _ hv,hq]
def Nn{z:Nat}:∀{aK:List (List ah)},(∀c∈aK,c.length=z)->∀{i:Nat} {c:List ah},aK[i]? =aa c->∀{j:Nat} {u:ah},c[j]? =aa u->aK.flatten[i*z+j]? =aa u
 |[],_,i,c,hi,_,_,_=>by simp at hi
 |b::aK,hz,0,c,hi,j,u,hu=>by
  have:b=c:=by simpa using hi
  subst this;simp only[oZ,Nat.zero_mul,kG];rw[mn (gK.1 hu).1];exact hu
 |b::aK,hz,i+1,c,hi,j,u,hu=>by
  have hb:b.length=z:=hz b (by simp);have ih:=Nn (aK:=aK) (λc hc=>hz c (by simp[hc])) (i:=i) (c:=c) (by simpa using hi) hu;have e:(i+1)*z+j=b.length+(i*z+j):=by rw[hb,qW];omega
  rw[oZ,e,pS (by omega),B4];exact ih
def cp.pd{S:Nat->Prop}{aK:List (List ah)}{xs:List α}(h:cp (ad.rd S w) aK xs):∀c∈aK,c.length=ad.sz α:=by intro c hc;obtain⟨x,hx⟩:=h.mem c hc;exact ad.len hx
def Fs(v:ah)(z:Nat)(i:Int)(pa:Addr):Prop:=∃a n cap,v= .slice (aa a) n cap∧pa=a.add (i.toNat*z)
def OW.indexAddr [Rd]{S:Nat->Prop}{e:aY}{v:ah}{xs:List α}{y:α}{u i:a_}{k:IntKind}{j:Int}(hu:P.underlying t=aa (.slice e))(hT:bO P e α)(hx:ev L u=aa v)(h:Rv S w v xs)
  (hi:ev L i=aa (.int k j)) (hj:idx xs j=aa y):
  OW P Q L ⟨d,.indexAddr t u i,ty,pos,af,g⟩ w (λv' w'=>w'=w∧∃pa,v'= .pointer (aa pa)∧xt S w pa y∧Fs v (ad.sz α) j pa):=by
 obtain⟨p,cap,rfl,h1,h2,h3⟩:=u0 h
 unfold idx at hj
 split at hj
 ·rename_i h0;have aV:j.toNat<xs.length:=(gK.1 hj).1;rcases h3 with h3|⟨a,aK,rfl,h4,h5,h6⟩
  ·subst h3;simp at hj
  ·obtain⟨c,ij,kq⟩:=h5.get hj;refine OW.run λb hb=>⟨_,w,?_,rfl,a.add (j.toNat*ad.sz α),rfl,⟨c,kq,by rw[Pe];exact h4,λm q hq=>?_⟩,a,_,cap,rfl,rfl⟩
   ·have dj:j<(xs.length:Int):=by omega
    simp[execOp,ha_ hb hx,ha_ hb hi,Instr.indexAt,asIntOf,run_underlying hu,h0,dj,hT.sizeOf]
   ·rw[E5];exact h6 _ _ (Nn h5.pd ij hq)
 ·cases hj
where
 ha_ {b:Act} (hb:Reads L b) {o:a_} {v:ah} (h:ev L o=aa v):b.eval o=v:=hb _ _ h
def OW.asj [Rd]{e m:aY}{pa:Addr}{u i:a_}{k:IntKind}{q:Nat}(hu:P.underlying t=aa (.array m e))(hT:bO P e α)(hx:ev L u=aa (.pointer (aa pa)))(hi:ev L i=aa (.int k (q:Int)))(hq:q<m):
  OW P Q L ⟨d,.indexAddr t u i,ty,pos,af,g⟩ w (λv w'=>v= .pointer (aa (pa.add (q*ad.sz α)))∧w'=w):=by
 refine OW.run λb hb=>⟨_,w,?_,rfl,rfl⟩
 have h1:b.eval u= .pointer (aa pa):=hb _ _ hx
 have h2:b.eval i= .int k (q:Int):=hb _ _ hi
 have h3:(q:Int)<(m:Int):=by omega
 simp[execOp,h1,h2,Instr.indexAt,asIntOf,run_underlying hu,Instr.sureAddr,hq,hT.sizeOf]
def OW.asl [Rd]{S:Nat->Prop}{e m:aY}{xs:List α}{aK:List (List ah)}{y:α}{u i:a_}{k:IntKind}{j:Int}(hu:P.underlying t=aa (.array m e))(hm:xs.length=m)(hT:bO P e α)
  (hx:ev L u=aa (.agg aK.flatten.toArray)) (h:cp (ad.rd S w) aK xs) (hi:ev L i=aa (.int k j)) (hj:idx xs j=aa y):
  OW P Q L ⟨d,.index t u i,ty,pos,af,g⟩ w (λv' w'=>w'=w∧Rv S w v' y):=by
 unfold idx at hj
 split at hj
 ·rename_i h0;have aV:j.toNat<xs.length:=(gK.1 hj).1;obtain⟨c,ij,kq⟩:=h.get hj;obtain⟨l1,l2,hl,hlen⟩:=cut h.pd ij;have dj:j<(m:Int):=by omega
  have hp:=aoR (P:=P) (w:=w) hT hl kq;refine OW.run λb hb=>⟨_,w,?_,rfl,c,rfl,kq⟩;simp[execOp,hb _ _ hx,hb _ _ hi,Instr.index,asIntOf,run_underlying hu,h0,dj,hT.sizeOf,<-hlen,hp]
 ·cases hj
where
 cut {z:Nat}:∀{aK:List (List ah)},(∀c∈aK,c.length=z)->∀{i:Nat} {c:List ah},aK[i]? =aa c->∃l1 l2,aK.flatten=l1++c++l2∧l1.length=i*z
  |[],_,i,c,hi=>by simp at hi
  |b::aK,hz,0,c,hi=>by
   have:b=c:=by simpa using hi
   subst this;exact⟨[],aK.flatten,by simp,by simp⟩
  |b::aK,hz,i+1,c,hi=>by obtain⟨l1,l2,h1,h2⟩:=cut (aK:=aK) (λc hc=>hz c (by simp[hc])) (i:=i) (c:=c) (by simpa using hi);refine⟨b++l1,l2,by rw[oZ,h1];simp,?_⟩;rw[cW,h2,hz b (by simp),qW];omega
def bP.alloc(o:cB)(w:ay)(ob:Obj)(c:Nat):bP [] [c] o w (grow o w c) (w.alloc ob):=bP.fresh c ((Below.refl _ _).alloc (bx _) _)
def sR(o:cB)(w:ay)(c b:Nat)(h:w.heap.size<=b):grow o w c b=c:=by simp[grow,Nat.not_lt.2 h]
end
end
end Dp
end Go.Proofs.YtmngjhagbjgmfaaGreat
namespace Go.Proofs.YtmngjhagbjgmfaaGreat
open Go Go.RowKit
namespace Dp
class Flat(α:Type)[ad α]:Prop where
 any:∀{S S':Nat->Prop} {w w':ay} {cs:List ah} {x:α},ad.rd S w cs x->ad.rd S' w' cs x
instance:Flat Int:=⟨λh=>h⟩
instance:Flat Bool:=⟨λh=>h⟩
instance:Flat ByteArray:=⟨λh=>h⟩
instance:Flat U8:=⟨λh=>h⟩
instance{α β:Type}[ad α][ad β][Flat α][Flat β]:Flat (α×β):=⟨λ⟨c1,c2,h,h1,h2⟩=>⟨c1,c2,h,Flat.any h1,Flat.any h2⟩⟩
structure FnV where
 v:ah
instance:ad FnV where
 sz:=1
 agg:=false
 zc:=[.nilFunc]
 zero:=⟨.nilFunc⟩
 rd:=λ_ _ cs x=>cs=[x.v]∧x.v.oneCell'=ab
 len:=by rintro S w cs x ⟨rfl,_⟩;rfl
 one:=by rintro S w cs x ⟨rfl,h⟩ u hu;simp at hu;subst hu;exact h
 mono:=λ_ h=>h
 flat:=λ_=>rfl
 pos:=Nat.one_pos
 ga:=λ_ _=>⟨rfl,rfl⟩
instance:Flat FnV:=⟨λh=>h⟩
def fD{α:Type}[ad α](S:Nat->Prop)(w:ay)(v:ah)(ys:List α):Prop:=∃p cap,v= .slice p ys.length cap∧(ys=[]∨∃a aK,p=aa a∧cp (ad.rd S w) aK ys∧kb w a aK.flatten)
section
variable {α β:Type} [ad α] [ad β]
def Rv.dh{S:Nat->Prop}{w:ay}{v:ah}{ys:List α}(h:Rv S w v ys):fD S w v ys:=by
 obtain⟨p,cap,rfl,_,_,h⟩:=u0 h;refine⟨p,cap,rfl,?_⟩;rcases h with h|⟨a,aK,h1,_,h3,h4⟩
 ·exact .inl h
 ·exact .inr ⟨a,aK,h1,h3,h4⟩
def Ow.dh{T:aY}{o:cB}{k:Nat}{K:List Nat}{w:ay}{v:ah}{ys:List α}(r:Ow T o k K w v ys):fD (In o K) w v ys:=by
 rcases r with⟨rfl,rfl⟩|⟨g,f,cap,aW,aK,rfl,h2,h3,h4,h5,h6,h7,h8⟩
 ·exact⟨ak,0,rfl,.inl rfl⟩
 ·refine⟨_,cap,rfl,.inr ⟨_,aK,rfl,h7,?_⟩⟩;intro j u hu;rw[jL,cell_of_row w g (f+j) aW T (0,0) h3];rw[<-h8,ml]at hu;split at hu
  ·simpa using hu
  ·cases hu
def fD.flat [Flat α]{S S':Nat->Prop}{w:ay}{v:ah}{ys:List α}(h:fD S w v ys):fD S' w v ys:=by
 obtain⟨p,cap,rfl,h⟩:=h;refine⟨p,cap,rfl,?_⟩;rcases h with h|⟨a,aK,h1,h3,h4⟩
 ·exact .inl h
 ·exact .inr ⟨a,aK,h1,h3.mono λ_ _=>Flat.any,h4⟩
variable {P:cQ} {n:Nat} {Q:Exit->Act->ay->Prop} {L:List (Nat×ah)} {w:ay} {ops:Array aT} {rest:List aT} {d:Option Tmp} {ty:aY} {pos:String} {af:Array Edge} {g:Option (Nat×Bool)} {t T e:aY} {o:cB} {K:List Nat} {k:Nat}
def bP.row{c:Nat}{b:Nat}(cs:Array ah)(hb:o b=c):bP [c] [] o w o (w.setRow b cs):=⟨rfl,rfl,rfl,by simp,λ_ _=>rfl,λb' h1 h2=>by simp at h2;omega,λb' _ bR=>setRow_other w b b' cs (λe=>bR (by rw[e,hb];exact List.mem_singleton.2 rfl))⟩
def OW.make [Rd]{u1 u2:a_}{zs:List α}{m:Int}(hu:P.underlying t=aa (.slice e))(hT:bO P e α)(h1:ev L u1=aa (.int .i64 m))(h2:ev L u2=aa (.int .i64 m))(hm:ye α m=aa zs):
  OW P Q L ⟨d,.makeSlice t u1 u2,ty,pos,af,g⟩ w (λv' w'=>∃o',bP [] [k] o w o' w'∧Ow e o' k [] w' v' zs):=by
 unfold ye at hm
 split at hm
 ·rename_i hb;cases hm;obtain⟨i,gw,ep,iy,mH⟩:=hT.nG;have hr:=run_make (P:=P) w t e i _ hu gw mH .i64 .i64 m m hb.1 (by omega) (by
   have h:(i.bytes:Int)<=65536:=by omega
   have h':(i.bytes:Int)*m<=65536*1073741824:=Int.mul_le_mul h hb.2 hb.1 (by omega);omega) (by omega)
  refine OW.run λa ha=>⟨.slice (aa ⟨w.heap.size,0,ak⟩) m.toNat m.toNat,w.alloc (.cells (madeCells (pack (ad.agg α) (ad.zc α)).cells (m.toNat*i.size)) e),?_,_,bP.alloc o w _ k,.inr ⟨w.heap.size,0,m.toNat,_,cU m.toNat (ad.zc α),?_,sR o w k _ (bx _),heap_alloc_new w _,by simp,?_,?_,?_,?_⟩⟩
  ·simp[execOp,ha _ _ h1,ha _ _ h2,hr]
  ·simp
  ·unfold maxLen;omega
  ·simp[size_madeCells,ep]
  ·exact cp.replicate (ad.ga _ _) _
  ·have hz:(pack (ad.agg α) (ad.zc α)).cells.toList=ad.zc α:=wM (α:=α) (ad.ga (λ_=>True) w);have gT:(ad.zc α).length=ad.sz α:=ad.len (ad.ga (α:=α) (λ_=>True) w);have sH:=ad.pos (α:=α);generalize hzz:(pack (ad.agg α) (ad.zc α)).cells=z at*;rw[ep];rw[List.length_replicate,xx (by simp[size_madeCells])];unfold madeCells;have iZ:z.size=ad.sz α:=by rw[<-oc,hz,gT]
   have key:∀q:Nat,(List.range (q*ad.sz α)).map (z[·% z.size]!)=(cU q (ad.zc α)).flatten:=by
    intro q;induction q with
    |zero=>simp
    |succ q ih=>
     rw[List.replicate_succ',n9,<-ih,qW,List.range_add,List.map_append];cR 1;simp only[List.map_map,List.flatten_singleton];rw[<-hz];apply xz;intro j;by_cases hj:j<ad.sz α
     ·have e1:(q*ad.sz α+j)% z.size=j:=by rw[iZ,Nat.mul_comm,Nat.mul_add_mod,Nat.mod_eq_of_lt hj]
      have nN:j<z.size:=by omega
      simp[hj,e1,nN,getElem!_pos]
     ·simp[hj,iZ]
   simpa using key m.toNat
 ·cases hm
def Ae{S:Nat->Prop}{aK:List (List ah)}{xs:List α}(h:cp (ad.rd S w) aK xs):∀u∈aK.flatten,u.oneCell'=ab:=by intro u hu;obtain⟨c,hc,huc⟩:=List.mem_flatten.1 hu;obtain⟨x,hx⟩:=h.mem c hc;exact ad.one hx u huc
def qG{S:Nat->Prop}{aK:List (List ah)}{xs:List α}(h:cp (ad.rd S w) aK xs):aK.flatten.length=xs.length*ad.sz α:=by
 have hl:=h.length;have hs:=h.pd;rw[<-hl];clear h hl;induction aK with
 |nil=>simp
 |cons c aK ih=>rw[oZ,cW,ih (λc hc=>hs c (by simp[hc])),hs c (by simp),jR,qW];omega
def aap(w:ay)(t ty e:aY)(i:TypeInfo)(ht:P.underlying t=aa (.slice e))(hi:P.info? e=aa i)
  (g f rh RO:Nat) (aW:Array ah) (hg:w.heap[g]? =aa (.cells aW e (0,0)))
  (a:Addr) (m c:Nat) (news:List ah) (hl:news.length=m*i.size) (atJ:∀j u,news[j]? =aa u->w.cell? (a.add j)=aa u) (h1:∀u∈news,u.oneCell'=ab)
  (Hj:rh+m<=RO) (Ur:f+rh*i.size+news.length<=aW.size):
  (dN.append_ #[t,t] ty #[.slice (aa ⟨g,f,ak⟩) rh RO,.slice (aa a) m c]).run P w=
    .ok (.slice (aa ⟨g,f,ak⟩) (rh+m) RO) (w.setRow g (aW.toList.take (f+rh*i.size)++news++aW.toList.drop (f+rh*i.size+news.length)).toArray):=by
 have hf:=run_firstCells_some (P:=P) w i.size m a m c news hl atJ
 have bV:=run_storeCells_at P g (f+rh*i.size) e news 0 aW w hg (by simpa using Ur) h1
 simp only[Nat.add_zero]at bV
 simp[dN.append_,run_underlying ht,sizeOf,typeInfo,hi,dN.lenOf,Hj,hf,Addr.add_lit,bV]
def aaq{v vx:ah}{xs ys zs:List α}(hu:P.underlying t=aa (.slice e))(hT:bO P e α)(ho:Ow e o k K w v xs)(hr:fD (In o K) w vx ys)(hz:bG xs ys=aa zs)(hd:ni K [k]=ab):
  ∃v' w' o',(dN.append_ #[t,t] ty #[v,vx]).run P w= .ok v' w'∧bP [k] [k] o w o' w'∧Ow e o' k K w' v' zs:=by
 unfold bG at hz
 split at hz
 case isFalse=>cases hz
 rename_i hlen
 cases hz
 obtain⟨i,gw,ep,iy,mH⟩:=hT.nG
 obtain⟨p,V7,rfl,hx⟩:=hr
 have tY:(pack (ad.agg α) (ad.zc α)).cells.toList=ad.zc α:=wM (α:=α) (ad.ga (λ_=>True) w)
 have gT:(ad.zc α).length=ad.sz α:=ad.len (ad.ga (α:=α) (λ_=>True) w)
 have iZ:(pack (ad.agg α) (ad.zc α)).cells.size=ad.sz α:=by rw[<-oc,tY,gT]
 have D1:(xs.length+ys.length)*i.bytes<=140737488355328:=by have:=Nat.mul_le_mul hlen iy;omega
 by_cases hy:ys=[]
 ·subst hy;refine⟨v,w,o,?_,bP.refl _ _ _ _,by simpa using ho⟩;rcases ho with⟨rfl,rfl⟩|⟨gg,f,cap,aW,aK,rfl,h2,h3,h4,h5,h6,h7,h8⟩
  ·cases p<;>simp[dN.append_,run_underlying hu,sizeOf,typeInfo,gw,dN.lenOf,dN.firstCells,loadCells,loadCellsFrom]
  ·cases p<;>simp[dN.append_,run_underlying hu,sizeOf,typeInfo,gw,dN.lenOf,dN.firstCells,loadCells,loadCellsFrom,storeCells,h4]
 ·rcases hx with hx|⟨a,kY,rfl,rz,py⟩
  ·exact(hy hx).elim
  have vz:=qG rz;have Hs:=Ae rz;have asF:0<ys.length:=List.length_pos_iff.2 hy;rcases ho with⟨rfl,rfl⟩|⟨gg,f,cap,aW,aK,rfl,h2,h3,h4,h5,h6,h7,h8⟩
  ·have fy:=run_append_nil (P:=P) w t ty e i _ hu gw mH a ys.length V7 kY.flatten (by rw[vz,ep]) py asF (by simp at hlen;omega) (by simp at D1;omega);have vv:∀(ob:Obj) (b:Nat),In o K b->b<w.heap.size->In (grow o w k) K b∧(w.drew.alloc ob).heap[b]? =w.heap[b]? :=λob b hb aV=>
    ⟨by simp[In,grow,aV]at hb⊢;exact hb,Below.heap_alloc w.drew _ b aV⟩
   refine⟨_,_,grow o w k,fy,?_,.inr ⟨w.heap.size,0,grownCap w ys.length 0 e,_,kY,by simp,sR o w k _ (bx _),heap_alloc_new w.drew _,?_,?_,?_,?_,?_⟩⟩
   ·exact(bP.fresh k ((Below.refl _ _).drew.alloc (bx _) _)).weaken (by simp) (by simp)
   ·simpa using grownCap_ge w ys.length 0 e
   ·exact grownCap_le_maxLen w _ _ _ (by unfold maxLen;simp at hlen;omega)
   ·have sL:=grownCap_ge w ys.length 0 e;simp only[Array.size_append,xy,size_zeroCells,iZ,vz,<-iT,kG];exact mj _ (by omega)
   ·simp only[oV];exact rz.mono λ_ _=>ad.mono (vv _)
   ·simp only[oV,List.drop_zero];rw[<-vz];simp
  ·have c_:=qG h7;by_cases Hj:xs.length+ys.length<=cap
   ·have Ur:(xs.length+ys.length)*ad.sz α<=cap*ad.sz α:=mj _ Hj;rw[iT]at Ur;have fy:=aap (P:=P) w t ty e i hu gw gg f xs.length cap aW h3 a ys.length V7 kY.flatten (by rw[vz,ep]) py Hs Hj (by rw[ep,vz];omega)
    rw[ep]at fy;have b7:bP [k] [k] o w o (w.setRow gg (aW.toList.take (f+xs.length*ad.sz α)++kY.flatten++aW.toList.drop (f+xs.length*ad.sz α+kY.flatten.length)).toArray):=(bP.row _ h2).weaken (by simp) (by simp);refine⟨_,_,o,fy,b7,.inr ⟨gg,f,cap,_,aK++kY,by simp,h2,setRow_heap w gg aW _ e _ h3,by simpa using Hj,h5,?_,?_,?_⟩⟩
    ·simp only[xy,cW,oX,List.length_drop,oc,vz];omega
    ·exact cp.append (h7.mono λ_ _=>ad.mono (b7.ro hd)) (rz.mono λ_ _=>ad.mono (b7.ro hd))
    ·have UA:aW.toList.length=aW.size:=oc;have e1:(aW.toList.take (f+xs.length*ad.sz α)++kY.flatten++aW.toList.drop (f+xs.length*ad.sz α+kY.flatten.length)).drop f=aK.flatten++kY.flatten++aW.toList.drop (f+xs.length*ad.sz α+kY.flatten.length):=by rw[ed,Yb (by rw[oX];omega),List.drop_take,B4,h8,ed]
     simp only[cW,n9];rw[e1,iT,<-vz,<-c_,<-cW];exact B5
   ·have aty:∀(j:Nat) (u:ah),aK.flatten[j]? =aa u->w.cell? ((⟨gg,f,ak⟩:Addr).add j)=aa u:=by
     intro j u hu;rw[jL,cell_of_row w gg (f+j) aW e (0,0) h3];rw[<-h8,ml]at hu;split at hu
     ·simpa using hu
     ·cases hu
    have fy:=run_append_grow (P:=P) w t ty e i _ hu gw mH ⟨gg,f,ak⟩ xs.length cap aK.flatten (by rw[c_,ep]) aty a ys.length V7 kY.flatten (by rw[vz,ep]) py (by omega) (by omega) (growslice_fits (by omega) D1);have sL:=grownCap_ge w (xs.length+ys.length) cap e;have vv:∀(ob:Obj) (b:Nat),In o K b->b<w.heap.size->In (grow o w k) K b∧(w.drew.alloc ob).heap[b]? =w.heap[b]? :=λob b hb aV=>
     ⟨by simp[In,grow,aV]at hb⊢;exact hb,Below.heap_alloc w.drew _ b aV⟩
    refine⟨_,_,grow o w k,fy,?_,.inr ⟨w.heap.size,0,grownCap w (xs.length+ys.length) cap e,_,aK++kY,by simp,sR o w k _ (bx _),heap_alloc_new w.drew _,by simpa using sL,?_,?_,?_,?_⟩⟩
    ·exact(bP.fresh k ((Below.refl _ _).drew.alloc (bx _) _)).weaken (by simp) (by simp)
    ·exact grownCap_le_maxLen w _ _ _ (by unfold maxLen;omega)
    ·simp only[Array.size_append,xy,size_zeroCells,iZ,vz,c_,<-iT,kG];exact mj _ (by omega)
    ·exact cp.append (h7.mono λ_ _=>ad.mono (vv _)) (rz.mono λ_ _=>ad.mono (vv _))
    ·simp only[cW,n9,Array.toList_append,ed,List.drop_zero];rw[iT,<-vz,<-c_,<-cW,<-ed];exact B5
end
end Dp
end Go.Proofs.YtmngjhagbjgmfaaGreat
namespace Go.Proofs.YtmngjhagbjgmfaaGreat
open Go Go.RowKit
namespace Dp
section
variable {α β:Type} [ad α] [ad β]
variable {P:cQ} {n:Nat} {Q:Exit->Act->ay->Prop} {L:List (Nat×ah)} {w:ay} {ops:Array aT} {rest:List aT} {d:Option Tmp} {ty:aY} {pos:String} {af:Array Edge} {g:Option (Nat×Bool)} {t T e:aY} {o:cB} {K:List Nat} {k:Nat}
def OW.append [Rd]{s x:a_}{v vx:ah}{xs ys zs:List α}(hu:P.underlying t=aa (.slice e))(hT:bO P e α)(hs:ev L s=aa v)(hx:ev L x=aa vx)(ho:Ow e o k K w v xs)(hr:fD (In o K) w vx ys)(hz:bG xs ys=aa zs)(hd:ni K [k]=ab):
  OW P Q L ⟨d,.call {callee:= .builtin .append,args:= #[s,x],argTypes:= #[t,t]},ty,pos,af,g⟩ w (λv' w'=>∃o',bP [k] [k] o w o' w'∧Ow e o' k K w' v' zs):=by
 obtain⟨v',w',o',h1,h2,h3⟩:=aaq (P:=P) (ty:=ty) hu hT ho hr hz hd
 refine OW.run λa ha=>⟨v',w',?_,o',h2,h3⟩
 simp[execOp,resolve,invoke,builtin,ha _ _ hs,ha _ _ hx,h1]
def aez{z:Nat}:∀{aK:List (List ah)},(∀c∈aK,c.length=z)->∀{i:Nat},i<aK.length->∀{c:List ah},c.length=z->(aK.set i c).flatten=aK.flatten.take (i*z)++c++aK.flatten.drop (i*z+z)
 |[],_,i,hi,_,_=>by simp at hi
 |b::aK,hz,0,_,c,hc=>by have hb:b.length=z:=hz b (by simp);simp[hc,<-hb]
 |b::aK,hz,i+1,hi,c,hc=>by
  have hb:b.length=z:=hz b (by simp);have ih:=aez (aK:=aK) (λc hc=>hz c (by simp[hc])) (i:=i) (by simpa using hi) hc;have e1:(i+1)*z=b.length+i*z:=by rw[hb,qW];omega
  simp only[List.set_cons_succ,oZ,ih,e1];rw[List.take_length_add_append,qX,Ju];simp
def aeA{z:Nat}:∀{aK:List (List ah)},(∀c∈aK,c.length=z)->∀{i:Nat} {c:List ah},aK[i]? =aa c->(aK.flatten.drop (i*z)).take z=c
 |[],_,i,c,hi=>by simp at hi
 |b::aK,hz,0,c,hi=>by
  have:b=c:=by simpa using hi
  subst this;have hb:b.length=z:=hz b (by simp);simp[<-hb]
 |b::aK,hz,i+1,c,hi=>by
  have hb:b.length=z:=hz b (by simp);have ih:=aeA (aK:=aK) (λc hc=>hz c (by simp[hc])) (i:=i) (c:=c) (by simpa using hi);have e1:(i+1)*z=b.length+i*z:=by rw[hb,qW];omega
  rw[oZ,e1,Ju];exact ih
def ZU{A c:List ah}{m N:Nat}(h:m+c.length<=N)(hN:N<=A.length):(A.take m++c++A.drop (m+c.length)).take N=(A.take N).take m++c++(A.take N).drop (m+c.length):=by
 apply xz;intro j;rw[ml];have DO:min m A.length=m:=by omega
 have hmN:min m (min N A.length)=m:=by omega
 by_cases hj:j<N
 ·rw[aH hj];by_cases h1:j<m
  ·rw[mn (by simp;omega),mn (by simp;omega),mn (by simp;omega),mn (by simp;omega),ml,ml,ml,aH h1,aH h1,aH hj]
  ·by_cases h2:j<m+c.length
   ·rw[mn (by simp;omega),pS (by simp;omega),mn (by simp;omega),pS (by simp;omega)];simp[DO,hmN]
   ·rw[pS (by simp;omega),pS (by simp;omega)];simp only[cW,oX,DO,hmN,wc];rw[ml,aH (by omega)]
 ·rw[aL hj];symm;apply List.getElem?_eq_none;simp;omega
def Ow.put{v:ah}{xs:List α}{pa:Addr}{j:Int}{off:Nat}{c':List ah}{y y':α}(hE:Fs v (ad.sz α) j pa)(ho:Ow T o k K w v xs)(hy:idx xs j=aa y)(h1:∀u∈c',u.oneCell'=ab)(AT:off+c'.length<=ad.sz α)
  (ato:∀cs,ad.rd (In o K) w cs y->ad.rd (In o K) w (cs.take off++c'++cs.drop (off+c'.length)) y') (hd:ni K [k]=ab):
  ∃w',(storeCells (pa.add off) c').run P w= .ok () w'∧bP [k] [] o w o w'∧Ow T o k K w' v (xs.set j.toNat y'):=by
 unfold idx at hy
 split at hy
 case isFalse=>cases hy
 rename_i h0
 have aV:j.toNat<xs.length:=(gK.1 hy).1
 rcases ho with⟨rfl,rfl⟩|⟨gg,f,cap,aW,aK,rfl,h2,h3,h4,h5,h6,h7,h8⟩
 ·simp at aV
 ·obtain⟨a,m,yZ,hv,rfl⟩:=hE;have ha:a=⟨gg,f,ak⟩:=by have:=iq (λv=>match v with|Value.slice (aa a) _ _=>a|_=>(⟨0,0,ak⟩:Addr)) hv;simpa using this.symm
  subst ha;obtain⟨c,ij,kq⟩:=h7.get hy;have eM:=h7.pd;have c_:c.length=ad.sz α:=ad.len kq;have jX:((⟨gg,f,ak⟩:Addr).add (j.toNat*ad.sz α)).add off=⟨gg,f+(j.toNat*ad.sz α+off),ak⟩:=by rw[jL,jL,qX]
  have hmul:(j.toNat+1)*ad.sz α<=xs.length*ad.sz α:=mj _ aV;have atL:xs.length*ad.sz α<=cap*ad.sz α:=mj _ h4;rw[qW]at hmul;have bV:=run_storeCells_at P gg (f+(j.toNat*ad.sz α+off)) T c' 0 aW w h3 (by omega) h1;rw[<-jX]at bV;simp only[Nat.add_zero]at bV;have b7:bP [k] [] o w o (w.setRow gg (aW.toList.take (f+(j.toNat*ad.sz α+off))++c'++aW.toList.drop (f+(j.toNat*ad.sz α+off)+c'.length)).toArray):=bP.row _ h2;refine⟨_,bV,b7,.inr ⟨gg,f,cap,_,aK.set j.toNat (c.take off++c'++c.drop (off+c'.length)),by simp,h2,setRow_heap w gg aW _ T _ h3,by simpa using h4,h5,?_,?_,?_⟩⟩
  ·simp;omega
  ·exact(cp.set h7 j.toNat (ato _ kq)).mono λ_ _=>ad.mono (b7.ro hd)
  ·have Ue:j.toNat<aK.length:=by rw[h7.length];exact aV
   rw[aez eM Ue (by simp;omega),List.length_set];simp only;have UA:aW.toList.length=aW.size:=oc;have e0:(aW.toList.take (f+(j.toNat*ad.sz α+off))++c'++aW.toList.drop (f+(j.toNat*ad.sz α+off)+c'.length)).drop f=(aW.toList.drop f).take (j.toNat*ad.sz α+off)++c'++(aW.toList.drop f).drop (j.toNat*ad.sz α+off+c'.length):=by rw[ed,Yb (by rw[oX];omega),List.drop_take,B4,ed,q9,qX]
   rw[e0,ZU (by omega) (by simp;omega),h8];have eJ:=qG h7;have hce:c=(aK.flatten.drop (j.toNat*ad.sz α)).take (ad.sz α):=(aeA eM ij).symm;rw[hce];generalize aK.flatten=A at*;generalize hq:j.toNat*ad.sz α=q at*;generalize ad.sz α=z at*;rw[List.take_take,Nat.min_eq_left (by omega),List.drop_take,q9];rw[show q+off=q+off from rfl,List.take_add,ed,ed,ed,ed,ed];cR 3;rw[show q+(off+c'.length)=q+off+c'.length from by omega,show A.drop (q+z)=(A.drop (q+off+c'.length)).drop (z-(off+c'.length))from by rw[q9];cR 1;omega];rw[List.take_append_drop]
def yb(L:List (Nat×ah)):Nat->List (Nat×a_)->Option (List ah)
 |_,[]=>aa []
 |k,(i,x)::r=>match Nat.beq i k,ev L x,yb L (k+1) r with
  |true,aa v,aa vs=>aa (v::vs)
  |_,_,_=>ak
def xv(S:Nat->Prop)(w:ay):List ah->List α->Prop
 |[],[]=>True
 |v::vs,x::xs=>Rv S w v x∧xv S w vs xs
 |_,_=>False
def xv.aK{S:Nat->Prop}:∀{vs:List ah} {xs:List α},xv S w vs xs->∃aK,vs=aK.map (pack (ad.agg α))∧cp (ad.rd S w) aK xs
 |[],[],_=>⟨[],rfl,trivial⟩
 |_::_,_::_,h=>by obtain⟨⟨c,rfl,h1⟩,h2⟩:=h;obtain⟨aK,rfl,h3⟩:=xv.aK h2;exact⟨c::aK,rfl,h1,h3⟩
 |[],_::_,h=>h.elim
 |_::_,[],h=>h.elim
def number:Nat->List ah->List (Nat×ah)
 |_,[]=>[]
 |k,v::r=>(k,v)::number (k+1) r
def Sc [Rd]{a:Act}(ha:Reads L a):∀{l:List (Nat×a_)} {k:Nat} {vs:List ah},yb L k l=aa vs->l.map (λp=>(p.1,a.eval p.2))=number k vs
 |[],k,vs,h=>by simp[yb]at h;subst h;rfl
 |(i,x)::r,k,vs,h=>by
  unfold yb at h;split at h
  ·rename_i v us h1 h2 h3;cases h;have hi:i=k:=Nat.eq_of_beq_eq_true h1;simp[number,Sc ha h3,ha _ _ h2,hi]
  ·cases h
def aa5(c:List ah):∀(off s:Nat) (A:Array ah),off+s+c.length<=A.size->(c.zipIdx s).foldl (λcs (x:ah×Nat)=>cs.setIfInBounds (off+x.2) x.1) A=(A.toList.take (off+s)++c++A.toList.drop (off+s+c.length)).toArray:=by
 induction c with
 |nil=>intro off s A _;simp
 |cons x c ih=>
  intro off s A h;have hs:off+s<A.size:=by simp at h;omega
  rw[List.zipIdx_cons,List.foldl_cons,ih off (s+1) _ (by simp at h⊢;omega)];apply iq;simp only[Array.toList_setIfInBounds];apply xz;intro j;have hlen:(A.toList.set (off+s) x).length=A.toList.length:=by simp
  by_cases h1:j<off+s
  ·rw[ed,mn (by simp;omega),ml,aH (by omega),oY,aL (by omega),ed,mn (by simp;omega),ml,aH h1]
  ·by_cases h2:j=off+s
   ·subst h2;rw[ed,mn (by simp;omega),ml,aH (by omega),oY,aH rfl,aH (by simpa using hs),ed,pS (by simp;omega)];have:off+s-(A.toList.take (off+s)).length=0:=by simp;omega
    rw[this];simp
   ·by_cases h3:j<off+s+(c.length+1)
    ·rw[ed,pS (by simp;omega),mn (by simp;omega),ed,pS (by simp;omega),mn (by simp;omega)];have e1:j-((A.toList.set (off+s) x).take (off+(s+1))).length=j-(off+s+1):=by simp;omega
     have e2:j-(A.toList.take (off+s)).length=(j-(off+s+1))+1:=by simp;omega
     rw[e1,e2];simp
    ·simp only[jR]at h h3⊢;rw[ed,pS (by simp;omega),pS (by simp;omega),ed,pS (by simp;omega),pS (by simp;omega)];simp only[oX,wc,jR,hlen];rw[oY,aL (by simp;omega)];cR 1;simp;omega
def Vg{S:Nat->Prop}{xs:List α}:∀{aK:List (List ah)} {xs:List α},cp (ad.rd S w) aK xs->∀(k:Nat) (A:Array ah),(k+aK.length)*ad.sz α<=A.size->
  Instr.fill (λi=>aa (i*ad.sz α,ad.sz α)) A (number k (aK.map (pack (ad.agg α))))=aa (A.toList.take (k*ad.sz α)++aK.flatten++A.toList.drop ((k+aK.length)*ad.sz α)).toArray
 |[],[],_,k,A,h=>by simp[number,Instr.fill]
 |c::aK,x::xs,hh,k,A,h=>by
  have pD:=wM hh.1;have c_:=ad.len hh.1;have TT:(pack (ad.agg α) c).cells=c.toArray:=Array.toList_inj.1 (by simpa using pD);have hm:(k+1+aK.length)*ad.sz α<=A.size:=by rw[jR]at h;rw[show k+1+aK.length=k+(aK.length+1)from by omega];exact h
  have hm1:(k+1)*ad.sz α<=(k+1+aK.length)*ad.sz α:=mj _ (by omega);have e1:(k+1)*ad.sz α=k*ad.sz α+ad.sz α:=qW _ _;have adI:=aa5 c (k*ad.sz α) 0 A (by omega);simp only[Nat.add_zero]at adI;have ih:=Vg (xs:=xs) hh.2 (k+1) ((A.toList.take (k*ad.sz α)++c++A.toList.drop (k*ad.sz α+c.length)).toArray) (by simp;omega);simp only[List.map_cons,number,Instr.fill,TT,xy,c_,ne_eq,not_true_eq_false,false_or,decide_false,Bool.false_or];rw[aL (by simp;omega)];have ez:c.toArray.zipIdx.toList=c.zipIdx:=by simp
  rw[<-Array.foldl_toList,ez,adI];rw[ih];apply iq;apply iq;simp only;rw[List.take_append_of_le_length (by simp;omega),xx (by simp;omega),List.drop_append,List.drop_eq_nil_of_le (by simp;omega),oV,q9];simp only[oZ,ed,jR];cR 4;simp;have:(k+(aK.length+1))*ad.sz α=(k+1+aK.length)*ad.sz α:=by rw[show k+(aK.length+1)=k+1+aK.length from by omega]
  omega
 |[],_::_,h,_,_,_=>h.elim
 |_::_,[],h,_,_,_=>h.elim
