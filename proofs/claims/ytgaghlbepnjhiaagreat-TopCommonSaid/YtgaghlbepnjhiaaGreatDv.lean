import Derived.Test.YtgaghlbepnjhiaaGreatDt
import Derived.Great.BuildSlice
set_option linter.all false
open Bool renaming true->ab
open Go renaming Operand->ba,Program->cT,ResultVar->lT,TypeId->aX,Value->ai,World->ax
open List renaming append_nil->pb,eq_nil_of_length_eq_zero->zF,flatten_cons->nE,nil_append->o7
open Nat renaming ble->eN,le_of_ble_eq_true->dw,succ_mul->pX
open Option renaming some->aa
namespace Go.Proofs.YtgaghlbepnjhiaaGreat
open Go Go.RowKit
namespace Dp
section
variable {α β:Type} [ad α] [ad β]
variable {P:cT} {n:Nat} {Q:Exit->Act->ax->Prop} {L:List (Nat×ai)} {w:ax} {ops:Array Oper} {rest:List Oper} {d:Option Tmp} {ty:aX} {pos:String} {af:Array Edge} {g:Option (Nat×Bool)} {t T e:aX} {o:cE} {K:List Nat} {k:Nat}
def OW.buildSlice [Rd]{m:Nat}{parts:List (Nat×ba)}{vs:List ai}{xs:List α}(hu:P.underlying t=aa (.slice e))(hT:bN P e α)(hp:yu L 0 parts=aa vs)(h:xG (In o K) w vs xs)(hm:xs.length=m)(hs:eN (m*ad.sz α) 65536=ab):
  OW P Q L ⟨d,.buildSlice t m parts.toArray,ty,pos,af,g⟩ w (λv' w'=>∃o',bJ [] [k] o w o' w'∧Ow e o' k K w' v' xs):=by
 obtain⟨aJ,rfl,h2⟩:=h.aJ
 obtain⟨i,fP,eb,iK,mK⟩:=hT.m_
 have dh:=h2.length
 have eL:=qN h2
 have w8:m*ad.sz α<=65536:=dw hs
 have oI:=ad.pos (α:=α)
 have aEH:m<=m*ad.sz α:=Nat.le_mul_of_pos_right m oI
 have vD:∀ob:Obj,∀b,In o K b->b<w.heap.size->In (grow o w k) K b∧(w.alloc ob).heap[b]? =w.heap[b]? :=λob=>bJ.ro (bJ.alloc o w ob k) (by simp[j7])
 refine OW.run λa ha=>⟨.slice (aa ⟨w.heap.size,0,none⟩) m m,w.alloc (.cells aJ.flatten.toArray e),?_,grow o w k,bJ.alloc o w _ k,.inr ⟨w.heap.size,0,m,_,aJ,by rw[hm],sT o w k _ (Nat.le_refl _),heap_alloc_new w _,by omega,by unfold maxLen;omega,by simp[eL,hm],h2.mono λ_ _=>ad.mono (vD _),?_⟩⟩
 ·have A7:(parts.toArray.map λ(x:Nat×ba)=>(x.1,a.eval x.2)).toList=number 0 (aJ.map (pack (ad.agg α))):=by
   rw[<-S6 ha hp];simp
  by_cases h0:m=0
  ·have hx:aJ=[]:=zF (by omega);subst hx;simp[number]at A7;simp[execOp,Instr.buildSlice,run_underlying hu,sizeOf,typeInfo,fP,h0,newRow,newObj,Instr.fill,A7];have e0:Array.range 0= #[]:=by simp[Array.range]
   rw[e0,Array.map_empty];rfl
  ·have bM:¬m*i.size=0:=by rw[eb];intro hh;rcases Nat.mul_eq_zero.1 hh with h|h<;>omega
   have hf:=V5 (xs:=xs) h2 0 ((Array.range (m*i.size)).map ((pack (ad.agg α) (ad.zc α)).cells[·% (pack (ad.agg α) (ad.zc α)).cells.size]!)) (by simp[eb,dh,hm]);have Vq:((Array.range (m*i.size)).map ((pack (ad.agg α) (ad.zc α)).cells[·% (pack (ad.agg α) (ad.zc α)).cells.size]!)).toList.drop ((0+aJ.length)*ad.sz α)=[]:=List.drop_eq_nil_of_le (by simp[eb,dh,hm]);rw[Vq,<-eb]at hf;simp only[Nat.zero_mul,List.take_zero,o7,pb]at hf;rw[<-A7]at hf;have fO:¬m*i.size>2^24:=by rw[eb];omega
   have hb:=run_buildSlice (P:=P) w t e m _ _ i _ hu fP mK fO bM hf;simp only[execOp,Sem.run_bind];rw[hb];rfl
 ·show(aJ.flatten.toArray.toList).take (xs.length*ad.sz α)=aJ.flatten;rw[<-eL];exact List.take_length
structure FC(P:cT)(T:aX)(pl:List (Nat×Nat)):Prop where
 fs:∃fs,P.underlying T=aa (.struct fs)∧fs.toList.mapM (λf=>(P.info? f.type).map λi=>(f.offset,i.size))=aa pl
def BJ(L:List (Nat×ai)):List (Nat×ba)->Option (List (Nat×ai))
 |[]=>aa []
 |(i,x)::r=>match ev L x,BJ L r with
  |some v,aa vs=>aa ((i,v)::vs)
  |_,_=>none
def afy [Rd]{a:Act}(ha:Reads L a):∀{l:List (Nat×ba)} {vs:List (Nat×ai)},BJ L l=aa vs->l.map (λp=>(p.1,a.eval p.2))=vs
 |[],vs,h=>by simp[BJ]at h;subst h;rfl
 |(i,x)::r,vs,h=>by
  unfold BJ at h;split at h
  ·rename_i v us h2 h3;cases h;simp[afy ha h3,ha _ _ h2]
  ·cases h
def OW.akr [Rd]{m:Nat}{S:Nat->Prop}{parts:List (Nat×ba)}{vs:List ai}{xs:List α}(hu:P.underlying t=aa (.array m e))(hT:bN P e α)(hz:∃i z,P.info? t=aa i∧i.zero=aa z∧z.cells.size=m*ad.sz α)(hp:yu L 0 parts=aa vs)(h:xG S w vs xs)(hm:xs.length=m):
  OW P Q L ⟨d,.build t parts.toArray,ty,pos,af,g⟩ w (λv' w'=>w'=w∧∃aJ,v'= .agg aJ.flatten.toArray∧cA (ad.rd S w) aJ xs):=by
 obtain⟨aJ,rfl,h2⟩:=h.aJ
 obtain⟨i,fP,eb,iK,mK⟩:=hT.m_
 obtain⟨j,z,hj1,hj2,hj3⟩:=hz
 have dh:=h2.length
 refine OW.run λa ha=>⟨.agg aJ.flatten.toArray,w,?_,rfl,aJ,rfl,h2⟩
 have A7:(parts.toArray.map λ(x:Nat×ba)=>(x.1,a.eval x.2)).toList=number 0 (aJ.map (pack (ad.agg α))):=by rw[<-S6 ha hp];simp
 have hf:=V5 (xs:=xs) h2 0 z.cells (by rw[hj3,dh,hm];simp)
 have Vq:z.cells.toList.drop ((0+aJ.length)*ad.sz α)=[]:=List.drop_eq_nil_of_le (by simp[hj3,dh,hm])
 rw[Vq,<-eb]at hf
 simp only[Nat.zero_mul,List.take_zero,o7,pb]at hf
 have hb:P.built t (parts.toArray.map λ(x:Nat×ba)=>(x.1,a.eval x.2)).toList=aa aJ.flatten.toArray:=by simp only[cT.built,hj1,hu,hj2,fP,A7,hf]
 have hr:=run_build (P:=P) w t _ _ hb
 simp only[execOp,Sem.run_bind]
 rw[hr]
 rfl
def Ey{z:Nat}:∀{aJ:List (List ai)},(∀c∈aJ,c.length=z)->∀i,(aJ.drop i).flatten=aJ.flatten.drop (i*z)
 |aJ,_,0=>by simp
 |[],_,i+1=>by simp
 |b::aJ,hz,i+1=>by
  have hb:b.length=z:=hz b (by simp);have e1:(i+1)*z=b.length+i*z:=by rw[hb,pX];omega
  rw[List.drop_succ_cons,Ey (aJ:=aJ) (λc hc=>hz c (by simp[hc])) i,nE,e1,List.drop_length_add_append]
def BG{z:Nat}:∀{aJ:List (List ai)},(∀c∈aJ,c.length=z)->∀i,(aJ.take i).flatten=aJ.flatten.take (i*z)
 |aJ,_,0=>by simp
 |[],_,i+1=>by simp
 |b::aJ,hz,i+1=>by
  have hb:b.length=z:=hz b (by simp);have e1:(i+1)*z=b.length+i*z:=by rw[hb,pX];omega
  rw[List.take_succ_cons,nE,BG (aJ:=aJ) (λc hc=>hz c (by simp[hc])) i,nE,e1,List.take_length_add_append]
def zx(L:List (Nat×ai))(x:Option ba)(ayY:Int)(l:Int):Prop:=(x=none∧l=ayY)∨∃y,x=aa y∧ev L y=aa (.int .i64 l)
def OW.slice [Rd]{S:Nat->Prop}{u:ba}{lo hi:Option ba}{l h:Int}{v:ai}{xs zs:List α}(hu:P.underlying t=aa (.slice e))(hT:bN P e α)(hx:ev L u=aa v)(hr:Rv S w v xs)(Bf:zx L lo 0 l)(Bo:zx L hi (Dp.len xs) h)(hz:dH xs l h=aa zs):
  OW P Q L ⟨d,.slice t u lo hi none,ty,pos,af,g⟩ w (λv' w'=>w'=w∧Rv S w v' zs):=by
 obtain⟨p,cap,rfl,h1,h2,h3⟩:=u9 hr
 unfold dH at hz
 split at hz
 case isFalse=>cases hz
 rename_i hb
 cases hz
 obtain⟨b1,b2,b3⟩:=hb
 have hlen:((xs.take h.toNat).drop l.toNat).length=h.toNat-l.toNat:=by simp;omega
 refine OW.run λa ha=>⟨.slice (if cap=l.toNat then p else p.map (·.add (l.toNat*ad.sz α))) (h.toNat-l.toNat) (cap-l.toNat),w,?_,rfl,_,rfl,_,cap-l.toNat,by rw[hlen],by rw[hlen];omega,by unfold maxLen at*;omega,?_⟩
 ·have qE:h<=(cap:Int):=by omega
  have Bn:(h.toNat:Int)=h:=by omega
  have lH:(l.toNat:Int)=l:=by omega
  rcases Bf with⟨rfl,rfl⟩|⟨yl,rfl,hl⟩<;>rcases Bo with⟨rfl,rfl⟩|⟨yh,rfl,hh⟩
  ·simp[execOp,ha _ _ hx,Instr.sliceAt,run_underlying hu,Instr.slice,Instr.sliceBounds,hT.sizeOf,Dp.len]
  ·have b0:0<=h:=by omega
   simp[execOp,ha _ _ hx,ha _ _ hh,Instr.sliceAt,run_underlying hu,Instr.slice,Instr.sliceBounds,Instr.sliceBound,asIntOf,hT.sizeOf,b0,qE]
  ·have b0:l<=(xs.length:Int):=by unfold Dp.len at b2;omega
   simp[execOp,ha _ _ hx,ha _ _ hl,Instr.sliceAt,run_underlying hu,Instr.slice,Instr.sliceBounds,Instr.sliceBound,asIntOf,hT.sizeOf,b1,b0,Dp.len]
  ·have b0:0<=h:=by omega
   simp[execOp,ha _ _ hx,ha _ _ hl,ha _ _ hh,Instr.sliceAt,run_underlying hu,Instr.slice,Instr.sliceBounds,Instr.sliceBound,asIntOf,hT.sizeOf,b1,b0,qE,Bn,b2]
 ·by_cases he:(xs.take h.toNat).drop l.toNat=[]
  ·exact .inl he
  ·have aS:l.toNat<h.toNat:=by
    rcases Nat.lt_or_ge l.toNat h.toNat with hh|hh
    ·exact hh
    ·exact(he (zF (by omega))).elim
   rcases h3 with rfl|⟨a,aJ,rfl,h4,h5,h6⟩
   ·simp at he
   ·right;have eQ:=h5.pu;refine⟨a.add (l.toNat*ad.sz α),(aJ.take h.toNat).drop l.toNat,?_,by rw[P6];exact h4,(h5.take _).drop _,?_⟩
    ·rw[aK (by omega)];rfl
    ·intro j u hj;rw[Fw];refine h6 _ _ ?_;rw[Ey (λc hc=>eQ c (List.mem_of_mem_take hc)),BG eQ,List.getElem?_drop,List.getElem?_take]at hj;split at hj
     ·exact hj
     ·cases hj
def OW.azD [Rd]{f:FuncId}{u:ba}{args:List ba}{jo:Array ai}{vs:List ai}{ats:Array aX}{R:ai->ax->Prop}(hf:∀(args:Array ai) (w:ax),(callFunc f args).run P w= .ok (.enter f args) w)(hu:ev L u=aa (.func (.func f) #[] jo))(ha:oQ L args=aa vs)(hC:Calls P f (vs.toArray++jo) w (mi R)):
  OW P Q L ⟨d,.call {callee:= .value u,args:=args.toArray,argTypes:=ats},ty,pos,af,g⟩ w R:=by
 refine OW.abf λa hr=>⟨f,vs.toArray++jo,?_,hC⟩
 have h2:args.toArray.map a.eval=vs.toArray:=by rw[<-EB hr _ ha];simp
 simp[execOp,resolve,invoke,Deferred.ofValue,hr _ _ hu,hf]at h2⊢
 rw[h2]
def OW.conv [Rd]{src dst:aX}{x:ba}{j:IntKind}{q:Int}(h1:∃k',P.underlying src=aa (.int k'))(h2:P.underlying dst=aa (.int .i64))(hx:ev L x=aa (.int j q)):
  OW P Q L ⟨d,.convert src dst x,ty,pos,af,g⟩ w (λv' w'=>v'= .int .i64 (W q)∧w'=w):=by
 obtain⟨k',h1⟩:=h1
 refine OW.run λa ha=>⟨_,w,?_,rfl,rfl⟩
 simp[execOp,ha _ _ hx,convert,run_underlying h1,run_underlying h2,Conv.intToInt,W]
structure YU(P:cT)(t:aX)(α:Type)[ad α][DecidableEq α]:Prop where
 run:∀{S S':Nat->Prop} {w:ax} {v1 v2:ai} {x y:α} (a b:ba),Rv S w v1 x->Rv S' w v2 y->
  ((eqGuard .eql t a b v1 v2).run P w= .ok () w∧(binOp .eql t v1 v2).run P w= .ok (.bool (decide (x=y))) w)∧((eqGuard .neq t a b v1 v2).run P w= .ok () w∧(binOp .neq t v1 v2).run P w= .ok (.bool (!decide (x=y))) w)
def YU.bool(h:P.underlying t=aa .bool):YU P t Bool:=⟨by intro S S' w v1 v2 x y a b h1 h2;rw[ap0]at h1 h2;subst h1 h2;have h3:∀d:Nat,(Op.equalIn (d+1) t (.bool x) (.bool y)).run P w= .ok (x==y) w:=λd=>run_equalIn_bool' w d t x y h;have h4:=h3 9999;cases x<;>cases y<;>simp[eqGuard,binOp,Op.equal,Op.maxDepth]at h4⊢<;>simp[h4]⟩
def alc(P:cT)(L:List (Nat×ai))(w:ax):lT->ai->Prop
 | .tmp t,v=>look L t=aa v
 | .cell t T,v=>∃pa,look L t=aa (.pointer (aa pa))∧(loadVar T pa).run P w= .ok v w
def zv(P:cT)(L:List (Nat×ai))(w:ax):List lT->List ai->Prop
 |[],[]=>True
 |r::rs,v::vs=>alc P L w r v∧zv P L w rs vs
 |_,_=>False
def yj:List ai->ai
 |[v]=>v
 |vs=> .tuple vs.toArray
def Ac [Rd]{fn:Func}{a:Act}(ha:Reads L a){rs:List lT}{vs:List ai}(hr:fn.results=rs.toArray)(h:zv P L w rs vs):(results fn a.tmps).run P w= .ok (yj vs) w:=by
 obtain⟨f,hf⟩:∃f:lT->Sem ai,f=(λr=>(match r with
  | .tmp t=>pure (a.tmps.getD t undef)
  | .cell a' t=>(do loadVar t (<-asAddr (a.tmps.getD a' undef))))):=⟨_,rfl⟩
 have one:∀{r:lT} {v:ai},alc P L w r v->(f r).run P w= .ok v w:=by
  intro r v h;rw[hf];cases r with
  |tmp t=>have h1:=ha (.tmp t) v h;simp only[Act.eval]at h1;simp only[Sem.run_pure,h1]
  |cell t T=>obtain⟨pa,h3,h4⟩:=h;have h1:=ha (.tmp t) _ h3;simp only[Act.eval]at h1;simp only[Sem.run_bind,h1,asAddr,Sem.run_pure,Result.andThen_ok,h4]
 have key:∀{rs:List lT} {vs:List ai},zv P L w rs vs->(rs.mapM f).run P w= .ok vs w:=by
  intro rs;induction rs with
  |nil=>intro vs h;cases vs with
   |nil=>simp
   |cons v vs=>exact h.elim
  |cons r rs ih=>
   intro vs h;cases vs with
   |nil=>exact h.elim
   |cons v vs=>simp only[List.mapM_cons,Sem.run_bind,one h.1,Result.andThen_ok,ih h.2,Sem.run_pure]
 have h1:=key h;have h2:results fn a.tmps=(do let vs<-fn.results.mapM f;pure (if h:vs.size=1 then vs[0]else .tuple vs)):=by rw[hf];rfl
 rw[h2,hr,Array.mapM_eq_mapM_toList];simp only[map_eq_pure_bind,Sem.run_bind,h1,Result.andThen_ok,Sem.run_pure];match vs with
 |[]=>simp[yj]
 |[v]=>simp[yj]
 |_::_::_=>simp[yj]
def CW.mA{fn:Func}{R:Ending->ax->Prop}{rs:List lT}{vs:List ai}(hr:fn.results=rs.toArray)(h:zv P L w rs vs)(hR:R (.returned (yj vs)) w)(hQ:∀a w,bodyPost P fn R .ret a w->Q .ret a w):CW P n .ret Q L w:=
 λa ha=>wpIn_ret (hQ _ _ (bodyPost_ret (Ac (λ_ _ hx=>ha.ev hx) hr h) ha.defers hR))
end
def T2:TypeDesc->Bool
 | .struct _| .array _ _=>ab
 |_=>false
def bN.of{P:cT}{t:aX}{α:Type}[ad α]{d:TypeDesc}(h1:P.underlying t=aa d)(h2:T2 d=ad.agg α)
  (h3:(P.info? t).map (λi=>(i.size,eN i.bytes 65536,i.zero))=aa (ad.sz α,ab,aa (pack (ad.agg α) (ad.zc α)))):bN P t α:=by
 refine⟨⟨d,h1,by rw[<-h2];cases d<;>rfl⟩,?_⟩
 cases hi:P.info? t with
 |none=>simp[hi]at h3
 |some i=>
  simp[hi]at h3
  exact⟨i,rfl,h3.1,h3.2.1,h3.2.2⟩
section
variable {o:cE} {w w':ax}
end
end Dp
end Go.Proofs.YtgaghlbepnjhiaaGreat
namespace Go.Proofs.YtgaghlbepnjhiaaGreat
open Go Go.RowKit
namespace Dp
section
variable {α β:Type} [ad α] [ad β]
variable {P:cT} {n:Nat} {Q:Exit->Act->ax->Prop} {L:List (Nat×ai)} {w w':ax} {ops:Array Oper} {rest:List Oper} {d:Option Tmp} {ty:aX} {pos:String} {af:Array Edge} {g:Option (Nat×Bool)} {t T e:aX} {o o':cE} {K M N:List Nat} {k c:Nat}
def Rv.one{α:Type}[ad α]{S:Nat->Prop}{v:ai}{x:α}(h:Rv S w v x)(hg:ad.agg α=false):v.oneCell'=ab:=by
 obtain⟨cs,rfl,h1⟩:=h;have hl:=ad.len h1;rw[ad.flat hg]at hl;match cs,hl with
 |[u],_=>have:=ad.one h1 u (by simp);simpa[pack,hg]using this
def Ow.one{v:ai}{xs:List α}(h:Ow T o k K w v xs):v.oneCell'=ab:=by rcases h with⟨rfl,_⟩|⟨g,f,cap,aU,aJ,rfl,_⟩<;>rfl
def add_zero'(a:Addr):a.add 0=a:=by simp[Addr.add]
structure FR(P:cT)(T:aX)(i off:Nat):Prop where
 uu:∃fs fd,P.underlying T=aa (.struct fs)∧fs[i]? =aa fd∧fd.offset=off∧∃inf,P.info? fd.type=aa inf∧inf.size≠0
def OW.VY [Rd]{i off:Nat}{pa:Addr}{x:ba}(hF:FR P T i off)(hx:ev L x=aa (.pointer (aa pa))):
  OW P Q L ⟨d,.fieldAddr T x i,ty,pos,af,g⟩ w (λv w'=>v= .pointer (aa (pa.add off))∧w'=w):=by
 refine OW.run λa ha=>⟨_,w,?_,rfl,rfl⟩
 obtain⟨fs,fd,h1,h2,h3,inf,h4,h5⟩:=hF.uu
 have hs:(sizeOf fd.type).run P w= .ok inf.size w:=by simp[sizeOf,typeInfo,h4]
 simp[execOp,ha _ _ hx,Instr.fieldAt,run_underlying h1,h2,Instr.sureAddr,fieldPlace,hs,h5,h3]
def O4{v:ai}(h:v.oneCell'=ab):v.cells=[v].toArray:=by cases v<;>simp_all [ai.cells,ai.oneCell']
def Qw:List (Nat×ai)->List (Nat×List ai)->Prop
 |[],[]=>True
 |(i,v)::r,(j,c)::s=>i=j∧v.cells=c.toArray∧Qw r s
 |_,_=>False
def BH(pl:List (Nat×Nat)):List ai->List (Nat×List ai)->Option (List ai)
 |cs,[]=>aa cs
 |cs,(i,c)::r=>match pl[i]? with
  |some (off,sz)=>if Nat.beq c.length sz=ab∧eN (off+sz) cs.length=ab then BH pl (cs.take off++c++cs.drop (off+c.length)) r else none
  |none=>none
def afv{pl:List (Nat×Nat)}:∀{vs:List (Nat×ai)} {su:List (Nat×List ai)} {cs jm:List ai},Qw vs su->BH pl cs su=aa jm->Instr.fill (pl.toArray[·]?) cs.toArray vs=aa jm.toArray
 |[],[],cs,jm,_,h=>by simp[BH]at h;subst h;rfl
 |(i,v)::r,(j,c)::s,cs,jm,hp,h=>by
  obtain⟨rfl,hc,hp⟩:=hp;unfold BH at h;split at h
  case h_2=>cases h
  rename_i off sz qA;split at h
  case isFalse=>cases h
  rename_i hb;have h1:c.length=sz:=Nat.eq_of_beq_eq_true hb.1;have h2:off+sz<=cs.length:=dw hb.2;have hf:=abU c off 0 cs.toArray (by simp;omega);simp only[Nat.add_zero]at hf;have auI:pl.toArray[i]? =aa (off,sz):=by simpa using qA
  have ez:c.toArray.zipIdx.toList=c.zipIdx:=by simp
  simp only[Instr.fill,auI,hc,List.size_toArray,h1,ne_eq,not_true_eq_false,false_or,decide_false,Bool.false_or];rw[aK (by simp;omega)];rw[<-Array.foldl_toList,ez,hf];exact afv hp h
def Rv.SU{S:Nat->Prop}{v:ai}{x:α}(h:Rv S w v x)(hg:ad.agg α=false):ad.rd S w [v] x:=by
 obtain⟨cs,rfl,h1⟩:=h;have hl:=ad.len h1;rw[ad.flat hg]at hl;match cs,hl with
 |[u],_=>simpa[pack,hg]using h1
