import Derived.Test.YtmngjhagbjgmfaaGreatDt
import Derived.Great.BuildSlice
set_option linter.all false
open Bool renaming true->ab
open Go renaming Operand->aZ,Program->cP,ResultVar->lc,TypeId->aX,Value->ah,World->ax
open List renaming append_nil->pR,eq_nil_of_length_eq_zero->zj,flatten_cons->oW,nil_append->oS
open Nat renaming ble->ef,le_of_ble_eq_true->dm,succ_mul->qT
open Option renaming some->aa
namespace Go.Proofs.YtmngjhagbjgmfaaGreat
open Go Go.RowKit
namespace Dp
section
variable {α β:Type} [ad α] [ad β]
variable {P:cP} {n:Nat} {Q:Exit->Act->ax->Prop} {L:List (Nat×ah)} {w:ax} {ops:Array Oper} {rest:List Oper} {d:Option Tmp} {ty:aX} {pos:String} {af:Array Edge} {g:Option (Nat×Bool)} {t T e:aX} {o:cA} {K:List Nat} {k:Nat}
def OW.buildSlice [Rd]{m:Nat}{parts:List (Nat×aZ)}{vs:List ah}{xs:List α}(hu:P.underlying t=aa (.slice e))(hT:bN P e α)(hp:xY L 0 parts=aa vs)(h:xq (In o K) w vs xs)(hm:xs.length=m)(hs:ef (m*ad.sz α) 65536=ab):
  OW P Q L ⟨d,.buildSlice t m parts.toArray,ty,pos,af,g⟩ w (λv' w'=>∃o',bO [] [k] o w o' w'∧Ow e o' k K w' v' xs):=by
 obtain⟨aJ,rfl,h2⟩:=h.aJ
 obtain⟨i,gp,ek,iu,mE⟩:=hT.nD
 have cY:=h2.length
 have eH:=qD h2
 have wT:m*ad.sz α<=65536:=dm hs
 have sD:=ad.pos (α:=α)
 have aC':m<=m*ad.sz α:=Nat.le_mul_of_pos_right m sD
 have vn:∀ob:Obj,∀b,In o K b->b<w.heap.size->In (grow o w k) K b∧(w.alloc ob).heap[b]? =w.heap[b]? :=λob=>bO.ro (bO.alloc o w ob k) (by simp[nc])
 refine OW.run λa ha=>⟨.slice (aa ⟨w.heap.size,0,none⟩) m m,w.alloc (.cells aJ.flatten.toArray e),?_,grow o w k,bO.alloc o w _ k,.inr ⟨w.heap.size,0,m,_,aJ,by rw[hm],sN o w k _ (Nat.le_refl _),heap_alloc_new w _,by omega,by unfold maxLen;omega,by simp[eH,hm],h2.mono λ_ _=>ad.mono (vn _),?_⟩⟩
 ·have AJ:(parts.toArray.map λ(x:Nat×aZ)=>(x.1,a.eval x.2)).toList=number 0 (aJ.map (pack (ad.agg α))):=by
   rw[<-R9 ha hp];simp
  by_cases h0:m=0
  ·have hx:aJ=[]:=zj (by omega);subst hx;simp[number]at AJ;simp[execOp,Instr.buildSlice,run_underlying hu,sizeOf,typeInfo,gp,h0,newRow,newObj,Instr.fill,AJ];have e0:Array.range 0= #[]:=by simp[Array.range]
   rw[e0,Array.map_empty];rfl
  ·have bQ:¬m*i.size=0:=by rw[ek];intro hh;rcases Nat.mul_eq_zero.1 hh with h|h<;>omega
   have hf:=Vc (xs:=xs) h2 0 ((Array.range (m*i.size)).map ((pack (ad.agg α) (ad.zc α)).cells[·% (pack (ad.agg α) (ad.zc α)).cells.size]!)) (by simp[ek,cY,hm]);have Uu:((Array.range (m*i.size)).map ((pack (ad.agg α) (ad.zc α)).cells[·% (pack (ad.agg α) (ad.zc α)).cells.size]!)).toList.drop ((0+aJ.length)*ad.sz α)=[]:=List.drop_eq_nil_of_le (by simp[ek,cY,hm]);rw[Uu,<-ek]at hf;simp only[Nat.zero_mul,List.take_zero,oS,pR]at hf;rw[<-AJ]at hf;have fF:¬m*i.size>2^24:=by rw[ek];omega
   have hb:=run_buildSlice (P:=P) w t e m _ _ i _ hu gp mE fF bQ hf;simp only[execOp,Sem.run_bind];rw[hb];rfl
 ·show(aJ.flatten.toArray.toList).take (xs.length*ad.sz α)=aJ.flatten;rw[<-eH];exact List.take_length
structure E6(P:cP)(T:aX)(pl:List (Nat×Nat)):Prop where
 fs:∃fs,P.underlying T=aa (.struct fs)∧fs.toList.mapM (λf=>(P.info? f.type).map λi=>(f.offset,i.size))=aa pl
def Bm(L:List (Nat×ah)):List (Nat×aZ)->Option (List (Nat×ah))
 |[]=>aa []
 |(i,x)::r=>match ev L x,Bm L r with
  |some v,aa vs=>aa ((i,v)::vs)
  |_,_=>none
def aeD [Rd]{a:Act}(ha:Reads L a):∀{l:List (Nat×aZ)} {vs:List (Nat×ah)},Bm L l=aa vs->l.map (λp=>(p.1,a.eval p.2))=vs
 |[],vs,h=>by simp[Bm]at h;subst h;rfl
 |(i,x)::r,vs,h=>by
  unfold Bm at h;split at h
  ·rename_i v us h2 h3;cases h;simp[aeD ha h3,ha _ _ h2]
  ·cases h
def OW.ajh [Rd]{m:Nat}{S:Nat->Prop}{parts:List (Nat×aZ)}{vs:List ah}{xs:List α}(hu:P.underlying t=aa (.array m e))(hT:bN P e α)(hz:∃i z,P.info? t=aa i∧i.zero=aa z∧z.cells.size=m*ad.sz α)(hp:xY L 0 parts=aa vs)(h:xq S w vs xs)(hm:xs.length=m):
  OW P Q L ⟨d,.build t parts.toArray,ty,pos,af,g⟩ w (λv' w'=>w'=w∧∃aJ,v'= .agg aJ.flatten.toArray∧cn (ad.rd S w) aJ xs):=by
 obtain⟨aJ,rfl,h2⟩:=h.aJ
 obtain⟨i,gp,ek,iu,mE⟩:=hT.nD
 obtain⟨j,z,hj1,hj2,hj3⟩:=hz
 have cY:=h2.length
 refine OW.run λa ha=>⟨.agg aJ.flatten.toArray,w,?_,rfl,aJ,rfl,h2⟩
 have AJ:(parts.toArray.map λ(x:Nat×aZ)=>(x.1,a.eval x.2)).toList=number 0 (aJ.map (pack (ad.agg α))):=by rw[<-R9 ha hp];simp
 have hf:=Vc (xs:=xs) h2 0 z.cells (by rw[hj3,cY,hm];simp)
 have Uu:z.cells.toList.drop ((0+aJ.length)*ad.sz α)=[]:=List.drop_eq_nil_of_le (by simp[hj3,cY,hm])
 rw[Uu,<-ek]at hf
 simp only[Nat.zero_mul,List.take_zero,oS,pR]at hf
 have hb:P.built t (parts.toArray.map λ(x:Nat×aZ)=>(x.1,a.eval x.2)).toList=aa aJ.flatten.toArray:=by simp only[cP.built,hj1,hu,hj2,gp,AJ,hf]
 have hr:=run_build (P:=P) w t _ _ hb
 simp only[execOp,Sem.run_bind]
 rw[hr]
 rfl
def D5{z:Nat}:∀{aJ:List (List ah)},(∀c∈aJ,c.length=z)->∀i,(aJ.drop i).flatten=aJ.flatten.drop (i*z)
 |aJ,_,0=>by simp
 |[],_,i+1=>by simp
 |b::aJ,hz,i+1=>by
  have hb:b.length=z:=hz b (by simp);have e1:(i+1)*z=b.length+i*z:=by rw[hb,qT];omega
  rw[List.drop_succ_cons,D5 (aJ:=aJ) (λc hc=>hz c (by simp[hc])) i,oW,e1,List.drop_length_add_append]
def Bj{z:Nat}:∀{aJ:List (List ah)},(∀c∈aJ,c.length=z)->∀i,(aJ.take i).flatten=aJ.flatten.take (i*z)
 |aJ,_,0=>by simp
 |[],_,i+1=>by simp
 |b::aJ,hz,i+1=>by
  have hb:b.length=z:=hz b (by simp);have e1:(i+1)*z=b.length+i*z:=by rw[hb,qT];omega
  rw[List.take_succ_cons,oW,Bj (aJ:=aJ) (λc hc=>hz c (by simp[hc])) i,oW,e1,List.take_length_add_append]
def zf(L:List (Nat×ah))(x:Option aZ)(axG:Int)(l:Int):Prop:=(x=none∧l=axG)∨∃y,x=aa y∧ev L y=aa (.int .i64 l)
def OW.slice [Rd]{S:Nat->Prop}{u:aZ}{lo hi:Option aZ}{l h:Int}{v:ah}{xs zs:List α}(hu:P.underlying t=aa (.slice e))(hT:bN P e α)(hx:ev L u=aa v)(hr:Rv S w v xs)(AU:zf L lo 0 l)(A6:zf L hi (Dp.len xs) h)(hz:dI xs l h=aa zs):
  OW P Q L ⟨d,.slice t u lo hi none,ty,pos,af,g⟩ w (λv' w'=>w'=w∧Rv S w v' zs):=by
 obtain⟨p,cap,rfl,h1,h2,h3⟩:=uW hr
 unfold dI at hz
 split at hz
 case isFalse=>cases hz
 rename_i hb
 cases hz
 obtain⟨b1,b2,b3⟩:=hb
 have hlen:((xs.take h.toNat).drop l.toNat).length=h.toNat-l.toNat:=by simp;omega
 refine OW.run λa ha=>⟨.slice (if cap=l.toNat then p else p.map (·.add (l.toNat*ad.sz α))) (h.toNat-l.toNat) (cap-l.toNat),w,?_,rfl,_,rfl,_,cap-l.toNat,by rw[hlen],by rw[hlen];omega,by unfold maxLen at*;omega,?_⟩
 ·have ql:h<=(cap:Int):=by omega
  have A5:(h.toNat:Int)=h:=by omega
  have rC:(l.toNat:Int)=l:=by omega
  rcases AU with⟨rfl,rfl⟩|⟨yl,rfl,hl⟩<;>rcases A6 with⟨rfl,rfl⟩|⟨yh,rfl,hh⟩
  ·simp[execOp,ha _ _ hx,Instr.sliceAt,run_underlying hu,Instr.slice,Instr.sliceBounds,hT.sizeOf,Dp.len]
  ·have b0:0<=h:=by omega
   simp[execOp,ha _ _ hx,ha _ _ hh,Instr.sliceAt,run_underlying hu,Instr.slice,Instr.sliceBounds,Instr.sliceBound,asIntOf,hT.sizeOf,b0,ql]
  ·have b0:l<=(xs.length:Int):=by unfold Dp.len at b2;omega
   simp[execOp,ha _ _ hx,ha _ _ hl,Instr.sliceAt,run_underlying hu,Instr.slice,Instr.sliceBounds,Instr.sliceBound,asIntOf,hT.sizeOf,b1,b0,Dp.len]
  ·have b0:0<=h:=by omega
   simp[execOp,ha _ _ hx,ha _ _ hl,ha _ _ hh,Instr.sliceAt,run_underlying hu,Instr.slice,Instr.sliceBounds,Instr.sliceBound,asIntOf,hT.sizeOf,b1,b0,ql,A5,b2]
 ·by_cases he:(xs.take h.toNat).drop l.toNat=[]
  ·exact .inl he
  ·have aU:l.toNat<h.toNat:=by
    rcases Nat.lt_or_ge l.toNat h.toNat with hh|hh
    ·exact hh
    ·exact(he (zj (by omega))).elim
   rcases h3 with rfl|⟨a,aJ,rfl,h4,h5,h6⟩
   ·simp at he
   ·right;have eK:=h5.o9;refine⟨a.add (l.toNat*ad.sz α),(aJ.take h.toNat).drop l.toNat,?_,by rw[Pa];exact h4,(h5.take _).drop _,?_⟩
    ·rw[aK (by omega)];rfl
    ·intro j u hj;rw[E0];refine h6 _ _ ?_;rw[D5 (λc hc=>eK c (List.mem_of_mem_take hc)),Bj eK,List.getElem?_drop,List.getElem?_take]at hj;split at hj
     ·exact hj
     ·cases hj
def OW.ayg [Rd]{f:FuncId}{u:aZ}{args:List aZ}{jc:Array ah}{vs:List ah}{ats:Array aX}{R:ah->ax->Prop}(hf:∀(args:Array ah) (w:ax),(callFunc f args).run P w= .ok (.enter f args) w)(hu:ev L u=aa (.func (.func f) #[] jc))(ha:oH L args=aa vs)(hC:Calls P f (vs.toArray++jc) w (mb R)):
  OW P Q L ⟨d,.call {callee:= .value u,args:=args.toArray,argTypes:=ats},ty,pos,af,g⟩ w R:=by
 refine OW.aao λa hr=>⟨f,vs.toArray++jc,?_,hC⟩
 have h2:args.toArray.map a.eval=vs.toArray:=by rw[<-D8 hr _ ha];simp
 simp[execOp,resolve,invoke,Deferred.ofValue,hr _ _ hu,hf]at h2⊢
 rw[h2]
def OW.conv [Rd]{src dst:aX}{x:aZ}{j:IntKind}{q:Int}(h1:∃k',P.underlying src=aa (.int k'))(h2:P.underlying dst=aa (.int .i64))(hx:ev L x=aa (.int j q)):
  OW P Q L ⟨d,.convert src dst x,ty,pos,af,g⟩ w (λv' w'=>v'= .int .i64 (W q)∧w'=w):=by
 obtain⟨k',h1⟩:=h1
 refine OW.run λa ha=>⟨_,w,?_,rfl,rfl⟩
 simp[execOp,ha _ _ hx,convert,run_underlying h1,run_underlying h2,Conv.intToInt,W]
structure X2(P:cP)(t:aX)(α:Type)[ad α][DecidableEq α]:Prop where
 run:∀{S S':Nat->Prop} {w:ax} {v1 v2:ah} {x y:α} (a b:aZ),Rv S w v1 x->Rv S' w v2 y->
  ((eqGuard .eql t a b v1 v2).run P w= .ok () w∧(binOp .eql t v1 v2).run P w= .ok (.bool (decide (x=y))) w)∧((eqGuard .neq t a b v1 v2).run P w= .ok () w∧(binOp .neq t v1 v2).run P w= .ok (.bool (!decide (x=y))) w)
def X2.bool(h:P.underlying t=aa .bool):X2 P t Bool:=⟨by intro S S' w v1 v2 x y a b h1 h2;rw[aoL]at h1 h2;subst h1 h2;have h3:∀d:Nat,(Op.equalIn (d+1) t (.bool x) (.bool y)).run P w= .ok (x==y) w:=λd=>run_equalIn_bool' w d t x y h;have h4:=h3 9999;cases x<;>cases y<;>simp[eqGuard,binOp,Op.equal,Op.maxDepth]at h4⊢<;>simp[h4]⟩
def aj3(P:cP)(L:List (Nat×ah))(w:ax):lc->ah->Prop
 | .tmp t,v=>look L t=aa v
 | .cell t T,v=>∃pa,look L t=aa (.pointer (aa pa))∧(loadVar T pa).run P w= .ok v w
def zb(P:cP)(L:List (Nat×ah))(w:ax):List lc->List ah->Prop
 |[],[]=>True
 |r::rs,v::vs=>aj3 P L w r v∧zb P L w rs vs
 |_,_=>False
def xP:List ah->ah
 |[v]=>v
 |vs=> .tuple vs.toArray
def zJ [Rd]{fn:Func}{a:Act}(ha:Reads L a){rs:List lc}{vs:List ah}(hr:fn.results=rs.toArray)(h:zb P L w rs vs):(results fn a.tmps).run P w= .ok (xP vs) w:=by
 obtain⟨f,hf⟩:∃f:lc->Sem ah,f=(λr=>(match r with
  | .tmp t=>pure (a.tmps.getD t undef)
  | .cell a' t=>(do loadVar t (<-asAddr (a.tmps.getD a' undef))))):=⟨_,rfl⟩
 have one:∀{r:lc} {v:ah},aj3 P L w r v->(f r).run P w= .ok v w:=by
  intro r v h;rw[hf];cases r with
  |tmp t=>have h1:=ha (.tmp t) v h;simp only[Act.eval]at h1;simp only[Sem.run_pure,h1]
  |cell t T=>obtain⟨pa,h3,h4⟩:=h;have h1:=ha (.tmp t) _ h3;simp only[Act.eval]at h1;simp only[Sem.run_bind,h1,asAddr,Sem.run_pure,Result.andThen_ok,h4]
 have key:∀{rs:List lc} {vs:List ah},zb P L w rs vs->(rs.mapM f).run P w= .ok vs w:=by
  intro rs;induction rs with
  |nil=>intro vs h;cases vs with
   |nil=>simp
   |cons v vs=>exact h.elim
  |cons r rs ih=>
   intro vs h;cases vs with
   |nil=>exact h.elim
   |cons v vs=>simp only[List.mapM_cons,Sem.run_bind,one h.1,Result.andThen_ok,ih h.2,Sem.run_pure]
 have h1:=key h;have h2:results fn a.tmps=(do let vs<-fn.results.mapM f;pure (if h:vs.size=1 then vs[0]else .tuple vs)):=by rw[hf];rfl
 rw[h2,hr,Array.mapM_eq_mapM_toList];simp only[map_eq_pure_bind,Sem.run_bind,h1,Result.andThen_ok,Sem.run_pure];match vs with
 |[]=>simp[xP]
 |[v]=>simp[xP]
 |_::_::_=>simp[xP]
def CW.mn{fn:Func}{R:Ending->ax->Prop}{rs:List lc}{vs:List ah}(hr:fn.results=rs.toArray)(h:zb P L w rs vs)(hR:R (.returned (xP vs)) w)(hQ:∀a w,bodyPost P fn R .ret a w->Q .ret a w):CW P n .ret Q L w:=
 λa ha=>wpIn_ret (hQ _ _ (bodyPost_ret (zJ (λ_ _ hx=>ha.ev hx) hr h) ha.defers hR))
end
def S9:TypeDesc->Bool
 | .struct _| .array _ _=>ab
 |_=>false
def bN.of{P:cP}{t:aX}{α:Type}[ad α]{d:TypeDesc}(h1:P.underlying t=aa d)(h2:S9 d=ad.agg α)
  (h3:(P.info? t).map (λi=>(i.size,ef i.bytes 65536,i.zero))=aa (ad.sz α,ab,aa (pack (ad.agg α) (ad.zc α)))):bN P t α:=by
 refine⟨⟨d,h1,by rw[<-h2];cases d<;>rfl⟩,?_⟩
 cases hi:P.info? t with
 |none=>simp[hi]at h3
 |some i=>
  simp[hi]at h3
  exact⟨i,rfl,h3.1,h3.2.1,h3.2.2⟩
section
variable {o:cA} {w w':ax}
end
end Dp
end Go.Proofs.YtmngjhagbjgmfaaGreat
namespace Go.Proofs.YtmngjhagbjgmfaaGreat
open Go Go.RowKit
namespace Dp
section
variable {α β:Type} [ad α] [ad β]
variable {P:cP} {n:Nat} {Q:Exit->Act->ax->Prop} {L:List (Nat×ah)} {w w':ax} {ops:Array Oper} {rest:List Oper} {d:Option Tmp} {ty:aX} {pos:String} {af:Array Edge} {g:Option (Nat×Bool)} {t T e:aX} {o o':cA} {K M N:List Nat} {k c:Nat}
def Rv.one{α:Type}[ad α]{S:Nat->Prop}{v:ah}{x:α}(h:Rv S w v x)(hg:ad.agg α=false):v.oneCell'=ab:=by
 obtain⟨cs,rfl,h1⟩:=h;have hl:=ad.len h1;rw[ad.flat hg]at hl;match cs,hl with
 |[u],_=>have:=ad.one h1 u (by simp);simpa[pack,hg]using this
def Ow.one{v:ah}{xs:List α}(h:Ow T o k K w v xs):v.oneCell'=ab:=by rcases h with⟨rfl,_⟩|⟨g,f,cap,aV,aJ,rfl,_⟩<;>rfl
def add_zero'(a:Addr):a.add 0=a:=by simp[Addr.add]
structure Fj(P:cP)(T:aX)(i off:Nat):Prop where
 um:∃fs fd,P.underlying T=aa (.struct fs)∧fs[i]? =aa fd∧fd.offset=off∧∃inf,P.info? fd.type=aa inf∧inf.size≠0
def OW.U5 [Rd]{i off:Nat}{pa:Addr}{x:aZ}(hF:Fj P T i off)(hx:ev L x=aa (.pointer (aa pa))):
  OW P Q L ⟨d,.fieldAddr T x i,ty,pos,af,g⟩ w (λv w'=>v= .pointer (aa (pa.add off))∧w'=w):=by
 refine OW.run λa ha=>⟨_,w,?_,rfl,rfl⟩
 obtain⟨fs,fd,h1,h2,h3,inf,h4,h5⟩:=hF.um
 have hs:(sizeOf fd.type).run P w= .ok inf.size w:=by simp[sizeOf,typeInfo,h4]
 simp[execOp,ha _ _ hx,Instr.fieldAt,run_underlying h1,h2,Instr.sureAddr,fieldPlace,hs,h5,h3]
def N3{v:ah}(h:v.oneCell'=ab):v.cells=[v].toArray:=by cases v<;>simp_all [ah.cells,ah.oneCell']
def PF:List (Nat×ah)->List (Nat×List ah)->Prop
 |[],[]=>True
 |(i,v)::r,(j,c)::s=>i=j∧v.cells=c.toArray∧PF r s
 |_,_=>False
def Bk(pl:List (Nat×Nat)):List ah->List (Nat×List ah)->Option (List ah)
 |cs,[]=>aa cs
 |cs,(i,c)::r=>match pl[i]? with
  |some (off,sz)=>if Nat.beq c.length sz=ab∧ef (off+sz) cs.length=ab then Bk pl (cs.take off++c++cs.drop (off+c.length)) r else none
  |none=>none
def aeA{pl:List (Nat×Nat)}:∀{vs:List (Nat×ah)} {si:List (Nat×List ah)} {cs i_:List ah},PF vs si->Bk pl cs si=aa i_->Instr.fill (pl.toArray[·]?) cs.toArray vs=aa i_.toArray
 |[],[],cs,i_,_,h=>by simp[Bk]at h;subst h;rfl
 |(i,v)::r,(j,c)::s,cs,i_,hp,h=>by
  obtain⟨rfl,hc,hp⟩:=hp;unfold Bk at h;split at h
  case h_2=>cases h
  rename_i off sz qh;split at h
  case isFalse=>cases h
  rename_i hb;have h1:c.length=sz:=Nat.eq_of_beq_eq_true hb.1;have h2:off+sz<=cs.length:=dm hb.2;have hf:=aa1 c off 0 cs.toArray (by simp;omega);simp only[Nat.add_zero]at hf;have ato:pl.toArray[i]? =aa (off,sz):=by simpa using qh
  have ez:c.toArray.zipIdx.toList=c.zipIdx:=by simp
  simp only[Instr.fill,ato,hc,List.size_toArray,h1,ne_eq,not_true_eq_false,false_or,decide_false,Bool.false_or];rw[aK (by simp;omega)];rw[<-Array.foldl_toList,ez,hf];exact aeA hp h
def Rv.RX{S:Nat->Prop}{v:ah}{x:α}(h:Rv S w v x)(hg:ad.agg α=false):ad.rd S w [v] x:=by
 obtain⟨cs,rfl,h1⟩:=h;have hl:=ad.len h1;rw[ad.flat hg]at hl;match cs,hl with
 |[u],_=>simpa[pack,hg]using h1
