import Derived.Test.YtmngjhagbjgmfaaGreatDt
import Derived.Great.BuildSlice
set_option linter.all false
open Bool renaming true->ab
open Go renaming Operand->a_,Program->cQ,ResultVar->li,TypeId->aY,Value->ah,World->ay
open List renaming append_nil->pU,eq_nil_of_length_eq_zero->zn,flatten_cons->oZ,nil_append->oV
open Nat renaming ble->eh,le_of_ble_eq_true->dp,succ_mul->qW
open Option renaming none->ak,some->aa
namespace Go.Proofs.YtmngjhagbjgmfaaGreat
open Go Go.RowKit
namespace Dp
section
variable {α β:Type} [ad α] [ad β]
variable {P:cQ} {n:Nat} {Q:Exit->Act->ay->Prop} {L:List (Nat×ah)} {w:ay} {ops:Array Oper} {rest:List Oper} {d:Option Tmp} {ty:aY} {pos:String} {af:Array Edge} {g:Option (Nat×Bool)} {t T e:aY} {o:cB} {K:List Nat} {k:Nat}
def OW.buildSlice [Rd]{m:Nat}{parts:List (Nat×a_)}{vs:List ah}{xs:List α}(hu:P.underlying t=aa (.slice e))(hT:bO P e α)(hp:yb L 0 parts=aa vs)(h:xv (In o K) w vs xs)(hm:xs.length=m)(hs:eh (m*ad.sz α) 65536=ab):
  OW P Q L ⟨d,.buildSlice t m parts.toArray,ty,pos,af,g⟩ w (λv' w'=>∃o',bP [] [k] o w o' w'∧Ow e o' k K w' v' xs):=by
 obtain⟨aK,rfl,h2⟩:=h.aK
 obtain⟨i,gw,ep,iy,mH⟩:=hT.nG
 have c_:=h2.length
 have eJ:=qG h2
 have wX:m*ad.sz α<=65536:=dp hs
 have sH:=ad.pos (α:=α)
 have aDd:m<=m*ad.sz α:=Nat.le_mul_of_pos_right m sH
 have vv:∀ob:Obj,∀b,In o K b->b<w.heap.size->In (grow o w k) K b∧(w.alloc ob).heap[b]? =w.heap[b]? :=λob=>bP.ro (bP.alloc o w ob k) (by simp[ni])
 refine OW.run λa ha=>⟨.slice (aa ⟨w.heap.size,0,ak⟩) m m,w.alloc (.cells aK.flatten.toArray e),?_,grow o w k,bP.alloc o w _ k,.inr ⟨w.heap.size,0,m,_,aK,by rw[hm],sR o w k _ (Nat.le_refl _),heap_alloc_new w _,by omega,by unfold maxLen;omega,by simp[eJ,hm],h2.mono λ_ _=>ad.mono (vv _),?_⟩⟩
 ·have AN:(parts.toArray.map λ(x:Nat×a_)=>(x.1,a.eval x.2)).toList=number 0 (aK.map (pack (ad.agg α))):=by
   rw[<-Sc ha hp];simp
  by_cases h0:m=0
  ·have hx:aK=[]:=zn (by omega);subst hx;simp[number]at AN;simp[execOp,Instr.buildSlice,run_underlying hu,sizeOf,typeInfo,gw,h0,newRow,newObj,Instr.fill,AN];have e0:Array.range 0= #[]:=by simp[Array.range]
   rw[e0,Array.map_empty];rfl
  ·have bR:¬m*i.size=0:=by rw[ep];intro hh;rcases Nat.mul_eq_zero.1 hh with h|h<;>omega
   have hf:=Vg (xs:=xs) h2 0 ((Array.range (m*i.size)).map ((pack (ad.agg α) (ad.zc α)).cells[·% (pack (ad.agg α) (ad.zc α)).cells.size]!)) (by simp[ep,c_,hm]);have Uy:((Array.range (m*i.size)).map ((pack (ad.agg α) (ad.zc α)).cells[·% (pack (ad.agg α) (ad.zc α)).cells.size]!)).toList.drop ((0+aK.length)*ad.sz α)=[]:=List.drop_eq_nil_of_le (by simp[ep,c_,hm]);rw[Uy,<-ep]at hf;simp only[Nat.zero_mul,List.take_zero,oV,pU]at hf;rw[<-AN]at hf;have fH:¬m*i.size>2^24:=by rw[ep];omega
   have hb:=run_buildSlice (P:=P) w t e m _ _ i _ hu gw mH fH bR hf;simp only[execOp,Sem.run_bind];rw[hb];rfl
 ·show(aK.flatten.toArray.toList).take (xs.length*ad.sz α)=aK.flatten;rw[<-eJ];exact List.take_length
structure E_(P:cQ)(T:aY)(pl:List (Nat×Nat)):Prop where
 fs:∃fs,P.underlying T=aa (.struct fs)∧fs.toList.mapM (λf=>(P.info? f.type).map λi=>(f.offset,i.size))=aa pl
def Bq(L:List (Nat×ah)):List (Nat×a_)->Option (List (Nat×ah))
 |[]=>aa []
 |(i,x)::r=>match ev L x,Bq L r with
  |some v,aa vs=>aa ((i,v)::vs)
  |_,_=>ak
def aeH [Rd]{a:Act}(ha:Reads L a):∀{l:List (Nat×a_)} {vs:List (Nat×ah)},Bq L l=aa vs->l.map (λp=>(p.1,a.eval p.2))=vs
 |[],vs,h=>by simp[Bq]at h;subst h;rfl
 |(i,x)::r,vs,h=>by
  unfold Bq at h;split at h
  ·rename_i v us h2 h3;cases h;simp[aeH ha h3,ha _ _ h2]
  ·cases h
def OW.ajl [Rd]{m:Nat}{S:Nat->Prop}{parts:List (Nat×a_)}{vs:List ah}{xs:List α}(hu:P.underlying t=aa (.array m e))(hT:bO P e α)(hz:∃i z,P.info? t=aa i∧i.zero=aa z∧z.cells.size=m*ad.sz α)(hp:yb L 0 parts=aa vs)(h:xv S w vs xs)(hm:xs.length=m):
  OW P Q L ⟨d,.build t parts.toArray,ty,pos,af,g⟩ w (λv' w'=>w'=w∧∃aK,v'= .agg aK.flatten.toArray∧cp (ad.rd S w) aK xs):=by
 obtain⟨aK,rfl,h2⟩:=h.aK
 obtain⟨i,gw,ep,iy,mH⟩:=hT.nG
 obtain⟨j,z,hj1,hj2,hj3⟩:=hz
 have c_:=h2.length
 refine OW.run λa ha=>⟨.agg aK.flatten.toArray,w,?_,rfl,aK,rfl,h2⟩
 have AN:(parts.toArray.map λ(x:Nat×a_)=>(x.1,a.eval x.2)).toList=number 0 (aK.map (pack (ad.agg α))):=by rw[<-Sc ha hp];simp
 have hf:=Vg (xs:=xs) h2 0 z.cells (by rw[hj3,c_,hm];simp)
 have Uy:z.cells.toList.drop ((0+aK.length)*ad.sz α)=[]:=List.drop_eq_nil_of_le (by simp[hj3,c_,hm])
 rw[Uy,<-ep]at hf
 simp only[Nat.zero_mul,List.take_zero,oV,pU]at hf
 have hb:P.built t (parts.toArray.map λ(x:Nat×a_)=>(x.1,a.eval x.2)).toList=aa aK.flatten.toArray:=by simp only[cQ.built,hj1,hu,hj2,gw,AN,hf]
 have hr:=run_build (P:=P) w t _ _ hb
 simp only[execOp,Sem.run_bind]
 rw[hr]
 rfl
def D9{z:Nat}:∀{aK:List (List ah)},(∀c∈aK,c.length=z)->∀i,(aK.drop i).flatten=aK.flatten.drop (i*z)
 |aK,_,0=>by simp
 |[],_,i+1=>by simp
 |b::aK,hz,i+1=>by
  have hb:b.length=z:=hz b (by simp);have e1:(i+1)*z=b.length+i*z:=by rw[hb,qW];omega
  rw[List.drop_succ_cons,D9 (aK:=aK) (λc hc=>hz c (by simp[hc])) i,oZ,e1,List.drop_length_add_append]
def Bn{z:Nat}:∀{aK:List (List ah)},(∀c∈aK,c.length=z)->∀i,(aK.take i).flatten=aK.flatten.take (i*z)
 |aK,_,0=>by simp
 |[],_,i+1=>by simp
 |b::aK,hz,i+1=>by
  have hb:b.length=z:=hz b (by simp);have e1:(i+1)*z=b.length+i*z:=by rw[hb,qW];omega
  rw[List.take_succ_cons,oZ,Bn (aK:=aK) (λc hc=>hz c (by simp[hc])) i,oZ,e1,List.take_length_add_append]
def zj(L:List (Nat×ah))(x:Option a_)(axK:Int)(l:Int):Prop:=(x=ak∧l=axK)∨∃y,x=aa y∧ev L y=aa (.int .i64 l)
def OW.slice [Rd]{S:Nat->Prop}{u:a_}{lo hi:Option a_}{l h:Int}{v:ah}{xs zs:List α}(hu:P.underlying t=aa (.slice e))(hT:bO P e α)(hx:ev L u=aa v)(hr:Rv S w v xs)(AZ:zj L lo 0 l)(A_:zj L hi (Dp.len xs) h)(hz:dK xs l h=aa zs):
  OW P Q L ⟨d,.slice t u lo hi ak,ty,pos,af,g⟩ w (λv' w'=>w'=w∧Rv S w v' zs):=by
 obtain⟨p,cap,rfl,h1,h2,h3⟩:=u0 hr
 unfold dK at hz
 split at hz
 case isFalse=>cases hz
 rename_i hb
 cases hz
 obtain⟨b1,b2,b3⟩:=hb
 have hlen:((xs.take h.toNat).drop l.toNat).length=h.toNat-l.toNat:=by simp;omega
 refine OW.run λa ha=>⟨.slice (if cap=l.toNat then p else p.map (·.add (l.toNat*ad.sz α))) (h.toNat-l.toNat) (cap-l.toNat),w,?_,rfl,_,rfl,_,cap-l.toNat,by rw[hlen],by rw[hlen];omega,by unfold maxLen at*;omega,?_⟩
 ·have qx:h<=(cap:Int):=by omega
  have A9:(h.toNat:Int)=h:=by omega
  have rF:(l.toNat:Int)=l:=by omega
  rcases AZ with⟨rfl,rfl⟩|⟨yl,rfl,hl⟩<;>rcases A_ with⟨rfl,rfl⟩|⟨yh,rfl,hh⟩
  ·simp[execOp,ha _ _ hx,Instr.sliceAt,run_underlying hu,Instr.slice,Instr.sliceBounds,hT.sizeOf,Dp.len]
  ·have b0:0<=h:=by omega
   simp[execOp,ha _ _ hx,ha _ _ hh,Instr.sliceAt,run_underlying hu,Instr.slice,Instr.sliceBounds,Instr.sliceBound,asIntOf,hT.sizeOf,b0,qx]
  ·have b0:l<=(xs.length:Int):=by unfold Dp.len at b2;omega
   simp[execOp,ha _ _ hx,ha _ _ hl,Instr.sliceAt,run_underlying hu,Instr.slice,Instr.sliceBounds,Instr.sliceBound,asIntOf,hT.sizeOf,b1,b0,Dp.len]
  ·have b0:0<=h:=by omega
   simp[execOp,ha _ _ hx,ha _ _ hl,ha _ _ hh,Instr.sliceAt,run_underlying hu,Instr.slice,Instr.sliceBounds,Instr.sliceBound,asIntOf,hT.sizeOf,b1,b0,qx,A9,b2]
 ·by_cases he:(xs.take h.toNat).drop l.toNat=[]
  ·exact .inl he
  ·have aV:l.toNat<h.toNat:=by
    rcases Nat.lt_or_ge l.toNat h.toNat with hh|hh
    ·exact hh
    ·exact(he (zn (by omega))).elim
   rcases h3 with rfl|⟨a,aK,rfl,h4,h5,h6⟩
   ·simp at he
   ·right;have eM:=h5.pd;refine⟨a.add (l.toNat*ad.sz α),(aK.take h.toNat).drop l.toNat,?_,by rw[Pe];exact h4,(h5.take _).drop _,?_⟩
    ·rw[aL (by omega)];rfl
    ·intro j u hj;rw[E5];refine h6 _ _ ?_;rw[D9 (λc hc=>eM c (List.mem_of_mem_take hc)),Bn eM,List.getElem?_drop,List.getElem?_take]at hj;split at hj
     ·exact hj
     ·cases hj
def OW.ayk [Rd]{f:FuncId}{u:a_}{args:List a_}{jf:Array ah}{vs:List ah}{ats:Array aY}{R:ah->ay->Prop}(hf:∀(args:Array ah) (w:ay),(callFunc f args).run P w= .ok (.enter f args) w)(hu:ev L u=aa (.func (.func f) #[] jf))(ha:oK L args=aa vs)(hC:Calls P f (vs.toArray++jf) w (mg R)):
  OW P Q L ⟨d,.call {callee:= .value u,args:=args.toArray,argTypes:=ats},ty,pos,af,g⟩ w R:=by
 refine OW.aas λa hr=>⟨f,vs.toArray++jf,?_,hC⟩
 have h2:args.toArray.map a.eval=vs.toArray:=by rw[<-Eb hr _ ha];simp
 simp[execOp,resolve,invoke,Deferred.ofValue,hr _ _ hu,hf]at h2⊢
 rw[h2]
def OW.conv [Rd]{src dst:aY}{x:a_}{j:IntKind}{q:Int}(h1:∃k',P.underlying src=aa (.int k'))(h2:P.underlying dst=aa (.int .i64))(hx:ev L x=aa (.int j q)):
  OW P Q L ⟨d,.convert src dst x,ty,pos,af,g⟩ w (λv' w'=>v'= .int .i64 (W q)∧w'=w):=by
 obtain⟨k',h1⟩:=h1
 refine OW.run λa ha=>⟨_,w,?_,rfl,rfl⟩
 simp[execOp,ha _ _ hx,convert,run_underlying h1,run_underlying h2,Conv.intToInt,W]
structure X6(P:cQ)(t:aY)(α:Type)[ad α][DecidableEq α]:Prop where
 run:∀{S S':Nat->Prop} {w:ay} {v1 v2:ah} {x y:α} (a b:a_),Rv S w v1 x->Rv S' w v2 y->
  ((eqGuard .eql t a b v1 v2).run P w= .ok () w∧(binOp .eql t v1 v2).run P w= .ok (.bool (decide (x=y))) w)∧((eqGuard .neq t a b v1 v2).run P w= .ok () w∧(binOp .neq t v1 v2).run P w= .ok (.bool (!decide (x=y))) w)
def X6.bool(h:P.underlying t=aa .bool):X6 P t Bool:=⟨by intro S S' w v1 v2 x y a b h1 h2;rw[aoP]at h1 h2;subst h1 h2;have h3:∀d:Nat,(Op.equalIn (d+1) t (.bool x) (.bool y)).run P w= .ok (x==y) w:=λd=>run_equalIn_bool' w d t x y h;have h4:=h3 9999;cases x<;>cases y<;>simp[eqGuard,binOp,Op.equal,Op.maxDepth]at h4⊢<;>simp[h4]⟩
def aj7(P:cQ)(L:List (Nat×ah))(w:ay):li->ah->Prop
 | .tmp t,v=>look L t=aa v
 | .cell t T,v=>∃pa,look L t=aa (.pointer (aa pa))∧(loadVar T pa).run P w= .ok v w
def zg(P:cQ)(L:List (Nat×ah))(w:ay):List li->List ah->Prop
 |[],[]=>True
 |r::rs,v::vs=>aj7 P L w r v∧zg P L w rs vs
 |_,_=>False
def xT:List ah->ah
 |[v]=>v
 |vs=> .tuple vs.toArray
def zN [Rd]{fn:Func}{a:Act}(ha:Reads L a){rs:List li}{vs:List ah}(hr:fn.results=rs.toArray)(h:zg P L w rs vs):(results fn a.tmps).run P w= .ok (xT vs) w:=by
 obtain⟨f,hf⟩:∃f:li->Sem ah,f=(λr=>(match r with
  | .tmp t=>pure (a.tmps.getD t undef)
  | .cell a' t=>(do loadVar t (<-asAddr (a.tmps.getD a' undef))))):=⟨_,rfl⟩
 have one:∀{r:li} {v:ah},aj7 P L w r v->(f r).run P w= .ok v w:=by
  intro r v h;rw[hf];cases r with
  |tmp t=>have h1:=ha (.tmp t) v h;simp only[Act.eval]at h1;simp only[Sem.run_pure,h1]
  |cell t T=>obtain⟨pa,h3,h4⟩:=h;have h1:=ha (.tmp t) _ h3;simp only[Act.eval]at h1;simp only[Sem.run_bind,h1,asAddr,Sem.run_pure,Result.andThen_ok,h4]
 have key:∀{rs:List li} {vs:List ah},zg P L w rs vs->(rs.mapM f).run P w= .ok vs w:=by
  intro rs;induction rs with
  |nil=>intro vs h;cases vs with
   |nil=>simp
   |cons v vs=>exact h.elim
  |cons r rs ih=>
   intro vs h;cases vs with
   |nil=>exact h.elim
   |cons v vs=>simp only[List.mapM_cons,Sem.run_bind,one h.1,Result.andThen_ok,ih h.2,Sem.run_pure]
 have h1:=key h;have h2:results fn a.tmps=(do let vs<-fn.results.mapM f;pure (if h:vs.size=1 then vs[0]else .tuple vs)):=by rw[hf];rfl
 rw[h2,hr,Array.mapM_eq_mapM_toList];simp only[map_eq_pure_bind,Sem.run_bind,h1,Result.andThen_ok,Sem.run_pure];match vs with
 |[]=>simp[xT]
 |[v]=>simp[xT]
 |_::_::_=>simp[xT]
def CW.mr{fn:Func}{R:Ending->ay->Prop}{rs:List li}{vs:List ah}(hr:fn.results=rs.toArray)(h:zg P L w rs vs)(hR:R (.returned (xT vs)) w)(hQ:∀a w,bodyPost P fn R .ret a w->Q .ret a w):CW P n .ret Q L w:=
 λa ha=>wpIn_ret (hQ _ _ (bodyPost_ret (zN (λ_ _ hx=>ha.ev hx) hr h) ha.defers hR))
end
def Td:TypeDesc->Bool
 | .struct _| .array _ _=>ab
 |_=>false
def bO.of{P:cQ}{t:aY}{α:Type}[ad α]{d:TypeDesc}(h1:P.underlying t=aa d)(h2:Td d=ad.agg α)
  (h3:(P.info? t).map (λi=>(i.size,eh i.bytes 65536,i.zero))=aa (ad.sz α,ab,aa (pack (ad.agg α) (ad.zc α)))):bO P t α:=by
 refine⟨⟨d,h1,by rw[<-h2];cases d<;>rfl⟩,?_⟩
 cases hi:P.info? t with
 |none=>simp[hi]at h3
 |some i=>
  simp[hi]at h3
  exact⟨i,rfl,h3.1,h3.2.1,h3.2.2⟩
section
variable {o:cB} {w w':ay}
end
end Dp
end Go.Proofs.YtmngjhagbjgmfaaGreat
namespace Go.Proofs.YtmngjhagbjgmfaaGreat
open Go Go.RowKit
namespace Dp
section
variable {α β:Type} [ad α] [ad β]
variable {P:cQ} {n:Nat} {Q:Exit->Act->ay->Prop} {L:List (Nat×ah)} {w w':ay} {ops:Array Oper} {rest:List Oper} {d:Option Tmp} {ty:aY} {pos:String} {af:Array Edge} {g:Option (Nat×Bool)} {t T e:aY} {o o':cB} {K M N:List Nat} {k c:Nat}
def Rv.one{α:Type}[ad α]{S:Nat->Prop}{v:ah}{x:α}(h:Rv S w v x)(hg:ad.agg α=false):v.oneCell'=ab:=by
 obtain⟨cs,rfl,h1⟩:=h;have hl:=ad.len h1;rw[ad.flat hg]at hl;match cs,hl with
 |[u],_=>have:=ad.one h1 u (by simp);simpa[pack,hg]using this
def Ow.one{v:ah}{xs:List α}(h:Ow T o k K w v xs):v.oneCell'=ab:=by rcases h with⟨rfl,_⟩|⟨g,f,cap,aW,aK,rfl,_⟩<;>rfl
def add_zero'(a:Addr):a.add 0=a:=by simp[Addr.add]
structure Fo(P:cQ)(T:aY)(i off:Nat):Prop where
 uu:∃fs fd,P.underlying T=aa (.struct fs)∧fs[i]? =aa fd∧fd.offset=off∧∃inf,P.info? fd.type=aa inf∧inf.size≠0
def OW.U_ [Rd]{i off:Nat}{pa:Addr}{x:a_}(hF:Fo P T i off)(hx:ev L x=aa (.pointer (aa pa))):
  OW P Q L ⟨d,.fieldAddr T x i,ty,pos,af,g⟩ w (λv w'=>v= .pointer (aa (pa.add off))∧w'=w):=by
 refine OW.run λa ha=>⟨_,w,?_,rfl,rfl⟩
 obtain⟨fs,fd,h1,h2,h3,inf,h4,h5⟩:=hF.uu
 have hs:(sizeOf fd.type).run P w= .ok inf.size w:=by simp[sizeOf,typeInfo,h4]
 simp[execOp,ha _ _ hx,Instr.fieldAt,run_underlying h1,h2,Instr.sureAddr,fieldPlace,hs,h5,h3]
def N7{v:ah}(h:v.oneCell'=ab):v.cells=[v].toArray:=by cases v<;>simp_all [ah.cells,ah.oneCell']
def PJ:List (Nat×ah)->List (Nat×List ah)->Prop
 |[],[]=>True
 |(i,v)::r,(j,c)::s=>i=j∧v.cells=c.toArray∧PJ r s
 |_,_=>False
def Bo(pl:List (Nat×Nat)):List ah->List (Nat×List ah)->Option (List ah)
 |cs,[]=>aa cs
 |cs,(i,c)::r=>match pl[i]? with
  |some (off,sz)=>if Nat.beq c.length sz=ab∧eh (off+sz) cs.length=ab then Bo pl (cs.take off++c++cs.drop (off+c.length)) r else ak
  |none=>ak
def aeE{pl:List (Nat×Nat)}:∀{vs:List (Nat×ah)} {so:List (Nat×List ah)} {cs jd:List ah},PJ vs so->Bo pl cs so=aa jd->Instr.fill (pl.toArray[·]?) cs.toArray vs=aa jd.toArray
 |[],[],cs,jd,_,h=>by simp[Bo]at h;subst h;rfl
 |(i,v)::r,(j,c)::s,cs,jd,hp,h=>by
  obtain⟨rfl,hc,hp⟩:=hp;unfold Bo at h;split at h
  case h_2=>cases h
  rename_i off sz ql;split at h
  case isFalse=>cases h
  rename_i hb;have h1:c.length=sz:=Nat.eq_of_beq_eq_true hb.1;have h2:off+sz<=cs.length:=dp hb.2;have hf:=aa5 c off 0 cs.toArray (by simp;omega);simp only[Nat.add_zero]at hf;have att:pl.toArray[i]? =aa (off,sz):=by simpa using ql
  have ez:c.toArray.zipIdx.toList=c.zipIdx:=by simp
  simp only[Instr.fill,att,hc,List.size_toArray,h1,ne_eq,not_true_eq_false,false_or,decide_false,Bool.false_or];rw[aL (by simp;omega)];rw[<-Array.foldl_toList,ez,hf];exact aeE hp h
def Rv.R3{S:Nat->Prop}{v:ah}{x:α}(h:Rv S w v x)(hg:ad.agg α=false):ad.rd S w [v] x:=by
 obtain⟨cs,rfl,h1⟩:=h;have hl:=ad.len h1;rw[ad.flat hg]at hl;match cs,hl with
 |[u],_=>simpa[pack,hg]using h1
