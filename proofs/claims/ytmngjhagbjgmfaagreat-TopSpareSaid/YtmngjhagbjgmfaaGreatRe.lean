import Derived.Test.YtmngjhagbjgmfaaGreatRb
set_option linter.all false
open Array renaming getElem?_eq_some_iff->jB
open Bool renaming and_eq_true->bt,false->ai,true->ab
open ByteArray renaming empty->tv
open Decidable renaming decide->al
open Go renaming Frame->f_,MapEntry->gL,Operand->a_,Program->cQ,TypeId->aY,Value->ah,World->ay
open List renaming append_assoc->ed,ext_getElem?->xz,getElem?_eq_some_iff->gK,getElem?_set->oY,map_cons->gz,mem_append->bA,mem_cons->cu,mem_map->dE
open Nat renaming beq->aU,eq_of_beq_eq_true->bB,le_refl->bx
open Option renaming none->ak,some->aa
open Option.some renaming injEq->fE
open Prod.mk renaming injEq->wa
namespace Go.Proofs.YtmngjhagbjgmfaaGreat
open Go Go.RowKit Dp
namespace Rx
section
variable {D:Nat->Type} [∀n,ad (D n)]
def dD(S:Nat->Prop)(w:ay)(v:ah):DV D->Prop
 |⟨.int k,d⟩=>v= .int k d
 |⟨.bool,d⟩=>v= .bool d
 |⟨.str,d⟩=>v= .string d
 |⟨.sl n,d⟩=>Rv S w v (d:List (D n))
def cn(S:Nat->Prop)(w:ay):List ah->List (DV D)->Prop
 |[],[]=>True
 |v::vs,d::ds=>dD S w v d∧cn S w vs ds
 |_,_=>False
def wg:List Lf->List ah
 |[]=>[]
 |l::r=>(match l with| .int k=> .int k 0| .bool=> .bool ai| .str=> .string tv| .sl _=> .slice ak 0 0)::wg r
structure cF(T:bc D):Prop where
 sz:∀n,ad.sz (D n)=(T.lv n).length
 ag:∀n,ad.agg (D n)=T.ag n
 zc:∀n,ad.zc (D n)=wg (T.lv n)
 zero:∀n,(ad.zero:D n)=T.zero n
 rd:∀n S w cs (x:D n),ad.rd S w cs x↔cn S w cs (T.out n x)
 uv:∀n,(T.lv n).length<=112
 LX:∀n h,T.Dd n (T.Ai n h)=h
def dD.mono{S S':Nat->Prop}{w w':ay}(hm:∀b,S b->b<w.heap.size->S' b∧w'.heap[b]? =w.heap[b]?){v:ah}:∀{d:DV D},dD S w v d->dD S' w' v d
 |⟨.int k,d⟩,h=>h
 |⟨.bool,d⟩,h=>h
 |⟨.str,d⟩,h=>h
 |⟨.sl n,d⟩,h=>Rv.mono hm h
def dD.flat{S S':Nat->Prop}{w w':ay}{v:ah}:∀{d:DV D},jJ d.l=ab->dD S w v d->dD S' w' v d
 |⟨.int k,d⟩,_,h=>h
 |⟨.bool,d⟩,_,h=>h
 |⟨.str,d⟩,_,h=>h
 |⟨.sl n,d⟩,h,_=>by cases h
def cn.flat{S S':Nat->Prop}{w w':ay}:∀{vs:List ah} {ds:List (DV D)},(ds.map DV.l).all jJ=ab->cn S w vs ds->cn S' w' vs ds
 |[],[],_,_=>trivial
 |v::vs,d::ds,hf,h=>by simp only[gz,List.all_cons,bt]at hf;exact⟨h.1.flat hf.1,cn.flat hf.2 h.2⟩
 |[],_::_,_,h=>h.elim
 |_::_,[],_,h=>h.elim
def Ss:∀(ts:List Lf) (h:HL D ts),(tS ts h).map DV.l=ts
 |[],_=>rfl
 |[l],x=>rfl
 |l::m::r,x=>by simp only[tS,gz,Ss (m::r) x.2]
def cF.flat{T:bc D}(hR:cF T){n:Nat}(h:(T.lv n).all jJ=ab):Flat (D n):=⟨λ{S S' w w' cs x} hr=>(hR.rd n S' w' cs x).2 (cn.flat (by rw[bc.out,Ss];exact h) ((hR.rd n S w cs x).1 hr))⟩
def cn.mono{S S':Nat->Prop}{w w':ay}(hm:∀b,S b->b<w.heap.size->S' b∧w'.heap[b]? =w.heap[b]?):∀{vs:List ah} {ds:List (DV D)},cn S w vs ds->cn S' w' vs ds
 |[],[],_=>trivial
 |v::vs,d::ds,h=>⟨h.1.mono hm,cn.mono hm h.2⟩
 |[],_::_,h=>h.elim
 |_::_,[],h=>h.elim
def dD.one{S:Nat->Prop}{w:ay}{v:ah}:∀{d:DV D},dD S w v d->v.oneCell'=ab
 |⟨.int k,d⟩,h=>by cases h;rfl
 |⟨.bool,d⟩,h=>by cases h;rfl
 |⟨.str,d⟩,h=>by cases h;rfl
 |⟨.sl n,d⟩,h=>Rv.one (α:=List (D n)) h rfl
def cn.length{S:Nat->Prop}{w:ay}:∀{vs:List ah} {ds:List (DV D)},cn S w vs ds->vs.length=ds.length
 |[],[],_=>rfl
 |v::vs,d::ds,h=>by simp[cn.length h.2]
 |[],_::_,h=>h.elim
 |_::_,[],h=>h.elim
def cn.append{S:Nat->Prop}{w:ay}:∀{vs:List ah} {ds:List (DV D)} {us:List ah} {es:List (DV D)},cn S w vs ds->cn S w us es->cn S w (vs++us) (ds++es)
 |[],[],_,_,_,h=>h
 |v::vs,d::ds,_,_,h,h'=>⟨h.1,cn.append h.2 h'⟩
 |[],_::_,_,_,h,_=>h.elim
 |_::_,[],_,_,h,_=>h.elim
def cn.take{S:Nat->Prop}{w:ay}:∀{vs:List ah} {ds:List (DV D)},cn S w vs ds->∀k,cn S w (vs.take k) (ds.take k)
 |_,_,_,0=>by simp[cn]
 |[],[],_,k+1=>trivial
 |v::vs,d::ds,h,k+1=>⟨h.1,cn.take h.2 k⟩
 |[],_::_,h,_=>h.elim
 |_::_,[],h,_=>h.elim
def cn.drop{S:Nat->Prop}{w:ay}:∀{vs:List ah} {ds:List (DV D)},cn S w vs ds->∀k,cn S w (vs.drop k) (ds.drop k)
 |_,_,h,0=>by simpa using h
 |[],[],_,k+1=>trivial
 |v::vs,d::ds,h,k+1=>by simpa using cn.drop h.2 k
 |[],_::_,h,_=>h.elim
 |_::_,[],h,_=>h.elim
def Sq:∀{ts:List Lf} {ds:List (DV D)} {h:HL D ts},toHL ts ds=aa h->tS ts h=ds
 |[],[],h,e=>rfl
 |[],_::_,h,e=>by simp[toHL]at e
 |[l],[],h,e=>by simp[toHL]at e
 |[l],[⟨l',d⟩],h,e=>by
  simp only[toHL]at e;by_cases hl:l'=l
  ·subst hl;simp only[dif_pos]at e;cases e;rfl
  ·simp[hl]at e
 |[l],_::_::_,h,e=>by simp[toHL]at e
 |l::m::r,[],h,e=>by simp[toHL]at e
 |l::m::r,⟨l',d⟩::rM,h,e=>by
  rw[toHL]at e;by_cases hl:l'=l
  ·subst hl;simp only[dif_pos]at e;cases hx:toHL (m::r) rM with
   |none=>rw[hx]at e;cases e
   |some x=>rw[hx]at e;cases e;simp only[tS,Sq hx]
  ·simp[hl]at e
variable {T:bc D}
def cF.iX{n:Nat}{ds:List (DV D)}{x:D n}(hR:cF T)(h:T.iX n ds=aa x):T.out n x=ds:=by
 unfold bc.iX at h;split at h
 ·rename_i y hy;cases h;rw[bc.out,hR.LX,Sq hy]
 ·cases h
def abk{D:Nat->Type}:∀(ts:List Lf) (h:HL D ts),(tS ts h).length=ts.length
 |[],_=>rfl
 |[l],x=>rfl
 |l::m::r,x=>by simp[tS,abk (m::r) x.2]
def LC(T:bc D)(n:Nat)(x:D n):(T.out n x).length=(T.lv n).length:=abk _ _
def abj(hR:cF T):∀{t:Ht} {ds rM:List (DV D)} {x:t.den D},xF T t ds=aa (x,rM)->ds=LM T t x++rM
 | .lf l,[],rM,x,e=>by simp[xF]at e
 | .lf l,⟨l',d⟩::r,rM,x,e=>by
   simp only[xF]at e;by_cases hl:l'=l
   ·subst hl;simp only[dif_pos,fE,wa]at e;obtain⟨rfl,rfl⟩:=e;rfl
   ·simp[hl]at e
 | .el n,ds,rM,x,e=>by
   simp only[xF]at e;cases hy:T.iX n (ds.take (T.lv n).length)with
   |none=>simp[hy]at e
   |some y=>simp only[hy,fE,wa]at e;obtain⟨rfl,rfl⟩:=e;rw[LM,hR.iX hy,List.take_append_drop]
def abl(hR:cF T):∀{ts:List Ht} {ds:List (DV D)} {h:HH D ts},toHH T ts ds=aa h->dH T ts h=ds
 |[],[],h,e=>rfl
 |[],_::_,h,e=>by simp[toHH]at e
 |[t],ds,h,e=>by
  rw[toHH]at e;cases hx:xF T t ds with
  |none=>simp[hx]at e
  |some y=>
   obtain⟨x,r⟩:=y;cases r with
   |nil=>simp only[hx]at e;cases e;have:=abj hR hx;simp[dH,this]
   |cons _ _=>simp[hx]at e
 |t::m::r,ds,h,e=>by
  rw[toHH]at e;cases hx:xF T t ds with
  |none=>simp[hx]at e
  |some y=>
   obtain⟨x,rM⟩:=y;rw[hx]at e;dsimp only at e;cases hy:toHH T (m::r) rM with
   |none=>rw[hy]at e;cases e
   |some z=>rw[hy]at e;cases e;have:=abj hR hx;simp only[dH,abl hR hy,this]
structure Gh(D:Nat->Type)where
 o:cB
 g:Nat->ah
 v:Nat->DV D
def ek(K:List Nat):Prop:=∀x∈K,x<2
def named(U:Nat->Prop)(γ:Gh D)(t:Nat)(d:DV D):Prop:=t=0∨(U t∧γ.v t=d)
def fP(b off:Nat):ah:= .pointer (aa ⟨b,off,ak⟩)
def xa(v:ah)(b:Nat):Bool:=match v with
 | .slice (aa a) _ _=>aU a.block b
 |_=>ai
def lA(o:cB)(i:Nat)(v:ah):cB:=λb=>if o b=i then(if xa v b then 0 else 1)else 2
def PP(γ:Gh D)(w:ay)(i h:Nat):Prop:=∃cells:Array ah,γ.g h= .agg cells∧∀(b n c q:Nat),γ.g i= .slice (aa ⟨b,0,ak⟩) n c->w.cell? ⟨b,q,ak⟩=cells[q]?
def xk(f:Nat)(cs:List ah):ah:=if Nat.blt f 1000000=ab then .func (.func f) #[] cs.toArray else .func (.func (f-1000000)) cs.toArray #[]
def awm(f:Nat)(cs:List ah):(xk f cs).oneCell'=ab:=by unfold xk;split<;>rfl
def Tb:ah->Bool
 | .slice ak _ _=>ab
 |_=>ai
def rT(U:Nat->Prop)(γ:Gh D)(w:ay):A0 D->ah->Prop
 | .ptr i off,v=>U i∧∃b,γ.g i=fP b 0∧v=fP b off
 | .rp n x off K,v=>∃pa:Addr,v= .pointer (aa (pa.add off))∧xt (In γ.o K) w pa x∧ek K
def nr(U:Nat->Prop)(γ:Gh D)(w:ay):List (A0 D)->List ah->Prop
 |[],[]=>True
 |a::as,v::vs=>rT U γ w a v∧nr U γ w as vs
 |_,_=>False
def fT(U:Nat->Prop)(γ:Gh D)(w:ay):A1 D->ah->Prop
 | .v l d K t,v=>dD (In γ.o K) w v ⟨l,d⟩∧named U γ t ⟨l,d⟩∧ek K
 | .ptr i off,v=>U i∧∃b,γ.g i=fP b 0∧v=fP b off
 | .el i n j y off tc tj,v=>U i∧(tc≠0∧U tc)∧(∃xs:List (D n),γ.v tc=⟨.sl n,xs⟩∧idx xs j=aa y)∧named U γ tj ⟨.int .i64,j⟩∧
     ∃b f len cap,γ.g i= .slice (aa ⟨b,f,ak⟩) len cap∧v=fP b (f+(j.toNat*ad.sz (D n)+off))
 | .rp n x off K,v=>∃pa:Addr,v= .pointer (aa (pa.add off))∧xt (In γ.o K) w pa x∧ek K
 | .vb n xs K t b,v=>(Rv (In γ.o K) w v xs∧named U γ t ⟨.sl n,xs⟩∧ek K)∧b=Tb v
 | .own i,v=>U i∧v=γ.g i∧v.oneCell'=ab
 | .fn f jf,v=>∃cs:List ah,v=xk f cs∧nr U γ w jf cs
 | .ch i n j off ct m d,v=>U i∧(ct≠0∧U ct)∧(∃(xs:List (D n)) (y:D n),γ.v ct=⟨.sl n,xs⟩∧idx xs j=aa y∧∀(S:Nat->Prop) (w:ay) (cs:List ah),ad.rd S w cs y->∃u,cs[off]? =aa u∧Rv S w u d)∧
     (∃b len cap cells,γ.g i= .slice (aa ⟨b,0,ak⟩) len cap∧γ.g ct= .agg cells∧cells[j.toNat*ad.sz (D n)+off]? =aa v)∧∃p c,v= .slice p d.length c
 | .yX i t,v=>U i∧U t∧v=γ.g t∧v.oneCell'=ab
 | .tail i n j,v=>U i∧(0<=j∧BS (ad.sz (D n)) (γ.g i) v j.toNat)
 | .pre i n j,v=>U i∧PI (γ.g i) v j.toNat
 | .uC n xs K,v=>(∃aK,v= .agg aK.flatten.toArray∧cp (ad.rd (In γ.o K) w) aK xs)∧ek K
 | .bF,v=>v= .slice ak 0 0
 | .sx,v=>v= .pointer ak
 | .Dh,v=>v= .nilFunc
 | .undef,v=>v=undef
 | .zD,_=>True
 | .wP,v=>v.oneCell'=ab
def db(U:Nat->Prop)(γ:Gh D)(w:ay):List (A1 D)->List ah->Prop
 |[],[]=>True
 |a::as,v::vs=>fT U γ w a v∧db U γ w as vs
 |_,_=>False
def nq(U:Nat->Prop)(γ:Gh D)(w:ay):AC D->ah->Prop
 | .one a,v=>fT U γ w a v
 | .agg l,v=>∃us:List ah,v= .agg us.toArray∧db U γ w l us
def ji(U:Nat->Prop)(γ:Gh D)(w:ay):List (AC D)->List ah->Prop
 |[],[]=>True
 |a::as,v::vs=>nq U γ w a v∧ji U γ w as vs
 |_,_=>False
def gI(U:Nat->Prop)(γ:Gh D)(w:ay):AV D->ah->Prop
 | .c x,v=>nq U γ w x v
 | .dX l,v=>∃us:List ah,v= .tuple us.toArray∧ji U γ w l us
def np(U:Nat->Prop)(γ:Gh D)(w:ay):List (AV D)->List ah->Prop
 |[],[]=>True
 |a::as,v::vs=>gI U γ w a v∧np U γ w as vs
 |_,_=>False
def SR(U:Nat->Prop)(γ:Gh D)(w:ay)(sl:List (Nat×AV D))(L:List (Nat×ah)):Prop:=∀t a,aF sl t=aa a->∃v,Dp.look L t=aa v∧gI U γ w a v
def gr:List ah->ah
 |[u]=>u
 |l=> .agg l.toArray
def jO{α:Type}(R:gL->α->Prop):List gL->List α->Prop
 |[],[]=>True
 |e::es,x::xs=>R e x∧jO R es xs
 |_,_=>False
def jO.mono{α:Type}{R R':gL->α->Prop}(hr:∀e x,R e x->R' e x):∀{es:List gL} {xs:List α},jO R es xs->jO R' es xs
 |[],[],_=>trivial
 |_::_,_::_,h=>⟨hr _ _ h.1,jO.mono hr h.2⟩
 |[],_::_,h=>h.elim
 |_::_,[],h=>h.elim
def uF(es:List gL)(clock:Nat):Prop:=(∀e∈es,e.born<clock)∧(es.map (·.born)).Nodup
def rU{α:Type}[ad α](o:cB)(i:Nat)(w:ay)(v:ah)(xs:List α):Prop:=∃(r:Nat) (es:Array gL) (clock:Nat),v= .map (aa r)∧o r=i∧w.heap[r]? =aa (.map es clock)∧
 es.toList.Pairwise (λa b=>a.key≠b.key)∧jO (λe x=>∃ks:List ah,e.key=gr ks∧ad.rd (λ_=>False) w (ks++[e.val]) x) es.toList xs∧uF es.toList clock
def rU.mono{α:Type}[ad α]{o o':cB}{i i':Nat}{w w':ay}{v:ah}{xs:List α}(h:rU o i w v xs)(hb:∀b,b<w.heap.size->o b=i->o' b=i'∧w'.heap[b]? =w.heap[b]?):rU o' i' w' v xs:=by obtain⟨r,es,clock,h1,h2,h3,h4,h5,h6⟩:=h;obtain⟨e1,e2⟩:=hb r (jB.1 h3).1 h2;exact⟨r,es,clock,h1,e1,by rw[e2];exact h3,h4,h5.mono λe x ⟨ks,k1,k2⟩=>⟨ks,k1,ad.mono (λb hb _=>hb.elim) k2⟩,h6⟩
def OR(U:Nat->Prop)(γ:Gh D)(w:ay)(i:Nat):AO D->Prop
 | .box cs=>∃(b:Nat) (us:List ah) (t:aY),γ.g i=fP b 0∧γ.o b=i∧w.heap[b]? =aa (.cells us.toArray t (0,0))∧db U γ w cs us∧cs.all storable=ab
 | .sl n t xs K g=>Ow t γ.o i K w (γ.g i) xs∧ek K∧named U γ g ⟨.sl n,xs⟩
 | .cZ n t tc m xs g h=>j9 (ad.sz (D m)) t tc (lA γ.o i (γ.g i)) 0 1 w (γ.g i) xs∧named U γ g ⟨.sl n,xs⟩∧(h=0∨(U h∧γ.v h=⟨.sl n,xs⟩∧PP γ w i h))
 | .iu n t tc m xs j off s g=>named U γ g ⟨.sl n,xs⟩∧U s∧∃b len cap,γ.g i= .slice (aa ⟨b,0,ak⟩) len cap∧zi (ad.sz (D m)) t tc (lA γ.o i (γ.g i)) 0 1 w (γ.g i) xs ⟨b,j.toNat*ad.sz (D n)+off,ak⟩ (γ.g s)
 | .fz n xs K=>Rv (In γ.o K) w (γ.g i) xs∧ek K
 | .mp n xs=>rU γ.o i w (γ.g i) xs
structure OB(U:Nat->Prop)(γ:Gh D)(w:ay)(ob:List (Nat×Option (AO D))):Prop where
 ob:∀i x,dw ob i=aa x->1000<=i∧U i∧OR U γ w i x
 cl:∀b,b<w.heap.size->U (γ.o b)
 ro:∀x,x<2000->U x
structure Frame0(γ:Gh D)(w:ay)(γ':Gh D)(w':ay):Prop where
 os:w'.os=w.os
 tape:w'.tape=w.tape
 output:w'.output=w.output
 size:w.heap.size<=w'.heap.size
 ro:∀b,b<w.heap.size->(γ.o b=0∨γ.o b=3)->γ'.o b=γ.o b∧w'.heap[b]? =w.heap[b]?
 back:∀b,b<w'.heap.size->(γ'.o b=0∨γ'.o b=3)->b<w.heap.size∧γ.o b=γ'.o b
structure Frame(γ:Gh D)(w:ay)(γ':Gh D)(w':ay):Prop extends Frame0 γ w γ' w' where
 gk:∀i,i<2000->γ'.g i=γ.g i
def Frame0.refl(γ:Gh D)(w:ay):Frame0 γ w γ w:=⟨rfl,rfl,rfl,bx _,λ_ _ _=>⟨rfl,rfl⟩,λ_ h _=>⟨h,rfl⟩⟩
def Frame.refl(γ:Gh D)(w:ay):f_ γ w γ w:=⟨.refl γ w,λ_ _=>rfl⟩
def Frame0.trans{γ aQ bg:Gh D}{w w1 w2:ay}(h:Frame0 γ w aQ w1)(k:Frame0 aQ w1 bg w2):Frame0 γ w bg w2:=by
 refine⟨k.os.trans h.os,k.tape.trans h.tape,k.output.trans h.output,Nat.le_trans h.size k.size,λb hb hc=>?_,λb hb hc=>?_⟩
 ·obtain⟨h1,h2⟩:=h.ro b hb hc;obtain⟨k1,k2⟩:=k.ro b (Nat.lt_of_lt_of_le hb h.size) (by rw[h1];exact hc);exact⟨k1.trans h1,k2.trans h2⟩
 ·obtain⟨k1,k2⟩:=k.back b hb hc;obtain⟨h1,h2⟩:=h.back b k1 (by rw[k2];exact hc);exact⟨h1,h2.trans k2⟩
def Frame.trans{γ aQ bg:Gh D}{w w1 w2:ay}(h:f_ γ w aQ w1)(k:f_ aQ w1 bg w2):f_ γ w bg w2:=⟨h.toFrame0.trans k.toFrame0,λi hi=>(k.gk i hi).trans (h.gk i hi)⟩
structure jj(U U':Nat->Prop)(γ:Gh D)(w:ay)(γ':Gh D)(w':ay):Prop where
 u:∀i,U i->U' i
 g:∀i,U i->γ'.g i=γ.g i
 v:∀i,U i->γ'.v i=γ.v i
 ro:∀b,b<w.heap.size->γ.o b<2->γ'.o b=γ.o b∧w'.heap[b]? =w.heap[b]?
section
variable {U U':Nat->Prop} {γ γ':Gh D} {w w':ay}
def jj.mem(k:jj U U' γ w γ' w'){K:List Nat}(hK:ek K):∀b,In γ.o K b->b<w.heap.size->In γ'.o K b∧w'.heap[b]? =w.heap[b]? :=λb hb aV=>by obtain⟨h1,h2⟩:=k.ro b aV (hK _ hb);exact⟨by unfold In;rw[h1];exact hb,h2⟩
def named.df(k:jj U U' γ w γ' w'){t:Nat}{d:DV D}(h:named U γ t d):named U' γ' t d:=by
 rcases h with h|⟨h1,h2⟩
 ·exact .inl h
 ·exact .inr ⟨k.u _ h1,by rw[k.v _ h1];exact h2⟩
def rT.df(k:jj U U' γ w γ' w'):∀{a:A0 D} {v:ah},rT U γ w a v->rT U' γ' w' a v
 | .ptr i off,v,⟨h,b,h1,h2⟩=>⟨k.u _ h,b,by rw[k.g _ h];exact h1,h2⟩
 | .rp n x off K,v,⟨pa,h1,h2,h3⟩=>⟨pa,h1,h2.mono (k.mem h3),h3⟩
def nr.df(k:jj U U' γ w γ' w'):∀{as:List (A0 D)} {vs:List ah},nr U γ w as vs->nr U' γ' w' as vs
 |[],[],_=>trivial
 |a::as,v::vs,h=>⟨h.1.df k,nr.df k h.2⟩
 |[],_::_,h=>h.elim
 |_::_,[],h=>h.elim
def fT.df(k:jj U U' γ w γ' w'):∀{a:A1 D} {v:ah},fT U γ w a v->fT U' γ' w' a v
 | .v l d K t,v,⟨h1,h2,h3⟩=>⟨h1.mono (k.mem h3),h2.df k,h3⟩
 | .ptr i off,v,⟨h,b,h1,h2⟩=>⟨k.u _ h,b,by rw[k.g _ h];exact h1,h2⟩
 | .el i n j y off tc tj,v,⟨h1,h2,⟨xs,h3,h4⟩,h5,b,f,len,cap,h6,h7⟩=>⟨k.u _ h1,⟨h2.1,k.u _ h2.2⟩,⟨xs,by rw[k.v _ h2.2];exact h3,h4⟩,h5.df k,b,f,len,cap,by rw[k.g _ h1];exact h6,h7⟩
 | .rp n x off K,v,⟨pa,h1,h2,h3⟩=>⟨pa,h1,h2.mono (k.mem h3),h3⟩
 | .vb n xs K t b,v,⟨⟨h1,h2,h3⟩,h4⟩=>⟨⟨dD.mono (d:=⟨.sl n,xs⟩) (k.mem h3) h1,h2.df k,h3⟩,h4⟩
 | .own i,v,⟨h,h1,h2⟩=>⟨k.u _ h,by rw[k.g _ h];exact h1,h2⟩
 | .fn f jf,v,⟨cs,h1,h2⟩=>⟨cs,h1,h2.df k⟩
 | .ch i n j off ct m d,v,⟨h1,h2,⟨xs,y,h3,h4⟩,⟨b,len,cap,cells,h5,h6,h7⟩,h8⟩=>⟨k.u _ h1,⟨h2.1,k.u _ h2.2⟩,⟨xs,y,by rw[k.v _ h2.2];exact h3,h4⟩,⟨b,len,cap,cells,by rw[k.g _ h1];exact h5,by rw[k.g _ h2.2];exact h6,h7⟩,h8⟩
 | .yX i t,v,⟨h1,h2,h3,h4⟩=>⟨k.u _ h1,k.u _ h2,by rw[k.g _ h2];exact h3,h4⟩
 | .tail i n j,v,⟨h1,h2⟩=>⟨k.u _ h1,by rw[k.g _ h1];exact h2⟩
 | .pre i n j,v,⟨h1,h2⟩=>⟨k.u _ h1,by rw[k.g _ h1];exact h2⟩
 | .uC n xs K,v,⟨⟨aK,h1,h2⟩,h3⟩=>⟨⟨aK,h1,h2.mono λ_ _=>ad.mono (k.mem h3)⟩,h3⟩
 | .bF,v,h=>h
 | .sx,v,h=>h
 | .Dh,v,h=>h
 | .undef,v,h=>h
 | .zD,v,h=>h
 | .wP,v,h=>h
def db.df(k:jj U U' γ w γ' w'):∀{as:List (A1 D)} {vs:List ah},db U γ w as vs->db U' γ' w' as vs
 |[],[],_=>trivial
 |a::as,v::vs,h=>⟨h.1.df k,db.df k h.2⟩
 |[],_::_,h=>h.elim
 |_::_,[],h=>h.elim
def nq.df(k:jj U U' γ w γ' w'):∀{a:AC D} {v:ah},nq U γ w a v->nq U' γ' w' a v
 | .one a,v,h=>fT.df k h
 | .agg l,v,⟨us,h1,h2⟩=>⟨us,h1,h2.df k⟩
def ji.df(k:jj U U' γ w γ' w'):∀{as:List (AC D)} {vs:List ah},ji U γ w as vs->ji U' γ' w' as vs
 |[],[],_=>trivial
 |a::as,v::vs,h=>⟨h.1.df k,ji.df k h.2⟩
 |[],_::_,h=>h.elim
 |_::_,[],h=>h.elim
def gI.df(k:jj U U' γ w γ' w'):∀{a:AV D} {v:ah},gI U γ w a v->gI U' γ' w' a v
 | .c x,v,h=>nq.df k h
 | .dX l,v,⟨us,h1,h2⟩=>⟨us,h1,h2.df k⟩
def SR.df(k:jj U U' γ w γ' w'){sl:List (Nat×AV D)}{L:List (Nat×ah)}(h:SR U γ w sl L):SR U' γ' w' sl L:=λt a e=>by obtain⟨v,h1,h2⟩:=h t a e;exact⟨v,h1,h2.df k⟩
def Du{o:cB}{i:Nat}{v:ah}{b:Nat}(h:lA o i v b=0):o b=i∧xa v b=ab:=by
 unfold lA at h;split at h
 ·rename_i ho;split at h
  ·rename_i hh;exact⟨ho,hh⟩
  ·cases h
 ·cases h
def Dt{o:cB}{i:Nat}{v:ah}{b:Nat}(h:lA o i v b=1):o b=i∧xa v b=ai:=by
 unfold lA at h;split at h
 ·rename_i ho;split at h
  ·cases h
  ·rename_i hh;exact⟨ho,by simpa using hh⟩
 ·cases h
def S6{o:cB}{i:Nat}{v:ah}{b:Nat}(h:o b=i)(hh:xa v b=ab):lA o i v b=0:=by unfold lA;rw[aH h,aH hh]
def S5{o:cB}{i:Nat}{v:ah}{b:Nat}(h:o b=i)(hh:xa v b=ai):lA o i v b=1:=by unfold lA;rw[aH h,aL (by simp[hh])]
def Ds{o o':cB}{i i':Nat}{v:ah}{w w':ay}(h:∀b,b<w.heap.size->o b=i->o' b=i'∧w'.heap[b]? =w.heap[b]?):
  (∀b,b<w.heap.size->lA o i v b=0->lA o' i' v b=0∧w'.heap[b]? =w.heap[b]?)∧(∀b,b<w.heap.size->lA o i v b=1->lA o' i' v b=1∧w'.heap[b]? =w.heap[b]?):=by
 constructor
 ·intro b hb hc;obtain⟨h1,h2⟩:=Du hc;exact⟨S6 (h b hb h1).1 h2,(h b hb h1).2⟩
 ·intro b hb hc;obtain⟨h1,h2⟩:=Dt hc;exact⟨S5 (h b hb h1).1 h2,(h b hb h1).2⟩
def Uu{α:Type}[ad α]{z:Nat}{T Tc:aY}{o:cB}{k kc:Nat}{v:ah}{xs:List α}{b len cap:Nat}(h:j9 z T Tc o k kc w v xs)(hv:v= .slice (aa ⟨b,0,ak⟩) len cap):∃aW,o b=k∧w.heap[b]? =aa (.cells aW T (0,0)):=by
 rcases h with⟨rfl,_⟩|⟨g,yZ,aW,aK,rfl,h2,h3,_⟩
 ·cases hv
 ·cases hv;exact⟨aW,h2,h3⟩
def j9.f0{α:Type}[ad α]{z:Nat}{T Tc:aY}{o:cB}{k kc:Nat}{w:ay}{v:ah}{xs:List α}{b f len cap:Nat}(h:j9 z T Tc o k kc w v xs)(hv:v= .slice (aa ⟨b,f,ak⟩) len cap):f=0:=by
 rcases h with⟨rfl,_⟩|⟨g,yZ,aW,aK,rfl,_⟩
 ·cases hv
 ·cases hv;rfl
def PP.mono{γ γ':Gh D}{w w':ay}{i i' h h':Nat}(hg:γ'.g i'=γ.g i)(hh:γ'.g h'=γ.g h)(hb:∀b n c,γ.g i= .slice (aa ⟨b,0,ak⟩) n c->w'.heap[b]? =w.heap[b]?)(k:PP γ w i h):PP γ' w' i' h':=by obtain⟨cells,h1,h2⟩:=k;refine⟨cells,by rw[hh];exact h1,λb n c q e=>?_⟩;rw[hg]at e;rw[<-h2 b n c q e];exact ay.cell?_of_block (hb b n c e)
def OR.df(k:jj U U' γ w γ' w'){i:Nat}(hU:U i)(hb:∀b,b<w.heap.size->γ.o b=i->γ'.o b=γ.o b∧w'.heap[b]? =w.heap[b]?):∀{x:AO D},OR U γ w i x->OR U' γ' w' i x
 | .box cs,⟨b,us,t,h1,h2,h3,h4,h5⟩=>by have aV:b<w.heap.size:=(jB.1 h3).1;obtain⟨e1,e2⟩:=hb b aV h2;exact⟨b,us,t,by rw[k.g _ hU];exact h1,by rw[e1];exact h2,by rw[e2];exact h3,h4.df k,h5⟩
 | .sl n t xs K g,⟨h1,h2,h3⟩=>by
   refine⟨?_,h2,h3.df k⟩;rw[k.g _ hU];rcases h1 with h1|⟨g,f,cap,aW,aK,e1,e2,e3,e4,e5,e6,e7,e8⟩
   ·exact .inl h1
   ·have aV:g<w.heap.size:=(jB.1 e3).1;obtain⟨f1,f2⟩:=hb g aV e2;exact .inr ⟨g,f,cap,aW,aK,e1,by rw[f1];exact e2,by rw[f2];exact e3,e4,e5,e6,e7.mono λ_ _=>ad.mono (k.mem h2),e8⟩
 | .cZ n t tc m xs g h,⟨h1,h2,h3⟩=>by
   obtain⟨m0,m1⟩:=Ds (v:=γ.g i) (o:=γ.o) (o':=γ'.o) (i:=i) (i':=i) (w:=w) (w':=w') λb iC ho=>by obtain⟨f1,f2⟩:=hb b iC ho;exact⟨by rw[f1];exact ho,f2⟩
   have hg:=k.g _ hU;refine⟨by rw[hg];exact h1.mono m0 m1,h2.df k,?_⟩;rcases h3 with h3|⟨h3,h4,h5⟩
   ·exact .inl h3
   ·refine .inr ⟨k.u _ h3,by rw[k.v _ h3];exact h4,h5.mono hg (k.g _ h3) λb n c e=>?_⟩;obtain⟨aW,e1,e2⟩:=Uu h1 e;exact(hb b (jB.1 e2).1 (Du e1).1).2
 | .iu n t tc m xs j off s g,⟨h1,h2,b,len,cap,h3,h4⟩=>by
   obtain⟨m0,m1⟩:=Ds (v:=γ.g i) (o:=γ.o) (o':=γ'.o) (i:=i) (i':=i) (w:=w) (w':=w') λb iC ho=>by obtain⟨f1,f2⟩:=hb b iC ho;exact⟨by rw[f1];exact ho,f2⟩
   have hg:=k.g _ hU;exact⟨h1.df k,k.u _ h2,b,len,cap,by rw[hg];exact h3,by rw[hg,k.g _ h2];exact h4.mono m0 m1⟩
 | .fz n xs K,⟨h1,h2⟩=>⟨by rw[k.g _ hU];exact dD.mono (d:=⟨.sl n,xs⟩) (k.mem h2) h1,h2⟩
 | .mp n xs,h=>by
   show rU γ'.o i w' (γ'.g i) xs;rw[k.g _ hU];exact rU.mono h λb iC ho=>by obtain⟨f1,f2⟩:=hb b iC ho;exact⟨by rw[f1];exact ho,f2⟩
def SR.look{sl:List (Nat×AV D)}{L:List (Nat×ah)}(h:SR U γ w sl L){t:Nat}{a:AV D}(e:aF sl t=aa a):∃v,Dp.look L t=aa v∧gI U γ w a v:=h t a e
def SR.cons{sl:List (Nat×AV D)}{L:List (Nat×ah)}{d:Nat}{a:AV D}{v:ah}(h:SR U γ w sl L)(hv:gI U γ w a v):SR U γ w ((d,a)::sl) ((d,v)::L):=λt b e=>by
 unfold aF at e;unfold Dp.look;cases hb:aU d t with
 |true=>simp only[hb,v_,fE]at e⊢;subst e;exact⟨v,rfl,hv⟩
 |false=>simp only[hb,rZ]at e⊢;exact h t b e
end
end
end Rx
end Go.Proofs.YtmngjhagbjgmfaaGreat
namespace Go.Proofs.YtmngjhagbjgmfaaGreat
open Go Go.RowKit Dp
namespace Rx
section
variable {D:Nat->Type}
def Q.R{α:Type}(ob:List (Nat×Option (AO D))):Q D α->List Nat->α->Prop
 | .ret b,l,a=>l=[]∧a=b
 | .fail,_,_=>False
 | .obj i f,l,a=>∃x l',dw ob i=aa x∧l=i::l'∧Q.R ob (f x) l' a
 | .part o f,l,a=>∃y,o=aa y∧Q.R ob (f y) l a
def Q.H7{ρ α:Type}{ob:List (Nat×Option (AO D))}{r:ρ}:∀{q:Q D α} {lg:List Nat} {k:α->List Nat->Option ρ},q.go ob lg k=aa r->∃l a,Q.R ob q l a∧k a (l.reverse++lg)=aa r:=by
 intro q;induction q with
 |ret b=>intro lg k h;exact⟨[],b,⟨rfl,rfl⟩,h⟩
 |fail=>intro lg k h;cases h
 |obj i f ih=>
  intro lg k h;simp only[Q.go]at h;split at h
  ·rename_i x hx;obtain⟨l,a,h1,h2⟩:=ih x h;exact⟨i::l,a,⟨x,l,hx,rfl,h1⟩,by simpa using h2⟩
  ·cases h
 |part o f ih=>intro lg k h;simp only[Q.go,nD]at h;obtain⟨y,hy,h⟩:=pM h;obtain⟨l,a,h1,h2⟩:=ih y h;exact⟨l,a,⟨y,hy,h1⟩,h2⟩
def Q.fW{α β:Type}{ob:List (Nat×Option (AO D))}{f:α->Q D β}{b:β}:∀{q:Q D α} {l:List Nat},Q.R ob (q.bind f) l b->∃l1 l2 a,l=l1++l2∧Q.R ob q l1 a∧Q.R ob (f a) l2 b:=by
 intro q;induction q with
 |ret c=>intro l h;exact⟨[],l,c,rfl,⟨rfl,rfl⟩,h⟩
 |fail=>intro l h;exact h.elim
 |obj i g ih=>intro l h;obtain⟨x,l',h1,rfl,h2⟩:=h;obtain⟨l1,l2,a,rfl,h3,h4⟩:=ih x h2;exact⟨i::l1,l2,a,rfl,⟨x,l1,h1,rfl,h3⟩,h4⟩
 |part o g ih=>intro l h;obtain⟨y,hy,h2⟩:=h;obtain⟨l1,l2,a,rfl,h3,h4⟩:=ih y h2;exact⟨l1,l2,a,rfl,⟨y,hy,h3⟩,h4⟩
end
section
variable {D:Nat->Type} [∀n,ad (D n)]
def jw(U:Nat->Prop)(ar:Nat):Nat->Prop:=λi=>U i∨(ar<=i∧i<ar+128)
structure dR(U:Nat->Prop)(ar:Nat)(γ:Gh D)(w:ay)(ob:List (Nat×Option (AO D)))(e:cY D)(γ':Gh D)(v:ah)(w':ay):Prop where
 fr:f_ γ w γ' w'
 kp:jj U (jw U ar) γ w γ' w'
 dst:gI (jw U ar) γ' w' e.dst v
 ob:OB (jw U ar) γ' w' (e.fz.map (λi=>(i,ak))++e.sq++ob)
structure Cx(U:Nat->Prop)(ar:Nat)(γ:Gh D)(w:ay)(sl:List (Nat×AV D))(L:List (Nat×ah))(ob:List (Nat×Option (AO D))):Prop where
 sr:SR U γ w sl L
 ob:OB U γ w ob
 fresh:∀i,ar<=i->i<ar+128->¬U i
 cJ:1000<=ar
def rel(ps:List (Nat×Nat))(x:Nat):Nat:=match aF ps x with
 |some y=>y
 |none=>x
def dO{α:Type}:∀{l:List (Nat×α)} {t:Nat} {a:α},aF l t=aa a->(t,a)∈l
 |[],t,a,h=>by simp[aF]at h
 |p::r,t,a,h=>by
  unfold aF at h;cases hb:aU p.1 t with
  |true=>simp only[hb,v_,fE]at h;have:=bB hb;subst this;subst h;simp
  |false=>simp only[hb,rZ]at h;exact List.mem_cons_of_mem _ (dO h)
def yi{α:Type}:∀{l:List (Nat×α)} {t:Nat},aF l t=ak->∀a,(t,a)∉l
 |[],t,h,a=>by simp
 |p::r,t,h,a=>by
  unfold aF at h;cases hb:aU p.1 t with
  |true=>simp[hb]at h
  |false=>
   simp only[hb,rZ]at h;intro hm;rcases cu.1 hm with rfl|hm
   ·simp at hb
   ·exact yi h a hm
def km{α:Type}:∀(l l':List (Nat×α)) (t:Nat),aF (l++l') t=match aF l t with
  |some a=>aa a
  |none=>aF l' t
 |[],l',t=>by simp[aF]
 |p::r,l',t=>by
  simp only[List.cons_append,aF];cases hb:aU p.1 t with
  |true=>simp
  |false=>simp only[rZ];exact km r l' t
def qh{α:Type}:∀{l:List (Nat×α)} {t:Nat},aF l t=ak↔t∉l.map Prod.fst
 |[],t=>by simp[aF]
 |p::r,t=>by
  simp only[aF,gz,cu,not_or];cases hb:aU p.1 t with
  |true=>have:=bB hb;simp[this]
  |false=>
   have bR:¬t=p.1:=λe=>by subst e;simp at hb
   simp only[rZ,bR,not_false_eq_true,true_and];exact qh
section
variable {U:Nat->Prop} {γ:Gh D} {w w':ay} {ob:List (Nat×Option (AO D))} {ar:Nat} {e:cY D} {v:ah}
def ao2{ps:List (Nat×Nat)}(pC:∀p∈ps,1000<=p.1){x:Nat}(hx:x<1000):rel ps x=x:=by
 unfold rel;split
 ·rename_i y hy;have:=pC _ (dO hy);simp only at this;omega
 ·rfl
def abA{M N:List Nat}{ps:List (Nat×Nat)}{o':cB}{g':Nat->ah}{v':Nat->DV D}(ev:bP M N γ.o w o' w')(hM:∀x∈M,1000<=x)(pC:∀p∈ps,1000<=p.1)(hg:∀i,U i->g' i=γ.g i)(hv:∀i,U i->v' i=γ.v i):
  jj U (jw U ar) γ w ⟨λb=>rel ps (o' b),g',v'⟩ w':=
 ⟨λi h=> .inl h,hg,hv,λb hb hc=>⟨by simp only;rw[ev.gY b hb];exact ao2 pC (by omega),ev.rR b hb λhm=>by have:=hM _ hm;omega⟩⟩
def nF{α:Type}{i j:Nat}{a x:α}(h:aF [(i,a)] j=aa x):i=j∧x=a:=by have:=dO h;simp only[List.mem_singleton,wa]at this;exact⟨this.1.symm,this.2⟩
def mkPost{M N:List Nat}{ps:List (Nat×Nat)}{o':cB}{g':Nat->ah}{v':Nat->DV D}(bH:OB U γ w ob)(ev:bP M N γ.o w o' w')
  (hM:∀x∈M,1000<=x∧U x∧x∈e.wr) (hN:∀x∈N,x∈M∨(ar<=x∧x<ar+128)) (pC:∀p∈ps,1000<=p.1∧(U p.1->p.1∈e.wr)∧(p.2=1∨(ar<=p.2∧p.2<ar+128)))
  (qD:1000<=ar) (hg:∀i,U i->g' i=γ.g i) (hv:∀i,U i->v' i=γ.v i)
  (Bb:gI (jw U ar) ⟨λb=>rel ps (o' b),g',v'⟩ w' e.dst v)
  (TA:∀i x,aF e.sq i=aa (aa x)->i∉e.fz->1000<=i∧jw U ar i∧OR (jw U ar) ⟨λb=>rel ps (o' b),g',v'⟩ w' i x):
  dR U ar γ w ob e ⟨λb=>rel ps (o' b),g',v'⟩ v w':=by
 have AK:∀x,x<1000->rel ps x=x:=λx hx=>by
  unfold rel;split
  ·rename_i y hy;have:=(pC _ (dO hy)).1;simp only at this;omega
  ·rfl
 have atk:∀x,rel ps x<1000->rel ps x=x∨rel ps x=1:=λx hx=>by
  unfold rel at hx⊢;split
  ·rename_i y hy;rw[hy]at hx;rcases(pC _ (dO hy)).2.2 with h|h
   ·exact .inr h
   ·simp only at h hx;omega
  ·exact .inl rfl
 have hold:∀b,b<w.heap.size->γ.o b<4->rel ps (o' b)=γ.o b∧w'.heap[b]? =w.heap[b]? :=λb hb h4=>by have h1:=ev.gY b hb;refine⟨by rw[h1];exact AK _ (by omega),ev.rR b hb λhm=>?_⟩;have:=(hM _ hm).1;omega
 have eE:f_ γ w ⟨λb=>rel ps (o' b),g',v'⟩ w':=by
  refine⟨⟨ev.os,ev.tape,ev.output,ev.size,λb hb hc=>hold b hb (by omega),λb hb hc=>?_⟩,λi hi=>hg i (bH.ro i hi)⟩;simp only at hc⊢;have h1:rel ps (o' b)=o' b:=by
   rcases atk (o' b) (by omega)with h|h
   ·exact h
   ·omega
  rw[h1]at hc;by_cases aV:b<w.heap.size
  ·exact⟨aV,by rw[h1,ev.gY b aV]⟩
  ·have h2:=ev.new b (by omega) hb;rcases hN _ h2 with h|h
   ·have:=(hM _ h).1;omega
   ·omega
 have fA:jj U (jw U ar) γ w ⟨λb=>rel ps (o' b),g',v'⟩ w':=
  ⟨λi h=> .inl h,hg,hv,λb hb hc=>hold b hb (by omega)⟩
 refine⟨eE,fA,Bb,λi x hx=>?_,λb hb=>?_,λx hx=> .inl (bH.ro x hx)⟩
 ·by_cases ko:i∈e.fz
  ·exfalso;unfold dw at hx;rw[ed,km]at hx;have:aF (e.fz.map λi=>(i,(none:Option (AO D)))) i=aa ak:=by
    have h1:¬aF (e.fz.map λi=>(i,(none:Option (AO D)))) i=ak:=by rw[qh];simpa using ko
    cases hl:aF (e.fz.map λi=>(i,(none:Option (AO D)))) i with
    |none=>exact(h1 hl).elim
    |some y=>have:=dO hl;simp only[dE]at this;obtain⟨_,_,h3⟩:=this;cases h3;rfl
   rw[this]at hx;cases hx
  ·have h0:aF (e.fz.map λi=>(i,(none:Option (AO D)))) i=ak:=by
    rw[qh];simpa using ko
   unfold dw at hx;rw[ed,km,h0]at hx;simp only at hx;rw[km]at hx;cases hu:aF e.sq i with
   |some y=>
    rw[hu]at hx;cases y with
    |none=>cases hx
    |some y=>cases hx;exact TA i x hu ko
   |none=>
    rw[hu]at hx;simp only at hx;obtain⟨h1,h2,h3⟩:=bH.ob i x hx;have rE:i∉e.wr:=by unfold cY.wr;rw[bA,not_or];exact⟨qh.1 hu,ko⟩
    refine⟨h1,.inl h2,h3.df fA h2 λb hb hc=>?_⟩;have hM':i∉M:=λhm=>rE (hM _ hm).2.2;have hr:rel ps i=i:=by
     unfold rel;split
     ·rename_i y hy;exact(rE ((pC _ (dO hy)).2.1 h2)).elim
     ·rfl
    exact⟨by simp only;rw[ev.gY b hb,hc,hr],ev.rR b hb (by rw[hc];exact hM')⟩
 ·simp only;have h1:U (o' b)∨(ar<=o' b∧o' b<ar+128):=by
   by_cases aV:b<w.heap.size
   ·rw[ev.gY b aV];exact .inl (bH.cl b aV)
   ·rcases hN _ (ev.new b (by omega) hb)with h|h
    ·exact .inl (hM _ h).2.1
    ·exact .inr h
  unfold rel;split
  ·rename_i y hy;rcases(pC _ (dO hy)).2.2 with h|h
   ·simp only at h;subst h;exact .inl (bH.ro 1 (by omega))
   ·exact .inr h
  ·exact h1
end
def aqq{U U':Nat->Prop}{γ γ':Gh D}{w w':ay}{ob:List (Nat×Option (AO D))}{e:cY D}(bH:OB U γ w ob)(k:jj U U' γ w γ' w')(hun:∀i,U i->1000<=i->i∉e.wr->∀b,b<w.heap.size->γ.o b=i->γ'.o b=γ.o b∧w'.heap[b]? =w.heap[b]?)
  (c_:∀b,b<w'.heap.size->U' (γ'.o b)) (TA:∀i x,aF e.sq i=aa (aa x)->i∉e.fz->1000<=i∧U' i∧OR U' γ' w' i x):OB U' γ' w' (e.fz.map (λi=>(i,ak))++e.sq++ob):=by
 refine⟨λi x hx=>?_,c_,λx hx=>k.u _ (bH.ro x hx)⟩
 by_cases ko:i∈e.fz
 ·exfalso;unfold dw at hx;rw[ed,km]at hx;have:aF (e.fz.map λi=>(i,(none:Option (AO D)))) i=aa ak:=by
   have h1:¬aF (e.fz.map λi=>(i,(none:Option (AO D)))) i=ak:=by rw[qh];simpa using ko
   cases hl:aF (e.fz.map λi=>(i,(none:Option (AO D)))) i with
   |none=>exact(h1 hl).elim
   |some y=>have:=dO hl;simp only[dE]at this;obtain⟨_,_,h3⟩:=this;cases h3;rfl
  rw[this]at hx;cases hx
 ·have h0:aF (e.fz.map λi=>(i,(none:Option (AO D)))) i=ak:=by
   rw[qh];simpa using ko
  unfold dw at hx;rw[ed,km,h0]at hx;simp only at hx;rw[km]at hx;cases hu:aF e.sq i with
  |some y=>
   rw[hu]at hx;cases y with
   |none=>cases hx
   |some y=>cases hx;exact TA i x hu ko
  |none=>
   rw[hu]at hx;simp only at hx;obtain⟨h1,h2,h3⟩:=bH.ob i x hx;have rE:i∉e.wr:=by unfold cY.wr;rw[bA,not_or];exact⟨qh.1 hu,ko⟩
   exact⟨h1,k.u _ h2,h3.df k h2 (hun i h2 h1 rE)⟩
structure bq(P:cQ)(t:aY)(g:Bool)(z:List ah):Prop where
 agg:∃d,P.underlying t=aa d∧Td d=g
 nG:∃i,P.info? t=aa i∧i.size=z.length∧i.zero=aa (pack g z)
section
variable {P:cQ} {Qx:Exit->Act->ay->Prop} {L:List (Nat×ah)} {w:ay} {d:Option Tmp} {ty:aY} {pos:String} {af:Array Edge} {g:Option (Nat×Bool)} {t:aY} {x u:a_} {a:Bool} {z:List ah} {o:cB}
def bq.isAgg(h:bq P t a z)(w:ay):(isAgg t).run P w= .ok a w:=by obtain⟨d,h1,h2⟩:=h.agg;unfold Go.isAgg;rw[Sem.run_bind,run_underlying h1 w];simp only[Result.andThen_ok];rw[<-h2];cases d<;>rfl
def bq.sizeOf(h:bq P t a z)(w:ay):(sizeOf t).run P w= .ok z.length w:=by obtain⟨i,h1,h2,_⟩:=h.nG;simp[Go.sizeOf,typeInfo,h1,h2]
def bq.zero(h:bq P t a z)(w:ay):(zeroValue t).run P w= .ok (pack a z) w:=by obtain⟨i,h1,_,h4⟩:=h.nG;simp[zeroValue,typeInfo,h1,h4]
def OW.Mh [Rd]{pa:Addr}{cs:List ah}(hT:bq P t a z)(hz:a=ai->z.length=1)(hx:ev L x=aa (.pointer (aa pa)))(hc:kb w pa cs)(hl:cs.length=z.length):
  OW P Qx L ⟨d,.load t x,ty,pos,af,g⟩ w (λv' w'=>v'=pack a cs∧w'=w):=by
 refine OW.run λb hb=>⟨pack a cs,w,?_,rfl,rfl⟩
 have fy:(loadVar t pa).run P w= .ok (pack a cs) w:=by
  simp only[loadVar,Sem.run_bind,hT.isAgg,Result.andThen_ok];cases a with
  |true=>have:=run_loadCells_list (P:=P) w pa cs hc;rw[hl]at this;simp[hT.sizeOf,this,pack]
  |false=>
   rw[hz rfl]at hl;match cs,hl,hc with
   |[u],_,hc=>
    have:=hc 0 u rfl;have hu:w.cell? pa=aa u:=by simpa[Addr.add]using this
    simp[pack,hu]
 simp[execOp,hb _ _ hx,Instr.loadAt,Instr.sureAddr,fy]
def OW.anI [Rd]{b off:Nat}{cs vs:List ah}{T':aY}{v:ah}{c:Nat}(hT:bq P t a z)(hx:ev L x=aa (.pointer (aa ⟨b,off,ak⟩)))(hu:ev L u=aa v)(hb:w.heap[b]? =aa (.cells cs.toArray T' (0,0)))(ho:o b=c)
  (hv:v.cells=vs.toArray) (h1:∀u∈vs,u.oneCell'=ab) (hl:vs.length=z.length) (hle:off+vs.length<=cs.length):
  OW P Qx L ⟨d,.store t x u,ty,pos,af,g⟩ w (λv' w'=>v'=undef∧bP [c] [] o w o w'∧w'.heap[b]? =aa (.cells (cs.take off++vs++cs.drop (off+vs.length)).toArray T' (0,0))):=by
 have bV:=run_storeCells_at P b off T' vs 0 cs.toArray w hb (by simp;omega) h1
 simp only[Nat.add_zero]at bV
 have b7:bP [c] [] o w o (w.setRow b (cs.take off++vs++cs.drop (off+vs.length)).toArray):=bP.row _ ho
 refine OW.KW λa ha=>⟨_,?_,rfl,b7,setRow_heap w b _ _ T' _ hb⟩
 simp[execOp,ha _ _ hx,ha _ _ hu,Instr.storeAt,Instr.sureAddr,storeVar,hT.sizeOf,hv,hl,bV]
def OW.aCu [Rd](c:Nat)(hT:bq P t a z)(hz:a=ai->∃u,z=[u]∧u.oneCell'=ab):
  OW P Qx L ⟨d,.alloc t,ty,pos,af,g⟩ w (λv' w'=>∃b,v'=fP b 0∧w.heap.size<=b∧bP [] [c] o w (grow o w c) w'∧w'.heap[b]? =aa (.cells z.toArray t (0,0))):=by
 refine OW.run λb ha=>⟨_,w.alloc (.cells z.toArray t),?_,w.heap.size,rfl,bx _,bP.alloc o w _ c,heap_alloc_new w _⟩
 have pD:(pack a z).cells=z.toArray:=by
  cases a with
  |true=>rfl
  |false=>obtain⟨u,rfl,h1⟩:=hz rfl;exact N7 h1
 simp[execOp,Instr.alloc,hT.zero,newVar,newRow,pD,newObj]
 rfl
def OW.aCb [Rd]{v:ah}(c:Nat)(cs:List ah)(hx:ev L u=aa v)(hv:v.cells=cs.toArray):
  OW P Qx L ⟨d,.box t u,ty,pos,af,g⟩ w (λv' w'=>∃b,v'=fP b 0∧w.heap.size<=b∧bP [] [c] o w (grow o w c) w'∧w'.heap[b]? =aa (.cells cs.toArray t (0,0))):=by
 refine OW.run λa ha=>⟨_,w.alloc (.cells cs.toArray t),?_,w.heap.size,rfl,bx _,bP.alloc o w _ c,heap_alloc_new w _⟩
 simp[execOp,ha _ _ hx,Instr.box,newVar,newRow,hv,newObj]
 rfl
def OW.aBZ [Rd]{parts:List (Nat×a_)}{vs:List (Nat×ah)}{pl:List (Nat×Nat)}(so:List (Nat×List ah))(jd:List ah)(bV:E_ P t pl)(hT:bq P t ab z)(hp:Bq L parts=aa vs)(hc:PJ vs so)(hf:Bo pl z so=aa jd):
  OW P Qx L ⟨d,.build t parts.toArray,ty,pos,af,g⟩ w (λv' w'=>v'= .agg jd.toArray∧w'=w):=by
 obtain⟨fs,h1,h2⟩:=bV.fs
 obtain⟨i,gw,ep,mH⟩:=hT.nG
 have h3:=aeE hc hf
 refine OW.run λa ha=>⟨.agg jd.toArray,w,?_,rfl,rfl⟩
 have AN:(parts.toArray.map λ(x:Nat×a_)=>(x.1,a.eval x.2)).toList=vs:=by rw[<-aeH ha hp];simp
 have TT:(pack ab z).cells=z.toArray:=rfl
 have hb:P.built t (parts.toArray.map λ(x:Nat×a_)=>(x.1,a.eval x.2)).toList=aa jd.toArray:=by simp only[cQ.built,gw,h1,mH,h2,TT,AN,h3]
 have hr:=run_build (P:=P) w t _ _ hb
 simp only[execOp,Sem.run_bind]
 rw[hr]
 rfl
end
end
end Rx
end Go.Proofs.YtmngjhagbjgmfaaGreat
namespace Go.Proofs.YtmngjhagbjgmfaaGreat
open Go Go.RowKit Dp
namespace Rx
section
variable {D:Nat->Type} [∀n,ad (D n)]
def FF(T:bc D):kZ->List ah
 | .one (.int k)=>[.int k 0]
 | .one .bool=>[.bool ai]
 | .one .str=>[.string tv]
 | .one (.sl _)=>[.slice ak 0 0]
 | .st n=>wg (T.lv n)
 | .ptr=>[.pointer ak]
 | .fn=>[.nilFunc]
def ck(P:cQ)(T:bc D)(t:aY)(d:kZ):Prop:=
 bq P t d.agg (FF T d)∧match d with
  | .one (.int k)=>P.underlying t=aa (.int k)
  | .one .bool=>P.underlying t=aa .bool
  | .one .str=>P.underlying t=aa .string
  |_=>True
structure Ji(P:cQ)(D:Nat->Type)[∀n,ad (D n)](n tc m:Nat):Prop where
 one:nt (D n)
 flat:Flat (D m)
 ty:bO P tc (D m)
 zc:PZ (ad.zc (D n))=ab
structure aky(P:cQ)(D:Nat->Type)[∀n,ad (D n)](t m e n:Nat):Prop where
 uW:P.underlying t=aa (.array m e)
 el:bO P e (D n)
 z:∃i z,P.info? t=aa i∧i.zero=aa z∧z.cells.size=m*ad.sz (D n)
def iR:List Lf->List ah->Prop
 |[],[]=>True
 |l::r,v::vs=>(match l with| .int k=>∃a,v= .int k a| .bool=>∃b,v= .bool b| .str=>∃s,v= .string s| .sl _=>False)∧iR r vs
 |_,_=>False
def lL(P:cQ)(t:aY)(g:Bool)(ls:List Lf)(k:Nat):Prop:=∀(d:Nat) (w:ay) (us vs:List ah),iR ls us->iR ls vs->∃r:Bool,(Op.equalIn (d+k) t (pack g us) (pack g vs)).run P w= .ok r w∧(r=ab↔us=vs)
structure B1(P:cQ)(t:aY)(ls:List Lf):Prop where
 eq:∃k,k<=10000∧lL P t ab ls k
 guard:P.eqGuardType P.depth t=ai
structure BY(P:cQ)(kt:aY)(ls:List Lf):Prop where
 check:∀(w:ay) (em:Bool) (ks:List ah),iR ls ks->(Instr.checkKey em 10000 kt (gr ks)).run P w= .ok () w
 find:∀(w:ay) (ks:List ah),iR ls ks->∀es:List gL,(∀e∈es,∃us,iR ls us∧e.key=gr us)->
  ((Instr.findKey kt (gr ks) es).run P w= .ok ak w∧∀e∈es,e.key≠gr ks)∨∃j e,(Instr.findKey kt (gr ks) es).run P w= .ok (aa (j,e.val)) w∧es[j]? =aa e∧e.key=gr ks
 stays:∀(w:ay) (ks:List ah),iR ls ks->(Instr.keyThatStays (gr ks) (gr ks)).run P w= .ok (gr ks) w
structure PK(P:cQ)(T:bc D)(t kt vt n:Nat):Prop where
 uW:P.underlying t=aa (.map kt vt)
 key:BY P kt (T.lv n).dropLast
 flat:(T.lv n).all jJ=ab
 val:∃l,ym (T.lv n)=aa l∧bq P vt ai (wg [l])
structure dS(P:cQ)(T:bc D):Prop where
 ty:∀t d,aF T.ty t=aa d->ck P T t d
 dh:∀t e n,aF T.dh t=aa (e,n)->P.underlying t=aa (.slice e)∧bO P e (D n)
 uu:∀t l,aF T.uu t=aa l->E_ P t l∧∀i off sz,l[i]? =aa (off,sz)->Fo P t i off
 Bs:∀t ls,aF T.Bs t=aa ls->B1 P t ls∧ls.all jJ=ab
 kd:∀n tc m,aF T.kd n=aa (tc,m)->Ji P D n tc m
 qO:∀t m e n,aF T.qO t=aa (m,e,n)->aky P D t m e n
 qf:∀t kt vt n,aF T.qf t=aa (kt,vt,n)->PK P T t kt vt n
variable {P:cQ} {T:bc D} {Qx:Exit->Act->ay->Prop} {U:Nat->Prop} {ar:Nat} {γ:Gh D} {w:ay} {sl:List (Nat×AV D)} {L:List (Nat×ah)} {ob:List (Nat×Option (AO D))}
 {d:Option Tmp} {ty:aY} {pos:String} {af:Array Edge} {gd:Option (Nat×Bool)} {e:cY D} {l:List Nat}
def Yh:∀ls:List Lf,(wg ls).length=ls.length
 |[]=>rfl
 |l::r=>by simp[wg,Yh r]
def FE(T:bc D):∀ty:kZ,(FF T ty).length=ty.n T
 | .one (.int k)=>rfl
 | .one .bool=>rfl
 | .one .str=>rfl
 | .one (.sl _)=>rfl
 | .st n=>Yh _
 | .ptr=>rfl
 | .fn=>rfl
def PY(T:bc D):∀ty:kZ,ty.agg=ai->(FF T ty).length=1
 | .one (.int k),_=>rfl
 | .one .bool,_=>rfl
 | .one .str,_=>rfl
 | .one (.sl _),_=>rfl
 | .st n,h=>by cases h
 | .ptr,_=>rfl
 | .fn,_=>rfl
def Df:∀(ts:List Lf) (h:HL D ts),(tS ts h).map DV.l=ts
 |[],_=>rfl
 |[l],x=>rfl
 |l::m::r,x=>by simp[tS,Df (m::r) x.2]
def JQ:∀{ts:List Lf} {ds:List (DV D)},ds.map DV.l=ts->∃h,toHL ts ds=aa h
 |[],[],_=>⟨(),rfl⟩
 |[],_::_,h=>by simp at h
 |[l],[⟨l',d⟩],h=>by simp at h;subst h;exact⟨d,by simp[toHL]⟩
 |[l],[],h=>by simp at h
 |[l],_::_::_,h=>by simp at h
 |l::m::r,[],h=>by simp at h
 |l::m::r,⟨l',d⟩::ds,h=>by simp only[gz,List.cons.injEq]at h;obtain⟨rfl,h⟩:=h;obtain⟨x,hx⟩:=JQ h;exact⟨(d,x),by simp only[toHL,hx,dif_pos]⟩
def G2(T:bc D)(n off m:Nat)(x:D n):List (D m):=match(T.out n x)[off]? with
 |some ⟨.sl m',d⟩=>if h:m'=m then h▸d else []
 |_=>[]
def Ar(T:bc D)(n off m:Nat)(x:D n)(l:List (D m)):D n:=match T.iX n ((T.out n x).set off ⟨.sl m,l⟩)with
 |some y=>y
 |none=>x
def ab0{n off m:Nat}{x:D n}{d:List (D m)}(h:(T.out n x)[off]? =aa ⟨.sl m,d⟩):G2 T n off m x=d:=by unfold G2;rw[h];simp
def ab1{n off m:Nat}(x:D n)(h:(T.lv n)[off]? =aa (.sl m)):(T.out n x)[off]? =aa ⟨.sl m,G2 T n off m x⟩:=by
 have hk:((T.out n x).map DV.l)[off]? =aa (.sl m):=by rw[bc.out,Df];exact h
 rw[List.getElem?_map]at hk;cases hd:(T.out n x)[off]? with
 |none=>rw[hd]at hk;cases hk
 |some y=>obtain⟨l,d⟩:=y;rw[hd]at hk;simp only[Option.map_some,fE]at hk;subst hk;rw[ab0 hd]
def S3(hR:cF T){n off m:Nat}{x:D n}{l:List (D m)}(h:(T.lv n)[off]? =aa (.sl m)):T.out n (Ar T n off m x l)=(T.out n x).set off ⟨.sl m,l⟩:=by
 have hk:((T.out n x).set off ⟨.sl m,l⟩).map DV.l=T.lv n:=by
  rw[List.map_set,bc.out,Df];apply xz;intro i;rw[oY];by_cases hi:off=i
  ·subst hi;rw[aH rfl,h];simp[(gK.1 h).1]
  ·rw[aL hi]
 obtain⟨y,hy⟩:=JQ hk;have hm:T.iX n ((T.out n x).set off ⟨.sl m,l⟩)=aa (T.Ai n y):=by unfold bc.iX;rw[hy]
 unfold Ar;rw[hm];exact hR.iX hm
def cn.at{S:Nat->Prop}{w:ay}:∀{vs:List ah} {ds:List (DV D)},cn S w vs ds->∀{i:Nat} {d:DV D},ds[i]? =aa d->∃u,vs[i]? =aa u∧dD S w u d
 |[],[],_,i,d,h=>by simp at h
 |v::vs,e::ds,hl,0,d,h=>by cases h;exact⟨v,rfl,hl.1⟩
 |v::vs,e::ds,hl,i+1,d,h=>by obtain⟨u,h1,h2⟩:=cn.at hl.2 (i:=i) (by simpa using h);exact⟨u,by simpa using h1,h2⟩
 |[],_::_,hl,_,_,_=>hl.elim
 |_::_,[],hl,_,_,_=>hl.elim
def cn.setAt{S:Nat->Prop}{w:ay}{u:ah}{d:DV D}(hu:dD S w u d):∀{vs:List ah} {ds:List (DV D)},cn S w vs ds->∀(i:Nat),cn S w (vs.set i u) (ds.set i d)
 |[],[],_,_=>trivial
 |v::vs,e::ds,hl,0=>⟨hu,hl.2⟩
 |v::vs,e::ds,hl,i+1=>⟨hl.1,cn.setAt hu hl.2 i⟩
 |[],_::_,hl,_=>hl.elim
 |_::_,[],hl,_=>hl.elim
def arM(hR:cF T){n off m:Nat}(h:(T.lv n)[off]? =aa (.sl m)):kA off (G2 T n off m) (Ar T n off m):=by
 refine⟨?_,?_,?_⟩
 ·intro S w cs x hr;rw[hR.rd]at hr;obtain⟨u,h1,h2⟩:=cn.at hr (ab1 x h);have aV:=(gK.1 h1).1;refine⟨cs.take off,[u],cs.drop (off+1),?_,by simp;omega,Rv.R3 h2 rfl⟩;have:=zK (x:=u) aV;rw[this];apply xz;intro i;rw[oY];by_cases hi:off=i
  ·subst hi;rw[aH rfl,aH aV,h1]
  ·rw[aL hi]
 ·intro S w cs x c' y hr hy;rw[hR.rd]at hr⊢;rw[S3 hR h];have hl:=ad.len hy;have nM:c'.length=1:=hl;match c',nM with
  |[u],_=>
   have AT:off<cs.length:=by obtain⟨u',h1,_⟩:=cn.at hr (ab1 x h);exact(gK.1 h1).1
   show cn _ _ (cs.take off++[u]++cs.drop (off+1)) _;rw[zK AT];exact cn.setAt (d:=⟨.sl m,y⟩) ⟨[u],rfl,hy⟩ hr off
 ·intro x a b;unfold Ar;have e:=S3 hR (x:=x) (l:=a) h;unfold Ar at e;rw[e,List.set_set];have hk:=S3 hR (x:=x) (l:=b) h;cases hm:T.iX n ((T.out n x).set off ⟨.sl m,b⟩)with
  |some y=>rfl
  |none=>
   exfalso;unfold bc.iX at hm;split at hm
   ·cases hm
   ·rename_i hn;obtain⟨z,hz⟩:=JQ (ts:=T.lv n) (ds:=(T.out n x).set off ⟨.sl m,b⟩) (by rw[<-hk,bc.out,Df])
    rw[hz]at hn;cases hn
def LU(d:DV D):named U γ 0 d:= .inl rfl
def lr:ek []:=λx h=>by cases h
def ax0{v:ah}{a:AV D}(h:VQ v=aa a):gI U γ w a v:=by
 unfold VQ at h;split at h<;>first
  |(cases h;exact⟨rfl,LU _,lr⟩)
  |(cases h;rfl)
  |(cases h;trivial)
  |cases h
def cA(hs:SR U γ w sl L){x:a_}{a:AV D}(h:eT sl x=aa a):∃v,ev L x=aa v∧gI U γ w a v:=by
 cases x with
 |tmp t=>exact hs.look h
 |const v=>exact⟨v,rfl,ax0 h⟩
 |func f=>
  simp only[eT]at h;split at h
  ·rename_i hf;cases h;exact⟨_,rfl,[],by unfold xk;rw[aH hf],trivial⟩
  ·cases h
 |global g=>cases h
def aeI(hs:SR U γ w sl L):∀{xs:List a_} {as:List (AV D)},eR sl xs=aa as->∃vs,oK L xs=aa vs∧np U γ w as vs
 |[],as,h=>by simp only[eR,fE]at h;subst h;exact⟨[],rfl,trivial⟩
 |x::r,as,h=>by
  unfold eR at h;split at h
  ·rename_i a b ha hb;cases h;obtain⟨v,h1,h2⟩:=cA hs ha;obtain⟨vs,h3,h4⟩:=aeI hs hb;exact⟨v::vs,by simp[oK,h1,h3],h2,h4⟩
  ·cases h
def ux{xs:List a_}{a:AV D}{as:List (AV D)}{x:a_}(h:eR sl (x::xs)=aa (a::as)):eT sl x=aa a∧eR sl xs=aa as:=by
 unfold eR at h;split at h
 ·rename_i a' b ha hb;cases h;exact⟨ha,hb⟩
 ·cases h
def oL{a:AV D}{x:a_}(h:eR sl [x]=aa [a]):eT sl x=aa a:=(ux h).1
def sV{a b:AV D}{x y:a_}(h:eR sl [x,y]=aa [a,b]):eT sl x=aa a∧eT sl y=aa b:=⟨(ux h).1,oL (ux h).2⟩
def Vj{a b c:AV D}{x y z:a_}(h:eR sl [x,y,z]=aa [a,b,c]):eT sl x=aa a∧eT sl y=aa b∧eT sl z=aa c:=⟨(ux h).1,sV (ux h).2⟩
def uw:∀{xs:List a_} {as:List (AV D)},eR sl xs=aa as->xs.length=as.length
 |[],as,h=>by simp only[eR,fE]at h;subst h;rfl
 |x::r,as,h=>by
  unfold eR at h;split at h
  ·rename_i a b ha hb;cases h;simp[uw hb]
  ·cases h
def pj(hx:Cx U ar γ w sl L ob){a:AV D}{v:ah}(h:gI U γ w a v):dR U ar γ w ob ⟨a,[],[]⟩ γ v w:=by have k:jj U (jw U ar) γ w γ w:=⟨λi h=> .inl h,λ_ _=>rfl,λ_ _=>rfl,λ_ _ _=>⟨rfl,rfl⟩⟩;have:=mkPost (e:=⟨a,[],[]⟩) (v:=v) (M:=[]) (N:=[]) (ps:=[]) (g':=γ.g) (v':=γ.v) hx.ob (bP.refl [] [] γ.o w) (by simp) (by simp) (by simp) hx.cJ (λ_ _=>rfl) (λ_ _=>rfl) (h.df k) (λi x hx=>by simp[aF]at hx);exact this
def gh(f:Nat->DV D)(g:Nat)(ds:List (DV D)):Nat->DV D:=λi=>if g<=i then(match ds[i-g]? with|some d=>d|none=>f i)else f i
def GS{f:Nat->DV D}{g i:Nat}{ds:List (DV D)}{d:DV D}(h:ds[i]? =aa d):gh f g ds (g+i)=d:=by unfold gh;rw[aH (by omega),Nat.add_sub_cancel_left,h]
def Sw{f:Nat->DV D}{g i:Nat}{ds:List (DV D)}(h:i<g∨g+ds.length<=i):gh f g ds i=f i:=by
 unfold gh;split
 ·rename_i hg;rw[List.getElem?_eq_none (by omega)]
 ·rfl
def Cx.gY(hx:Cx U ar γ w sl L ob){i:Nat}(h:U i):i<ar∨ar+128<=i:=by
 rcases Nat.lt_or_ge i ar with h1|h1
 ·exact .inl h1
 ·rcases Nat.lt_or_ge i (ar+128)with h2|h2
  ·exact(hx.fresh i h1 h2 h).elim
  ·exact .inr h2
def sw(hx:Cx U ar γ w sl L ob){ds:List (DV D)}(hl:ds.length<=112){i:Nat}(h:U i):gh γ.v (ar+16) ds i=γ.v i:=by
 rcases hx.gY h with h1|h1
 ·exact Sw (.inl (by omega))
 ·exact Sw (.inr (by omega))
def Ac(hx:Cx U ar γ w sl L ob)(ds:List (DV D))(hl:ds.length<=112){a:AV D}{v:ah}(h:gI (jw U ar) ⟨γ.o,γ.g,gh γ.v (ar+16) ds⟩ w a v):dR U ar γ w ob ⟨a,[],[]⟩ ⟨γ.o,γ.g,gh γ.v (ar+16) ds⟩ v w:=by have:=mkPost (e:=⟨a,[],[]⟩) (v:=v) (M:=[]) (N:=[]) (ps:=[]) (g':=γ.g) (v':=gh γ.v (ar+16) ds) hx.ob (bP.refl [] [] γ.o w) (by simp) (by simp) (by simp) hx.cJ (λ_ _=>rfl) (λi hi=>sw hx hl hi) h (λi x hx=>by simp[aF]at hx);exact this
def mx{γ':Gh D}{ds:List (DV D)}{i:Nat}{x:DV D}(hv:γ'.v=gh γ.v (ar+16) ds)(hi:i<112)(h:ds[i]? =aa x):named (jw U ar) γ' (ar+16+i) x:=.inr ⟨.inr ⟨by omega,by omega⟩,by rw[hv];exact GS h⟩
def eo(hx:Cx U ar γ w sl L ob){lf:Lf}{x:lf.den D}{v:ah}(hf:dD (In γ.o []) w v ⟨lf,x⟩):dR U ar γ w ob ⟨.c (.one (.v lf x [] (ar+16))),[],[]⟩ ⟨γ.o,γ.g,gh γ.v (ar+16) [⟨lf,x⟩]⟩ v w:=Ac hx [⟨lf,x⟩] (by simp) ⟨hf,mx (γ:=γ) (i:=0) rfl (by omega) rfl,lr⟩
def OW.mono [Rd]{o:Oper}{R R':ah->ay->Prop}(h:OW P Qx L o w R)(hr:∀v w',R v w'->R' v w'):OW P Qx L o w R':=λa K ha hK=>h a K ha λv w' r=>hK v w' (hr v w' r)
def dm [Rd]{o:Oper}{v:ah}{γ':Gh D}(h:OW P Qx L o w (λv' w'=>v'=v∧w'=w))(hp:dR U ar γ w ob e γ' v w):OW P Qx L o w (λv' w'=>∃γ',dR U ar γ w ob e γ' v' w'):=OW.mono h λv' w' ⟨h1,h2⟩=>by subst h1;subst h2;exact⟨γ',hp⟩
def OW.shr [Rd]{k k':IntKind}{x y:a_}{t t2:aY}{p q c:Int}(h1:ev L x=aa (.int k p))(h2:ev L y=aa (.int k' q))(hc:wD k.bits p q=aa c):
  OW P Qx L ⟨d,.binOp .shr t x y t2,ty,pos,af,gd⟩ w (λv w'=>v= .int k c∧w'=w):=by
 refine OW.run λa ha=>⟨_,w,?_,rfl,rfl⟩
 unfold wD at hc
 split at hc
 ·cases hc
 ·rename_i hq;cases hc;simp[execOp,ha _ _ h1,ha _ _ h2,eqGuard,binOp,Op.shift,hq]
def OW.ajt [Rd]{op:BinOp}{x y:a_}{t t2:aY}{p q:Bool}{v:Bool}(ht:P.underlying t=aa .bool)(hv:(op= .eql∧v=(p==q))∨(op= .neq∧v= !(p==q)))(h1:ev L x=aa (.bool p))(h2:ev L y=aa (.bool q)):
  OW P Qx L ⟨d,.binOp op t x y t2,ty,pos,af,gd⟩ w (λv' w'=>v'= .bool v∧w'=w):=by
 have hE:=X6.bool ht
 have:=hE.run (S:=λ_=>True) (S':=λ_=>True) (w:=w) (v1:= .bool p) (v2:= .bool q) (x:=p) (y:=q) x y ⟨[.bool p],rfl,rfl⟩ ⟨[.bool q],rfl,rfl⟩
 refine OW.run λa ha=>⟨_,w,?_,rfl,rfl⟩
 rcases hv with⟨rfl,rfl⟩|⟨rfl,rfl⟩
 ·simp[execOp,ha _ _ h1,ha _ _ h2,this.1.1,this.1.2];cases p<;>cases q<;>rfl
 ·simp[execOp,ha _ _ h1,ha _ _ h2,this.2.1,this.2.2];cases p<;>cases q<;>rfl
def OW.pN [Rd]{op:BinOp}{x y:a_}{a b v:ah}{t t2:aY}(h1:ev L x=aa a)(h2:ev L y=aa b)(hg:(eqGuard op t x y a b).run P w= .ok () w)(hr:(binOp op t a b).run P w= .ok v w):
  OW P Qx L ⟨d,.binOp op t x y t2,ty,pos,af,gd⟩ w (λv' w'=>v'=v∧w'=w):=
 OW.run λc hc=>⟨_,w,by simp[execOp,hc _ _ h1,hc _ _ h2,hg,hr],rfl,rfl⟩
def I2 [Rd](hP:dS P T)(hx:Cx U ar γ w sl L ob){op:BinOp}{x y:a_}{p q:Bool}{K K':List Nat}{g g':Nat}{t t2:aY}(ht:aF T.ty t=aa (.one .bool))(ha:eT sl x=aa (.c (.one (.v .bool p K g))))(hb:eT sl y=aa (.c (.one (.v .bool q K' g'))))(h:Q.R ob (Xe op (ar+16) p q) l e):
  OW P Qx L ⟨d,.binOp op t x y t2,ty,pos,af,gd⟩ w (λv w'=>∃γ',dR U ar γ w ob e γ' v w'):=by
 obtain⟨u,h1,h2⟩:=cA hx.sr ha
 obtain⟨v,h3,h4⟩:=cA hx.sr hb
 have e1:u= .bool p:=h2.1
 have e2:v= .bool q:=h4.1
 subst e1 e2
 have hu:P.underlying t=aa .bool:=(hP.ty _ _ ht).2
 unfold Xe at h
 split at h
 ·obtain⟨_,rfl⟩:=h;exact dm (OW.ajt (v:=p==q) hu (.inl ⟨rfl,rfl⟩) h1 h3) (eo hx rfl)
 ·obtain⟨_,rfl⟩:=h;exact dm (OW.ajt (v:= !(p==q)) hu (.inr ⟨rfl,rfl⟩) h1 h3) (eo hx rfl)
 ·exact h.elim
def aCh [Rd](hx:Cx U ar γ w sl L ob){op:BinOp}{x y:a_}{k k':IntKind}{p q:Int}{t t2:aY}(h1:ev L x=aa (.int k p))(h3:ev L y=aa (.int k' q))(h:Q.R ob (Xd op (ar+16) k k' p q) l e):
  OW P Qx L ⟨d,.binOp op t x y t2,ty,pos,af,gd⟩ w (λv w'=>∃γ',dR U ar γ w ob e γ' v w'):=by
 unfold Xd at h
 split at h
 ·obtain⟨c,hc,_,rfl⟩:=h;exact dm (OW.shr h1 h3 hc) (eo hx rfl)
 ·split at h
  case isFalse=>exact h.elim
  rename_i hk;subst hk;split at h
  ·obtain⟨_,rfl⟩:=h;exact dm (OW.pN (v:= .int k (k.wrap (p+q))) h1 h3 (by simp[eqGuard]) (by simp[binOp,Op.intArith])) (eo hx rfl)
  ·obtain⟨_,rfl⟩:=h;exact dm (OW.pN (v:= .int k (k.wrap (p-q))) h1 h3 (by simp[eqGuard]) (by simp[binOp,Op.intArith])) (eo hx rfl)
  ·obtain⟨_,rfl⟩:=h;exact dm (OW.pN (v:= .int k (k.wrap (p*q))) h1 h3 (by simp[eqGuard]) (by simp[binOp,Op.intArith])) (eo hx rfl)
  ·obtain⟨_,rfl⟩:=h;exact dm (OW.pN (v:= .int k (Ts k p q)) h1 h3 (by simp[eqGuard]) (by simp[binOp,Op.intBits,Ts])) (eo hx rfl)
  ·obtain⟨_,rfl⟩:=h;exact dm (OW.pN (v:= .bool (p==q)) h1 h3 (by simp[eqGuard]) (by simp[binOp,Op.intCmp])) (eo hx rfl)
  ·obtain⟨_,rfl⟩:=h;exact dm (OW.pN (v:= .bool (p !=q)) h1 h3 (by simp[eqGuard]) (by simp[binOp,Op.intCmp])) (eo hx rfl)
  ·obtain⟨_,rfl⟩:=h;exact dm (OW.pN (v:= .bool (al (p<q))) h1 h3 (by simp[eqGuard]) (by simp[binOp,Op.intCmp])) (eo hx rfl)
  ·obtain⟨_,rfl⟩:=h;exact dm (OW.pN (v:= .bool (al (p<=q))) h1 h3 (by simp[eqGuard]) (by simp[binOp,Op.intCmp])) (eo hx rfl)
  ·obtain⟨_,rfl⟩:=h;exact dm (OW.pN (v:= .bool (al (p>q))) h1 h3 (by simp[eqGuard]) (by simp[binOp,Op.intCmp])) (eo hx rfl)
  ·obtain⟨_,rfl⟩:=h;exact dm (OW.pN (v:= .bool (al (p>=q))) h1 h3 (by simp[eqGuard]) (by simp[binOp,Op.intCmp])) (eo hx rfl)
  ·exact h.elim
def aam(a b:ByteArray):(a.toList==b.toList)=C0 a b:=by
 rw[Bool.eq_iff_iff];show(a.toList==b.toList)=ab↔(a==b)=ab;have hb:∀p q:ByteArray,(p==q)=ab↔p=q:=λ⟨a⟩ ⟨b⟩=>by show(a==b)=ab↔_;simp
 rw[xw,hb,ByteArray.toList_eq,ByteArray.toList_eq];constructor
 ·intro h;exact ByteArray.ext (Array.toList_inj.mp h)
 ·rintro rfl;rfl
def anF [Rd](hx:Cx U ar γ w sl L ob){op:BinOp}{x y:a_}{p q:ByteArray}{t t2:aY}(h1:ev L x=aa (.string p))(h3:ev L y=aa (.string q))(h:Q.R ob (QO op (ar+16) p q) l e):
  OW P Qx L ⟨d,.binOp op t x y t2,ty,pos,af,gd⟩ w (λv w'=>∃γ',dR U ar γ w ob e γ' v w'):=by
 unfold QO at h
 split at h
 ·obtain⟨c,hc,_,rfl⟩:=h;unfold KT at hc;split at hc
  case isFalse=>cases hc
  rename_i hs;cases hc;have h':¬(9223372036854775807<((p.size:Int)+(q.size:Int))):=by omega
  exact dm (OW.pN (v:= .string (p++q)) h1 h3 (by simp[eqGuard]) (by simp[binOp,Op.stringOp,h'])) (eo hx rfl)
 ·obtain⟨_,rfl⟩:=h;exact dm (OW.pN (v:= .bool (C0 p q)) h1 h3 (by simp[eqGuard]) (by rw[<-aam];simp[binOp,Op.stringOp])) (eo hx rfl)
 ·obtain⟨_,rfl⟩:=h;exact dm (OW.pN (v:= .bool (!(C0 p q))) h1 h3 (by simp[eqGuard]) (by rw[<-aam];simp[binOp,Op.stringOp];try rfl)) (eo hx rfl)
 ·exact h.elim
def aCg [Rd](hx:Cx U ar γ w sl L ob){op:BinOp}{x y:a_}{a b:AV D}{t t2:aY}(ha:eT sl x=aa a)(hb:eT sl y=aa b)(h:Q.R ob (Xc op (ar+16) a b) l e):
  OW P Qx L ⟨d,.binOp op t x y t2,ty,pos,af,gd⟩ w (λv w'=>∃γ',dR U ar γ w ob e γ' v w'):=by
 unfold Xc at h
 split at h
 ·rename_i k p K g k' q K' g';obtain⟨u,h1,h2⟩:=cA hx.sr ha;obtain⟨v,h3,h4⟩:=cA hx.sr hb;have e1:u= .int k p:=h2.1;have e2:v= .int k' q:=h4.1;subst e1 e2;split at h
  ·split at h
   case h_4=>obtain⟨c,hc,_,rfl⟩:=h;exact dm (OW.quo h1 h3 hc) (eo hx rfl)
   case h_5=>obtain⟨c,hc,_,rfl⟩:=h;exact dm (OW.rem h1 h3 hc) (eo hx rfl)
   case h_12=>obtain⟨c,hc,_,rfl⟩:=h;exact dm (OW.shr h1 h3 hc) (eo hx rfl)
   all_goals first
    |exact h.elim
    |(obtain⟨_,rfl⟩:=h
      refine dm (OW.pv (v:= ?_) ?_) (eo hx ?_)
      rotate_left
      ·simp only[Dp.pv,h1,h3,bin];rfl
      ·rfl)
  ·exact aCh hx h1 h3 h
 ·rename_i p K g q K' g';obtain⟨u,h1,h2⟩:=cA hx.sr ha;obtain⟨v,h3,h4⟩:=cA hx.sr hb;have e1:u= .string p:=h2.1;have e2:v= .string q:=h4.1;subst e1 e2;exact anF hx h1 h3 h
 ·exact h.elim
def NI:∀{cs:List (A1 D)} {us:List ah} {ks:List (DV D)},Eu cs=aa ks->db U γ w cs us->cn (λ_=>True) w us ks
 |[],us,ks,h,hv=>by
  cases h;cases us with
  |nil=>trivial
  |cons _ _=>exact hv.elim
 |a::cs,us,ks,h,hv=>by
  cases us with
  |nil=>exact hv.elim
  |cons u us=>
   unfold Eu at h;split at h
   ·rename_i i_;cases i_
   ·rename_i lf x K g r i_;cases i_;split at h
    case h_2=>cases h
    rename_i ks' jG;cases h;exact⟨hv.1.1.mono λ_ _ _=>⟨trivial,rfl⟩,NI jG hv.2⟩
   ·cases h
def Jj{S:Nat->Prop}:∀{vs:List ah} {ks:List (DV D)},cn S w vs ks->(ks.map DV.l).all jJ=ab->iR (ks.map DV.l) vs
 |[],[],_,_=>trivial
 |v::vs,⟨l,x⟩::ks,h,hf=>by
  simp only[gz,List.all_cons,bt]at hf;refine⟨?_,Jj h.2 hf.2⟩;cases l with
  |int k=>exact⟨x,h.1⟩
  |bool=>exact⟨x,h.1⟩
  |str=>exact⟨x,h.1⟩
  |sl n=>cases hf.1
 |[],_::_,h,_=>h.elim
 |_::_,[],h,_=>h.elim
def aeS{S S':Nat->Prop}{w':ay}{u v:ah}{x y:DV D}(hu:dD S w u x)(hv:dD S' w' v y)(hl:x.l=y.l)(hf:jJ x.l=ab):Bw x y=ab↔u=v:=by
 obtain⟨l,x⟩:=x;obtain⟨l',y⟩:=y;dsimp only at hl;subst hl;cases l with
 |int k=>have e1:u= .int k x:=hu;have e2:v= .int k y:=hv;subst e1 e2;simp[Bw,Mr]
 |bool=>have e1:u= .bool x:=hu;have e2:v= .bool y:=hv;subst e1 e2;simp[Bw,beq']
 |str=>
  have e1:u= .string x:=hu;have e2:v= .string y:=hv;subst e1 e2;show(x==y)=ab↔_;rw[show(ah.string x=ah.string y)=(x=y)from by simp];clear hu hv hf;have:∀p q:ByteArray,(p==q)=ab↔p=q:=λ⟨a⟩ ⟨b⟩=>by show(a==b)=ab↔_;simp
  exact this x y
 |sl n=>cases hf
def aeR{S S':Nat->Prop}{w':ay}:∀{us vs:List ah} {xs ys:List (DV D)},cn S w us xs->cn S' w' vs ys->xs.map DV.l=ys.map DV.l->(xs.map DV.l).all jJ=ab->(uy xs ys=ab↔us=vs)
 |[],[],[],[],_,_,_,_=>by simp[uy]
 |u::us,v::vs,x::xs,y::ys,h,h',hk,hf=>by
  simp only[gz,List.cons.injEq]at hk;simp only[gz,List.all_cons,bt]at hf;have e1:=aeS h.1 h'.1 hk.1 hf.1;have ih:=aeR h.2 h'.2 hk.2 hf.2;cases xs with
  |nil=>
   have hy:ys=[]:=by
    have:=hk.2;cases ys with
    |nil=>rfl
    |cons _ _=>simp at this
   subst hy;have h1:us=[]:=by cases us with|nil=>rfl|cons _ _=>exact h.2.elim
   have h2:vs=[]:=by cases vs with|nil=>rfl|cons _ _=>exact h'.2.elim
   subst h1 h2;simp only[uy,e1];simp
  |cons x' xs=>simp only[uy,O3,bt,e1];rw[ih];simp
 |[],_::_,[],[],_,h',_,_=>h'.elim
 |[],_,_::_,_,h,_,_,_=>h.elim
 |_::_,_,[],_,h,_,_,_=>h.elim
 |_,[],_,_::_,_,h',_,_=>h'.elim
 |_,_::_,_,[],_,h',_,_=>h'.elim
def axt{t:aY}{ls:List Lf}{us vs:List ah}{xs ys:List (DV D)}(hE:B1 P t ls)(hf:ls.all jJ=ab)(hx:cn (λ_=>True) w us xs)(hy:cn (λ_=>True) w vs ys)(h1:xs.map DV.l=ls)(h2:ys.map DV.l=ls):(Op.equal t (.agg us.toArray) (.agg vs.toArray)).run P w= .ok (uy xs ys) w:=by obtain⟨k,hk,hE⟩:=hE.eq;have c1:=Jj hx (by rw[h1];exact hf);have c2:=Jj hy (by rw[h2];exact hf);rw[h1]at c1;rw[h2]at c2;obtain⟨r,e1,e2⟩:=hE (10000-k) w us vs c1 c2;rw[show 10000-k+k=10000 by omega]at e1;have e3:uy xs ys=r:=Bool.eq_iff_iff.2 ((aeR hx hy (h1.trans h2.symm) (by rw[h1];exact hf)).trans e2.symm);rw[e3];exact e1
def axu [Rd](hP:dS P T)(hx:Cx U ar γ w sl L ob){op:BinOp}{x y:a_}{p q:List (A1 D)}{t t2:aY}{n:List Lf}(ht:aF T.Bs t=aa n)(ha:eT sl x=aa (.c (.agg p)))(hb:eT sl y=aa (.c (.agg q)))(h:Q.R ob (Vl op (ar+16) n p q) l e):
  OW P Qx L ⟨d,.binOp op t x y t2,ty,pos,af,gd⟩ w (λv w'=>∃γ',dR U ar γ w ob e γ' v w'):=by
 unfold Vl at h
 split at h
 case h_2=>exact h.elim
 rename_i xs ys eH nH
 split at h
 case isFalse=>exact h.elim
 rename_i hc
 obtain⟨u,h1,us,rfl,h2⟩:=cA hx.sr ha
 obtain⟨v,h3,vs,rfl,h4⟩:=cA hx.sr hb
 have e1:=NI eH h2
 have e2:=NI nH h4
 obtain⟨hE,hf⟩:=hP.Bs t n ht
 have fy:=axt hE hf e1 e2 hc.1 hc.2
 split at h
 ·obtain⟨_,rfl⟩:=h;refine dm (v:= .bool (uy xs ys)) (OW.run λa ha=>⟨_,w,?_,rfl,rfl⟩) (eo hx rfl);simp[execOp,ha _ _ h1,ha _ _ h3,eqGuard,hE.guard,binOp,fy]
 ·obtain⟨_,rfl⟩:=h;refine dm (v:= .bool (!(uy xs ys))) (OW.run λa ha=>⟨_,w,?_,rfl,rfl⟩) (eo hx rfl);simp[execOp,ha _ _ h1,ha _ _ h3,eqGuard,hE.guard,binOp,fy]
 ·exact h.elim
