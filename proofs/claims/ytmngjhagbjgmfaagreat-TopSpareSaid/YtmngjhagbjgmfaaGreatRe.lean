import Derived.Test.YtmngjhagbjgmfaaGreatRb
set_option linter.all false
open Array renaming getElem?_eq_some_iff->jx
open Bool renaming and_eq_true->bq,false->ai,true->ab
open ByteArray renaming empty->tq
open Decidable renaming decide->ak
open Go renaming MapEntry->gI,Operand->aZ,Program->cP,TypeId->aX,Value->ah,World->ax
open List renaming append_assoc->d_,ext_getElem?->xv,getElem?_eq_some_iff->gH,getElem?_set->oV,map_cons->gu,mem_append->bz,mem_cons->cr,mem_map->dC
open Nat renaming beq->aT,eq_of_beq_eq_true->bA,le_refl->bw
open Option renaming some->aa
open Option.some renaming injEq->fC
open Prod.mk renaming injEq->v7
namespace Go.Proofs.YtmngjhagbjgmfaaGreat
open Go Go.RowKit Dp
namespace Rx
section
variable {D:Nat->Type} [∀n,ad (D n)]
def dA(S:Nat->Prop)(w:ax)(v:ah):DV D->Prop
 |⟨.int k,d⟩=>v= .int k d
 |⟨.bool,d⟩=>v= .bool d
 |⟨.str,d⟩=>v= .string d
 |⟨.sl n,d⟩=>Rv S w v (d:List (D n))
def cm(S:Nat->Prop)(w:ax):List ah->List (DV D)->Prop
 |[],[]=>True
 |v::vs,d::ds=>dA S w v d∧cm S w vs ds
 |_,_=>False
def v_:List Lf->List ah
 |[]=>[]
 |l::r=>(match l with| .int k=> .int k 0| .bool=> .bool ai| .str=> .string tq| .sl _=> .slice none 0 0)::v_ r
structure cE(T:bb D):Prop where
 sz:∀n,ad.sz (D n)=(T.lv n).length
 ag:∀n,ad.agg (D n)=T.ag n
 zc:∀n,ad.zc (D n)=v_ (T.lv n)
 zero:∀n,(ad.zero:D n)=T.zero n
 rd:∀n S w cs (x:D n),ad.rd S w cs x↔cm S w cs (T.out n x)
 uo:∀n,(T.lv n).length<=112
 LS:∀n h,T.C_ n (T.Ae n h)=h
def dA.mono{S S':Nat->Prop}{w w':ax}(hm:∀b,S b->b<w.heap.size->S' b∧w'.heap[b]? =w.heap[b]?){v:ah}:∀{d:DV D},dA S w v d->dA S' w' v d
 |⟨.int k,d⟩,h=>h
 |⟨.bool,d⟩,h=>h
 |⟨.str,d⟩,h=>h
 |⟨.sl n,d⟩,h=>Rv.mono hm h
def dA.flat{S S':Nat->Prop}{w w':ax}{v:ah}:∀{d:DV D},jG d.l=ab->dA S w v d->dA S' w' v d
 |⟨.int k,d⟩,_,h=>h
 |⟨.bool,d⟩,_,h=>h
 |⟨.str,d⟩,_,h=>h
 |⟨.sl n,d⟩,h,_=>by cases h
def cm.flat{S S':Nat->Prop}{w w':ax}:∀{vs:List ah} {ds:List (DV D)},(ds.map DV.l).all jG=ab->cm S w vs ds->cm S' w' vs ds
 |[],[],_,_=>trivial
 |v::vs,d::ds,hf,h=>by simp only[gu,List.all_cons,bq]at hf;exact⟨h.1.flat hf.1,cm.flat hf.2 h.2⟩
 |[],_::_,_,h=>h.elim
 |_::_,[],_,h=>h.elim
def Sn:∀(ts:List Lf) (h:HL D ts),(tN ts h).map DV.l=ts
 |[],_=>rfl
 |[l],x=>rfl
 |l::m::r,x=>by simp only[tN,gu,Sn (m::r) x.2]
theorem cE.flat{T:bb D}(hR:cE T){n:Nat}(h:(T.lv n).all jG=ab):Flat (D n):=⟨λ{S S' w w' cs x} hr=>(hR.rd n S' w' cs x).2 (cm.flat (by rw[bb.out,Sn];exact h) ((hR.rd n S w cs x).1 hr))⟩
def cm.mono{S S':Nat->Prop}{w w':ax}(hm:∀b,S b->b<w.heap.size->S' b∧w'.heap[b]? =w.heap[b]?):∀{vs:List ah} {ds:List (DV D)},cm S w vs ds->cm S' w' vs ds
 |[],[],_=>trivial
 |v::vs,d::ds,h=>⟨h.1.mono hm,cm.mono hm h.2⟩
 |[],_::_,h=>h.elim
 |_::_,[],h=>h.elim
def dA.one{S:Nat->Prop}{w:ax}{v:ah}:∀{d:DV D},dA S w v d->v.oneCell'=ab
 |⟨.int k,d⟩,h=>by cases h;rfl
 |⟨.bool,d⟩,h=>by cases h;rfl
 |⟨.str,d⟩,h=>by cases h;rfl
 |⟨.sl n,d⟩,h=>Rv.one (α:=List (D n)) h rfl
def cm.length{S:Nat->Prop}{w:ax}:∀{vs:List ah} {ds:List (DV D)},cm S w vs ds->vs.length=ds.length
 |[],[],_=>rfl
 |v::vs,d::ds,h=>by simp[cm.length h.2]
 |[],_::_,h=>h.elim
 |_::_,[],h=>h.elim
def cm.append{S:Nat->Prop}{w:ax}:∀{vs:List ah} {ds:List (DV D)} {us:List ah} {es:List (DV D)},cm S w vs ds->cm S w us es->cm S w (vs++us) (ds++es)
 |[],[],_,_,_,h=>h
 |v::vs,d::ds,_,_,h,h'=>⟨h.1,cm.append h.2 h'⟩
 |[],_::_,_,_,h,_=>h.elim
 |_::_,[],_,_,h,_=>h.elim
def cm.take{S:Nat->Prop}{w:ax}:∀{vs:List ah} {ds:List (DV D)},cm S w vs ds->∀k,cm S w (vs.take k) (ds.take k)
 |_,_,_,0=>by simp[cm]
 |[],[],_,k+1=>trivial
 |v::vs,d::ds,h,k+1=>⟨h.1,cm.take h.2 k⟩
 |[],_::_,h,_=>h.elim
 |_::_,[],h,_=>h.elim
def cm.drop{S:Nat->Prop}{w:ax}:∀{vs:List ah} {ds:List (DV D)},cm S w vs ds->∀k,cm S w (vs.drop k) (ds.drop k)
 |_,_,h,0=>by simpa using h
 |[],[],_,k+1=>trivial
 |v::vs,d::ds,h,k+1=>by simpa using cm.drop h.2 k
 |[],_::_,h,_=>h.elim
 |_::_,[],h,_=>h.elim
def Sl:∀{ts:List Lf} {ds:List (DV D)} {h:HL D ts},toHL ts ds=aa h->tN ts h=ds
 |[],[],h,e=>rfl
 |[],_::_,h,e=>by simp[toHL]at e
 |[l],[],h,e=>by simp[toHL]at e
 |[l],[⟨l',d⟩],h,e=>by
  simp only[toHL]at e;by_cases hl:l'=l
  ·subst hl;simp only[dif_pos]at e;cases e;rfl
  ·simp[hl]at e
 |[l],_::_::_,h,e=>by simp[toHL]at e
 |l::m::r,[],h,e=>by simp[toHL]at e
 |l::m::r,⟨l',d⟩::rI,h,e=>by
  rw[toHL]at e;by_cases hl:l'=l
  ·subst hl;simp only[dif_pos]at e;cases hx:toHL (m::r) rI with
   |none=>rw[hx]at e;cases e
   |some x=>rw[hx]at e;cases e;simp only[tN,Sl hx]
  ·simp[hl]at e
variable {T:bb D}
def cE.iU{n:Nat}{ds:List (DV D)}{x:D n}(hR:cE T)(h:T.iU n ds=aa x):T.out n x=ds:=by
 unfold bb.iU at h;split at h
 ·rename_i y hy;cases h;rw[bb.out,hR.LS,Sl hy]
 ·cases h
def abg{D:Nat->Type}:∀(ts:List Lf) (h:HL D ts),(tN ts h).length=ts.length
 |[],_=>rfl
 |[l],x=>rfl
 |l::m::r,x=>by simp[tN,abg (m::r) x.2]
def Ly(T:bb D)(n:Nat)(x:D n):(T.out n x).length=(T.lv n).length:=abg _ _
def abf(hR:cE T):∀{t:Ht} {ds rI:List (DV D)} {x:t.den D},xB T t ds=aa (x,rI)->ds=LI T t x++rI
 | .lf l,[],rI,x,e=>by simp[xB]at e
 | .lf l,⟨l',d⟩::r,rI,x,e=>by
   simp only[xB]at e;by_cases hl:l'=l
   ·subst hl;simp only[dif_pos,fC,v7]at e;obtain⟨rfl,rfl⟩:=e;rfl
   ·simp[hl]at e
 | .el n,ds,rI,x,e=>by
   simp only[xB]at e;cases hy:T.iU n (ds.take (T.lv n).length)with
   |none=>simp[hy]at e
   |some y=>simp only[hy,fC,v7]at e;obtain⟨rfl,rfl⟩:=e;rw[LI,hR.iU hy,List.take_append_drop]
def abh(hR:cE T):∀{ts:List Ht} {ds:List (DV D)} {h:HH D ts},toHH T ts ds=aa h->dE T ts h=ds
 |[],[],h,e=>rfl
 |[],_::_,h,e=>by simp[toHH]at e
 |[t],ds,h,e=>by
  rw[toHH]at e;cases hx:xB T t ds with
  |none=>simp[hx]at e
  |some y=>
   obtain⟨x,r⟩:=y;cases r with
   |nil=>simp only[hx]at e;cases e;have:=abf hR hx;simp[dE,this]
   |cons _ _=>simp[hx]at e
 |t::m::r,ds,h,e=>by
  rw[toHH]at e;cases hx:xB T t ds with
  |none=>simp[hx]at e
  |some y=>
   obtain⟨x,rI⟩:=y;rw[hx]at e;dsimp only at e;cases hy:toHH T (m::r) rI with
   |none=>rw[hy]at e;cases e
   |some z=>rw[hy]at e;cases e;have:=abf hR hx;simp only[dE,abh hR hy,this]
structure Gh(D:Nat->Type)where
 o:cA
 g:Nat->ah
 v:Nat->DV D
def eh(K:List Nat):Prop:=∀x∈K,x<2
def named(U:Nat->Prop)(γ:Gh D)(t:Nat)(d:DV D):Prop:=t=0∨(U t∧γ.v t=d)
def fN(b off:Nat):ah:= .pointer (aa ⟨b,off,none⟩)
def w7(v:ah)(b:Nat):Bool:=match v with
 | .slice (aa a) _ _=>aT a.block b
 |_=>ai
def lr(o:cA)(i:Nat)(v:ah):cA:=λb=>if o b=i then(if w7 v b then 0 else 1)else 2
def PK(γ:Gh D)(w:ax)(i h:Nat):Prop:=∃cells:Array ah,γ.g h= .agg cells∧∀(b n c q:Nat),γ.g i= .slice (aa ⟨b,0,none⟩) n c->w.cell? ⟨b,q,none⟩=cells[q]?
def xg(f:Nat)(cs:List ah):ah:=if Nat.blt f 1000000=ab then .func (.func f) #[] cs.toArray else .func (.func (f-1000000)) cs.toArray #[]
def awi(f:Nat)(cs:List ah):(xg f cs).oneCell'=ab:=by unfold xg;split<;>rfl
def S8:ah->Bool
 | .slice none _ _=>ab
 |_=>ai
def rQ(U:Nat->Prop)(γ:Gh D)(w:ax):A0 D->ah->Prop
 | .ptr i off,v=>U i∧∃b,γ.g i=fN b 0∧v=fN b off
 | .rp n x off K,v=>∃pa:Addr,v= .pointer (aa (pa.add off))∧xo (In γ.o K) w pa x∧eh K
def nl(U:Nat->Prop)(γ:Gh D)(w:ax):List (A0 D)->List ah->Prop
 |[],[]=>True
 |a::as,v::vs=>rQ U γ w a v∧nl U γ w as vs
 |_,_=>False
def fR(U:Nat->Prop)(γ:Gh D)(w:ax):A1 D->ah->Prop
 | .v l d K t,v=>dA (In γ.o K) w v ⟨l,d⟩∧named U γ t ⟨l,d⟩∧eh K
 | .ptr i off,v=>U i∧∃b,γ.g i=fN b 0∧v=fN b off
 | .el i n j y off tc tj,v=>U i∧(tc≠0∧U tc)∧(∃xs:List (D n),γ.v tc=⟨.sl n,xs⟩∧idx xs j=aa y)∧named U γ tj ⟨.int .i64,j⟩∧
     ∃b f len cap,γ.g i= .slice (aa ⟨b,f,none⟩) len cap∧v=fN b (f+(j.toNat*ad.sz (D n)+off))
 | .rp n x off K,v=>∃pa:Addr,v= .pointer (aa (pa.add off))∧xo (In γ.o K) w pa x∧eh K
 | .vb n xs K t b,v=>(Rv (In γ.o K) w v xs∧named U γ t ⟨.sl n,xs⟩∧eh K)∧b=S8 v
 | .own i,v=>U i∧v=γ.g i∧v.oneCell'=ab
 | .fn f jc,v=>∃cs:List ah,v=xg f cs∧nl U γ w jc cs
 | .ch i n j off ct m d,v=>U i∧(ct≠0∧U ct)∧(∃(xs:List (D n)) (y:D n),γ.v ct=⟨.sl n,xs⟩∧idx xs j=aa y∧∀(S:Nat->Prop) (w:ax) (cs:List ah),ad.rd S w cs y->∃u,cs[off]? =aa u∧Rv S w u d)∧
     (∃b len cap cells,γ.g i= .slice (aa ⟨b,0,none⟩) len cap∧γ.g ct= .agg cells∧cells[j.toNat*ad.sz (D n)+off]? =aa v)∧∃p c,v= .slice p d.length c
 | .yT i t,v=>U i∧U t∧v=γ.g t∧v.oneCell'=ab
 | .tail i n j,v=>U i∧(0<=j∧BO (ad.sz (D n)) (γ.g i) v j.toNat)
 | .pre i n j,v=>U i∧PE (γ.g i) v j.toNat
 | .uy n xs K,v=>(∃aJ,v= .agg aJ.flatten.toArray∧cn (ad.rd (In γ.o K) w) aJ xs)∧eh K
 | .bE,v=>v= .slice none 0 0
 | .ss,v=>v= .pointer none
 | .Dd,v=>v= .nilFunc
 | .undef,v=>v=undef
 | .zz,_=>True
 | .wL,v=>v.oneCell'=ab
def c_(U:Nat->Prop)(γ:Gh D)(w:ax):List (A1 D)->List ah->Prop
 |[],[]=>True
 |a::as,v::vs=>fR U γ w a v∧c_ U γ w as vs
 |_,_=>False
def nk(U:Nat->Prop)(γ:Gh D)(w:ax):AC D->ah->Prop
 | .one a,v=>fR U γ w a v
 | .agg l,v=>∃us:List ah,v= .agg us.toArray∧c_ U γ w l us
def jf(U:Nat->Prop)(γ:Gh D)(w:ax):List (AC D)->List ah->Prop
 |[],[]=>True
 |a::as,v::vs=>nk U γ w a v∧jf U γ w as vs
 |_,_=>False
def gF(U:Nat->Prop)(γ:Gh D)(w:ax):AV D->ah->Prop
 | .c x,v=>nk U γ w x v
 | .dV l,v=>∃us:List ah,v= .tuple us.toArray∧jf U γ w l us
def nj(U:Nat->Prop)(γ:Gh D)(w:ax):List (AV D)->List ah->Prop
 |[],[]=>True
 |a::as,v::vs=>gF U γ w a v∧nj U γ w as vs
 |_,_=>False
def SR(U:Nat->Prop)(γ:Gh D)(w:ax)(sl:List (Nat×AV D))(L:List (Nat×ah)):Prop:=∀t a,aE sl t=aa a->∃v,Dp.look L t=aa v∧gF U γ w a v
def gm:List ah->ah
 |[u]=>u
 |l=> .agg l.toArray
def jL{α:Type}(R:gI->α->Prop):List gI->List α->Prop
 |[],[]=>True
 |e::es,x::xs=>R e x∧jL R es xs
 |_,_=>False
def jL.mono{α:Type}{R R':gI->α->Prop}(hr:∀e x,R e x->R' e x):∀{es:List gI} {xs:List α},jL R es xs->jL R' es xs
 |[],[],_=>trivial
 |_::_,_::_,h=>⟨hr _ _ h.1,jL.mono hr h.2⟩
 |[],_::_,h=>h.elim
 |_::_,[],h=>h.elim
def uB(es:List gI)(clock:Nat):Prop:=(∀e∈es,e.born<clock)∧(es.map (·.born)).Nodup
def rR{α:Type}[ad α](o:cA)(i:Nat)(w:ax)(v:ah)(xs:List α):Prop:=∃(r:Nat) (es:Array gI) (clock:Nat),v= .map (aa r)∧o r=i∧w.heap[r]? =aa (.map es clock)∧
 es.toList.Pairwise (λa b=>a.key≠b.key)∧jL (λe x=>∃ks:List ah,e.key=gm ks∧ad.rd (λ_=>False) w (ks++[e.val]) x) es.toList xs∧uB es.toList clock
def rR.mono{α:Type}[ad α]{o o':cA}{i i':Nat}{w w':ax}{v:ah}{xs:List α}(h:rR o i w v xs)(hb:∀b,b<w.heap.size->o b=i->o' b=i'∧w'.heap[b]? =w.heap[b]?):rR o' i' w' v xs:=by obtain⟨r,es,clock,h1,h2,h3,h4,h5,h6⟩:=h;obtain⟨e1,e2⟩:=hb r (jx.1 h3).1 h2;exact⟨r,es,clock,h1,e1,by rw[e2];exact h3,h4,h5.mono λe x ⟨ks,k1,k2⟩=>⟨ks,k1,ad.mono (λb hb _=>hb.elim) k2⟩,h6⟩
def OR(U:Nat->Prop)(γ:Gh D)(w:ax)(i:Nat):AO D->Prop
 | .box cs=>∃(b:Nat) (us:List ah) (t:aX),γ.g i=fN b 0∧γ.o b=i∧w.heap[b]? =aa (.cells us.toArray t (0,0))∧c_ U γ w cs us∧cs.all storable=ab
 | .sl n t xs K g=>Ow t γ.o i K w (γ.g i) xs∧eh K∧named U γ g ⟨.sl n,xs⟩
 | .cX n t tc m xs g h=>j6 (ad.sz (D m)) t tc (lr γ.o i (γ.g i)) 0 1 w (γ.g i) xs∧named U γ g ⟨.sl n,xs⟩∧(h=0∨(U h∧γ.v h=⟨.sl n,xs⟩∧PK γ w i h))
 | .im n t tc m xs j off s g=>named U γ g ⟨.sl n,xs⟩∧U s∧∃b len cap,γ.g i= .slice (aa ⟨b,0,none⟩) len cap∧ze (ad.sz (D m)) t tc (lr γ.o i (γ.g i)) 0 1 w (γ.g i) xs ⟨b,j.toNat*ad.sz (D n)+off,none⟩ (γ.g s)
 | .fz n xs K=>Rv (In γ.o K) w (γ.g i) xs∧eh K
 | .mp n xs=>rR γ.o i w (γ.g i) xs
structure OB(U:Nat->Prop)(γ:Gh D)(w:ax)(ob:List (Nat×Option (AO D))):Prop where
 ob:∀i x,dt ob i=aa x->1000<=i∧U i∧OR U γ w i x
 cl:∀b,b<w.heap.size->U (γ.o b)
 ro:∀x,x<2000->U x
structure Frame0(γ:Gh D)(w:ax)(γ':Gh D)(w':ax):Prop where
 os:w'.os=w.os
 tape:w'.tape=w.tape
 output:w'.output=w.output
 size:w.heap.size<=w'.heap.size
 ro:∀b,b<w.heap.size->(γ.o b=0∨γ.o b=3)->γ'.o b=γ.o b∧w'.heap[b]? =w.heap[b]?
 back:∀b,b<w'.heap.size->(γ'.o b=0∨γ'.o b=3)->b<w.heap.size∧γ.o b=γ'.o b
structure Frame(γ:Gh D)(w:ax)(γ':Gh D)(w':ax):Prop extends Frame0 γ w γ' w' where
 gk:∀i,i<2000->γ'.g i=γ.g i
def Frame0.refl(γ:Gh D)(w:ax):Frame0 γ w γ w:=⟨rfl,rfl,rfl,bw _,λ_ _ _=>⟨rfl,rfl⟩,λ_ h _=>⟨h,rfl⟩⟩
def Frame.refl(γ:Gh D)(w:ax):Frame γ w γ w:=⟨.refl γ w,λ_ _=>rfl⟩
def Frame0.trans{γ aP bf:Gh D}{w w1 w2:ax}(h:Frame0 γ w aP w1)(k:Frame0 aP w1 bf w2):Frame0 γ w bf w2:=by
 refine⟨k.os.trans h.os,k.tape.trans h.tape,k.output.trans h.output,Nat.le_trans h.size k.size,λb hb hc=>?_,λb hb hc=>?_⟩
 ·obtain⟨h1,h2⟩:=h.ro b hb hc;obtain⟨k1,k2⟩:=k.ro b (Nat.lt_of_lt_of_le hb h.size) (by rw[h1];exact hc);exact⟨k1.trans h1,k2.trans h2⟩
 ·obtain⟨k1,k2⟩:=k.back b hb hc;obtain⟨h1,h2⟩:=h.back b k1 (by rw[k2];exact hc);exact⟨h1,h2.trans k2⟩
def Frame.trans{γ aP bf:Gh D}{w w1 w2:ax}(h:Frame γ w aP w1)(k:Frame aP w1 bf w2):Frame γ w bf w2:=⟨h.toFrame0.trans k.toFrame0,λi hi=>(k.gk i hi).trans (h.gk i hi)⟩
structure jg(U U':Nat->Prop)(γ:Gh D)(w:ax)(γ':Gh D)(w':ax):Prop where
 u:∀i,U i->U' i
 g:∀i,U i->γ'.g i=γ.g i
 v:∀i,U i->γ'.v i=γ.v i
 ro:∀b,b<w.heap.size->γ.o b<2->γ'.o b=γ.o b∧w'.heap[b]? =w.heap[b]?
section
variable {U U':Nat->Prop} {γ γ':Gh D} {w w':ax}
def jg.mem(k:jg U U' γ w γ' w'){K:List Nat}(hK:eh K):∀b,In γ.o K b->b<w.heap.size->In γ'.o K b∧w'.heap[b]? =w.heap[b]? :=λb hb aU=>by obtain⟨h1,h2⟩:=k.ro b aU (hK _ hb);exact⟨by unfold In;rw[h1];exact hb,h2⟩
def named.db(k:jg U U' γ w γ' w'){t:Nat}{d:DV D}(h:named U γ t d):named U' γ' t d:=by
 rcases h with h|⟨h1,h2⟩
 ·exact .inl h
 ·exact .inr ⟨k.u _ h1,by rw[k.v _ h1];exact h2⟩
def rQ.db(k:jg U U' γ w γ' w'):∀{a:A0 D} {v:ah},rQ U γ w a v->rQ U' γ' w' a v
 | .ptr i off,v,⟨h,b,h1,h2⟩=>⟨k.u _ h,b,by rw[k.g _ h];exact h1,h2⟩
 | .rp n x off K,v,⟨pa,h1,h2,h3⟩=>⟨pa,h1,h2.mono (k.mem h3),h3⟩
def nl.db(k:jg U U' γ w γ' w'):∀{as:List (A0 D)} {vs:List ah},nl U γ w as vs->nl U' γ' w' as vs
 |[],[],_=>trivial
 |a::as,v::vs,h=>⟨h.1.db k,nl.db k h.2⟩
 |[],_::_,h=>h.elim
 |_::_,[],h=>h.elim
def fR.db(k:jg U U' γ w γ' w'):∀{a:A1 D} {v:ah},fR U γ w a v->fR U' γ' w' a v
 | .v l d K t,v,⟨h1,h2,h3⟩=>⟨h1.mono (k.mem h3),h2.db k,h3⟩
 | .ptr i off,v,⟨h,b,h1,h2⟩=>⟨k.u _ h,b,by rw[k.g _ h];exact h1,h2⟩
 | .el i n j y off tc tj,v,⟨h1,h2,⟨xs,h3,h4⟩,h5,b,f,len,cap,h6,h7⟩=>⟨k.u _ h1,⟨h2.1,k.u _ h2.2⟩,⟨xs,by rw[k.v _ h2.2];exact h3,h4⟩,h5.db k,b,f,len,cap,by rw[k.g _ h1];exact h6,h7⟩
 | .rp n x off K,v,⟨pa,h1,h2,h3⟩=>⟨pa,h1,h2.mono (k.mem h3),h3⟩
 | .vb n xs K t b,v,⟨⟨h1,h2,h3⟩,h4⟩=>⟨⟨dA.mono (d:=⟨.sl n,xs⟩) (k.mem h3) h1,h2.db k,h3⟩,h4⟩
 | .own i,v,⟨h,h1,h2⟩=>⟨k.u _ h,by rw[k.g _ h];exact h1,h2⟩
 | .fn f jc,v,⟨cs,h1,h2⟩=>⟨cs,h1,h2.db k⟩
 | .ch i n j off ct m d,v,⟨h1,h2,⟨xs,y,h3,h4⟩,⟨b,len,cap,cells,h5,h6,h7⟩,h8⟩=>⟨k.u _ h1,⟨h2.1,k.u _ h2.2⟩,⟨xs,y,by rw[k.v _ h2.2];exact h3,h4⟩,⟨b,len,cap,cells,by rw[k.g _ h1];exact h5,by rw[k.g _ h2.2];exact h6,h7⟩,h8⟩
 | .yT i t,v,⟨h1,h2,h3,h4⟩=>⟨k.u _ h1,k.u _ h2,by rw[k.g _ h2];exact h3,h4⟩
 | .tail i n j,v,⟨h1,h2⟩=>⟨k.u _ h1,by rw[k.g _ h1];exact h2⟩
 | .pre i n j,v,⟨h1,h2⟩=>⟨k.u _ h1,by rw[k.g _ h1];exact h2⟩
 | .uy n xs K,v,⟨⟨aJ,h1,h2⟩,h3⟩=>⟨⟨aJ,h1,h2.mono λ_ _=>ad.mono (k.mem h3)⟩,h3⟩
 | .bE,v,h=>h
 | .ss,v,h=>h
 | .Dd,v,h=>h
 | .undef,v,h=>h
 | .zz,v,h=>h
 | .wL,v,h=>h
def c_.db(k:jg U U' γ w γ' w'):∀{as:List (A1 D)} {vs:List ah},c_ U γ w as vs->c_ U' γ' w' as vs
 |[],[],_=>trivial
 |a::as,v::vs,h=>⟨h.1.db k,c_.db k h.2⟩
 |[],_::_,h=>h.elim
 |_::_,[],h=>h.elim
def nk.db(k:jg U U' γ w γ' w'):∀{a:AC D} {v:ah},nk U γ w a v->nk U' γ' w' a v
 | .one a,v,h=>fR.db k h
 | .agg l,v,⟨us,h1,h2⟩=>⟨us,h1,h2.db k⟩
def jf.db(k:jg U U' γ w γ' w'):∀{as:List (AC D)} {vs:List ah},jf U γ w as vs->jf U' γ' w' as vs
 |[],[],_=>trivial
 |a::as,v::vs,h=>⟨h.1.db k,jf.db k h.2⟩
 |[],_::_,h=>h.elim
 |_::_,[],h=>h.elim
def gF.db(k:jg U U' γ w γ' w'):∀{a:AV D} {v:ah},gF U γ w a v->gF U' γ' w' a v
 | .c x,v,h=>nk.db k h
 | .dV l,v,⟨us,h1,h2⟩=>⟨us,h1,h2.db k⟩
def SR.db(k:jg U U' γ w γ' w'){sl:List (Nat×AV D)}{L:List (Nat×ah)}(h:SR U γ w sl L):SR U' γ' w' sl L:=λt a e=>by obtain⟨v,h1,h2⟩:=h t a e;exact⟨v,h1,h2.db k⟩
def Dm{o:cA}{i:Nat}{v:ah}{b:Nat}(h:lr o i v b=0):o b=i∧w7 v b=ab:=by
 unfold lr at h;split at h
 ·rename_i ho;split at h
  ·rename_i hh;exact⟨ho,hh⟩
  ·cases h
 ·cases h
def Dl{o:cA}{i:Nat}{v:ah}{b:Nat}(h:lr o i v b=1):o b=i∧w7 v b=ai:=by
 unfold lr at h;split at h
 ·rename_i ho;split at h
  ·cases h
  ·rename_i hh;exact⟨ho,by simpa using hh⟩
 ·cases h
def S1{o:cA}{i:Nat}{v:ah}{b:Nat}(h:o b=i)(hh:w7 v b=ab):lr o i v b=0:=by unfold lr;rw[aG h,aG hh]
def SZ{o:cA}{i:Nat}{v:ah}{b:Nat}(h:o b=i)(hh:w7 v b=ai):lr o i v b=1:=by unfold lr;rw[aG h,aK (by simp[hh])]
def Dk{o o':cA}{i i':Nat}{v:ah}{w w':ax}(h:∀b,b<w.heap.size->o b=i->o' b=i'∧w'.heap[b]? =w.heap[b]?):
  (∀b,b<w.heap.size->lr o i v b=0->lr o' i' v b=0∧w'.heap[b]? =w.heap[b]?)∧(∀b,b<w.heap.size->lr o i v b=1->lr o' i' v b=1∧w'.heap[b]? =w.heap[b]?):=by
 constructor
 ·intro b hb hc;obtain⟨h1,h2⟩:=Dm hc;exact⟨S1 (h b hb h1).1 h2,(h b hb h1).2⟩
 ·intro b hb hc;obtain⟨h1,h2⟩:=Dl hc;exact⟨SZ (h b hb h1).1 h2,(h b hb h1).2⟩
def Uq{α:Type}[ad α]{z:Nat}{T Tc:aX}{o:cA}{k kc:Nat}{v:ah}{xs:List α}{b len cap:Nat}(h:j6 z T Tc o k kc w v xs)(hv:v= .slice (aa ⟨b,0,none⟩) len cap):∃aV,o b=k∧w.heap[b]? =aa (.cells aV T (0,0)):=by
 rcases h with⟨rfl,_⟩|⟨g,yV,aV,aJ,rfl,h2,h3,_⟩
 ·cases hv
 ·cases hv;exact⟨aV,h2,h3⟩
def j6.f0{α:Type}[ad α]{z:Nat}{T Tc:aX}{o:cA}{k kc:Nat}{w:ax}{v:ah}{xs:List α}{b f len cap:Nat}(h:j6 z T Tc o k kc w v xs)(hv:v= .slice (aa ⟨b,f,none⟩) len cap):f=0:=by
 rcases h with⟨rfl,_⟩|⟨g,yV,aV,aJ,rfl,_⟩
 ·cases hv
 ·cases hv;rfl
def PK.mono{γ γ':Gh D}{w w':ax}{i i' h h':Nat}(hg:γ'.g i'=γ.g i)(hh:γ'.g h'=γ.g h)(hb:∀b n c,γ.g i= .slice (aa ⟨b,0,none⟩) n c->w'.heap[b]? =w.heap[b]?)(k:PK γ w i h):PK γ' w' i' h':=by obtain⟨cells,h1,h2⟩:=k;refine⟨cells,by rw[hh];exact h1,λb n c q e=>?_⟩;rw[hg]at e;rw[<-h2 b n c q e];exact ax.cell?_of_block (hb b n c e)
def OR.db(k:jg U U' γ w γ' w'){i:Nat}(hU:U i)(hb:∀b,b<w.heap.size->γ.o b=i->γ'.o b=γ.o b∧w'.heap[b]? =w.heap[b]?):∀{x:AO D},OR U γ w i x->OR U' γ' w' i x
 | .box cs,⟨b,us,t,h1,h2,h3,h4,h5⟩=>by have aU:b<w.heap.size:=(jx.1 h3).1;obtain⟨e1,e2⟩:=hb b aU h2;exact⟨b,us,t,by rw[k.g _ hU];exact h1,by rw[e1];exact h2,by rw[e2];exact h3,h4.db k,h5⟩
 | .sl n t xs K g,⟨h1,h2,h3⟩=>by
   refine⟨?_,h2,h3.db k⟩;rw[k.g _ hU];rcases h1 with h1|⟨g,f,cap,aV,aJ,e1,e2,e3,e4,e5,e6,e7,e8⟩
   ·exact .inl h1
   ·have aU:g<w.heap.size:=(jx.1 e3).1;obtain⟨f1,f2⟩:=hb g aU e2;exact .inr ⟨g,f,cap,aV,aJ,e1,by rw[f1];exact e2,by rw[f2];exact e3,e4,e5,e6,e7.mono λ_ _=>ad.mono (k.mem h2),e8⟩
 | .cX n t tc m xs g h,⟨h1,h2,h3⟩=>by
   obtain⟨m0,m1⟩:=Dk (v:=γ.g i) (o:=γ.o) (o':=γ'.o) (i:=i) (i':=i) (w:=w) (w':=w') λb iw ho=>by obtain⟨f1,f2⟩:=hb b iw ho;exact⟨by rw[f1];exact ho,f2⟩
   have hg:=k.g _ hU;refine⟨by rw[hg];exact h1.mono m0 m1,h2.db k,?_⟩;rcases h3 with h3|⟨h3,h4,h5⟩
   ·exact .inl h3
   ·refine .inr ⟨k.u _ h3,by rw[k.v _ h3];exact h4,h5.mono hg (k.g _ h3) λb n c e=>?_⟩;obtain⟨aV,e1,e2⟩:=Uq h1 e;exact(hb b (jx.1 e2).1 (Dm e1).1).2
 | .im n t tc m xs j off s g,⟨h1,h2,b,len,cap,h3,h4⟩=>by
   obtain⟨m0,m1⟩:=Dk (v:=γ.g i) (o:=γ.o) (o':=γ'.o) (i:=i) (i':=i) (w:=w) (w':=w') λb iw ho=>by obtain⟨f1,f2⟩:=hb b iw ho;exact⟨by rw[f1];exact ho,f2⟩
   have hg:=k.g _ hU;exact⟨h1.db k,k.u _ h2,b,len,cap,by rw[hg];exact h3,by rw[hg,k.g _ h2];exact h4.mono m0 m1⟩
 | .fz n xs K,⟨h1,h2⟩=>⟨by rw[k.g _ hU];exact dA.mono (d:=⟨.sl n,xs⟩) (k.mem h2) h1,h2⟩
 | .mp n xs,h=>by
   show rR γ'.o i w' (γ'.g i) xs;rw[k.g _ hU];exact rR.mono h λb iw ho=>by obtain⟨f1,f2⟩:=hb b iw ho;exact⟨by rw[f1];exact ho,f2⟩
def SR.look{sl:List (Nat×AV D)}{L:List (Nat×ah)}(h:SR U γ w sl L){t:Nat}{a:AV D}(e:aE sl t=aa a):∃v,Dp.look L t=aa v∧gF U γ w a v:=h t a e
def SR.cons{sl:List (Nat×AV D)}{L:List (Nat×ah)}{d:Nat}{a:AV D}{v:ah}(h:SR U γ w sl L)(hv:gF U γ w a v):SR U γ w ((d,a)::sl) ((d,v)::L):=λt b e=>by
 unfold aE at e;unfold Dp.look;cases hb:aT d t with
 |true=>simp only[hb,v5,fC]at e⊢;subst e;exact⟨v,rfl,hv⟩
 |false=>simp only[hb,rV]at e⊢;exact h t b e
end
end
end Rx
end Go.Proofs.YtmngjhagbjgmfaaGreat
namespace Go.Proofs.YtmngjhagbjgmfaaGreat
open Go Go.RowKit Dp
namespace Rx
section
variable {D:Nat->Type}
def Q.R{α:Type}(ob:List (Nat×Option (AO D))):Q D α->List Nat->α->Prop
 | .ret b,l,a=>l=[]∧a=b
 | .fail,_,_=>False
 | .obj i f,l,a=>∃x l',dt ob i=aa x∧l=i::l'∧Q.R ob (f x) l' a
 | .part o f,l,a=>∃y,o=aa y∧Q.R ob (f y) l a
def Q.H3{ρ α:Type}{ob:List (Nat×Option (AO D))}{r:ρ}:∀{q:Q D α} {lg:List Nat} {k:α->List Nat->Option ρ},q.go ob lg k=aa r->∃l a,Q.R ob q l a∧k a (l.reverse++lg)=aa r:=by
 intro q;induction q with
 |ret b=>intro lg k h;exact⟨[],b,⟨rfl,rfl⟩,h⟩
 |fail=>intro lg k h;cases h
 |obj i f ih=>
  intro lg k h;simp only[Q.go]at h;split at h
  ·rename_i x hx;obtain⟨l,a,h1,h2⟩:=ih x h;exact⟨i::l,a,⟨x,l,hx,rfl,h1⟩,by simpa using h2⟩
  ·cases h
 |part o f ih=>intro lg k h;simp only[Q.go,nA]at h;obtain⟨y,hy,h⟩:=pJ h;obtain⟨l,a,h1,h2⟩:=ih y h;exact⟨l,a,⟨y,hy,h1⟩,h2⟩
def Q.fU{α β:Type}{ob:List (Nat×Option (AO D))}{f:α->Q D β}{b:β}:∀{q:Q D α} {l:List Nat},Q.R ob (q.bind f) l b->∃l1 l2 a,l=l1++l2∧Q.R ob q l1 a∧Q.R ob (f a) l2 b:=by
 intro q;induction q with
 |ret c=>intro l h;exact⟨[],l,c,rfl,⟨rfl,rfl⟩,h⟩
 |fail=>intro l h;exact h.elim
 |obj i g ih=>intro l h;obtain⟨x,l',h1,rfl,h2⟩:=h;obtain⟨l1,l2,a,rfl,h3,h4⟩:=ih x h2;exact⟨i::l1,l2,a,rfl,⟨x,l1,h1,rfl,h3⟩,h4⟩
 |part o g ih=>intro l h;obtain⟨y,hy,h2⟩:=h;obtain⟨l1,l2,a,rfl,h3,h4⟩:=ih y h2;exact⟨l1,l2,a,rfl,⟨y,hy,h3⟩,h4⟩
end
section
variable {D:Nat->Type} [∀n,ad (D n)]
def jt(U:Nat->Prop)(aq:Nat):Nat->Prop:=λi=>U i∨(aq<=i∧i<aq+128)
structure dP(U:Nat->Prop)(aq:Nat)(γ:Gh D)(w:ax)(ob:List (Nat×Option (AO D)))(e:cW D)(γ':Gh D)(v:ah)(w':ax):Prop where
 fr:Frame γ w γ' w'
 kp:jg U (jt U aq) γ w γ' w'
 dst:gF (jt U aq) γ' w' e.dst v
 ob:OB (jt U aq) γ' w' (e.fz.map (λi=>(i,none))++e.sj++ob)
structure Cx(U:Nat->Prop)(aq:Nat)(γ:Gh D)(w:ax)(sl:List (Nat×AV D))(L:List (Nat×ah))(ob:List (Nat×Option (AO D))):Prop where
 sr:SR U γ w sl L
 ob:OB U γ w ob
 fresh:∀i,aq<=i->i<aq+128->¬U i
 cI:1000<=aq
def rel(ps:List (Nat×Nat))(x:Nat):Nat:=match aE ps x with
 |some y=>y
 |none=>x
def dM{α:Type}:∀{l:List (Nat×α)} {t:Nat} {a:α},aE l t=aa a->(t,a)∈l
 |[],t,a,h=>by simp[aE]at h
 |p::r,t,a,h=>by
  unfold aE at h;cases hb:aT p.1 t with
  |true=>simp only[hb,v5,fC]at h;have:=bA hb;subst this;subst h;simp
  |false=>simp only[hb,rV]at h;exact List.mem_cons_of_mem _ (dM h)
def yd{α:Type}:∀{l:List (Nat×α)} {t:Nat},aE l t=none->∀a,(t,a)∉l
 |[],t,h,a=>by simp
 |p::r,t,h,a=>by
  unfold aE at h;cases hb:aT p.1 t with
  |true=>simp[hb]at h
  |false=>
   simp only[hb,rV]at h;intro hm;rcases cr.1 hm with rfl|hm
   ·simp at hb
   ·exact yd h a hm
def kh{α:Type}:∀(l l':List (Nat×α)) (t:Nat),aE (l++l') t=match aE l t with
  |some a=>aa a
  |none=>aE l' t
 |[],l',t=>by simp[aE]
 |p::r,l',t=>by
  simp only[List.cons_append,aE];cases hb:aT p.1 t with
  |true=>simp
  |false=>simp only[rV];exact kh r l' t
def qe{α:Type}:∀{l:List (Nat×α)} {t:Nat},aE l t=none↔t∉l.map Prod.fst
 |[],t=>by simp[aE]
 |p::r,t=>by
  simp only[aE,gu,cr,not_or];cases hb:aT p.1 t with
  |true=>have:=bA hb;simp[this]
  |false=>
   have bQ:¬t=p.1:=λe=>by subst e;simp at hb
   simp only[rV,bQ,not_false_eq_true,true_and];exact qe
section
variable {U:Nat->Prop} {γ:Gh D} {w w':ax} {ob:List (Nat×Option (AO D))} {aq:Nat} {e:cW D} {v:ah}
def aoY{ps:List (Nat×Nat)}(pz:∀p∈ps,1000<=p.1){x:Nat}(hx:x<1000):rel ps x=x:=by
 unfold rel;split
 ·rename_i y hy;have:=pz _ (dM hy);simp only at this;omega
 ·rfl
def abw{M N:List Nat}{ps:List (Nat×Nat)}{o':cA}{g':Nat->ah}{v':Nat->DV D}(ev:bO M N γ.o w o' w')(hM:∀x∈M,1000<=x)(pz:∀p∈ps,1000<=p.1)(hg:∀i,U i->g' i=γ.g i)(hv:∀i,U i->v' i=γ.v i):
  jg U (jt U aq) γ w ⟨λb=>rel ps (o' b),g',v'⟩ w':=
 ⟨λi h=> .inl h,hg,hv,λb hb hc=>⟨by simp only;rw[ev.gV b hb];exact aoY pz (by omega),ev.rO b hb λhm=>by have:=hM _ hm;omega⟩⟩
def nC{α:Type}{i j:Nat}{a x:α}(h:aE [(i,a)] j=aa x):i=j∧x=a:=by have:=dM h;simp only[List.mem_singleton,v7]at this;exact⟨this.1.symm,this.2⟩
def mkPost{M N:List Nat}{ps:List (Nat×Nat)}{o':cA}{g':Nat->ah}{v':Nat->DV D}(bG:OB U γ w ob)(ev:bO M N γ.o w o' w')
  (hM:∀x∈M,1000<=x∧U x∧x∈e.wr) (hN:∀x∈N,x∈M∨(aq<=x∧x<aq+128)) (pz:∀p∈ps,1000<=p.1∧(U p.1->p.1∈e.wr)∧(p.2=1∨(aq<=p.2∧p.2<aq+128)))
  (qz:1000<=aq) (hg:∀i,U i->g' i=γ.g i) (hv:∀i,U i->v' i=γ.v i)
  (A9:gF (jt U aq) ⟨λb=>rel ps (o' b),g',v'⟩ w' e.dst v)
  (Tw:∀i x,aE e.sj i=aa (aa x)->i∉e.fz->1000<=i∧jt U aq i∧OR (jt U aq) ⟨λb=>rel ps (o' b),g',v'⟩ w' i x):
  dP U aq γ w ob e ⟨λb=>rel ps (o' b),g',v'⟩ v w':=by
 have AG:∀x,x<1000->rel ps x=x:=λx hx=>by
  unfold rel;split
  ·rename_i y hy;have:=(pz _ (dM hy)).1;simp only at this;omega
  ·rfl
 have atg:∀x,rel ps x<1000->rel ps x=x∨rel ps x=1:=λx hx=>by
  unfold rel at hx⊢;split
  ·rename_i y hy;rw[hy]at hx;rcases(pz _ (dM hy)).2.2 with h|h
   ·exact .inr h
   ·simp only at h hx;omega
  ·exact .inl rfl
 have hold:∀b,b<w.heap.size->γ.o b<4->rel ps (o' b)=γ.o b∧w'.heap[b]? =w.heap[b]? :=λb hb h4=>by have h1:=ev.gV b hb;refine⟨by rw[h1];exact AG _ (by omega),ev.rO b hb λhm=>?_⟩;have:=(hM _ hm).1;omega
 have eA:Frame γ w ⟨λb=>rel ps (o' b),g',v'⟩ w':=by
  refine⟨⟨ev.os,ev.tape,ev.output,ev.size,λb hb hc=>hold b hb (by omega),λb hb hc=>?_⟩,λi hi=>hg i (bG.ro i hi)⟩;simp only at hc⊢;have h1:rel ps (o' b)=o' b:=by
   rcases atg (o' b) (by omega)with h|h
   ·exact h
   ·omega
  rw[h1]at hc;by_cases aU:b<w.heap.size
  ·exact⟨aU,by rw[h1,ev.gV b aU]⟩
  ·have h2:=ev.new b (by omega) hb;rcases hN _ h2 with h|h
   ·have:=(hM _ h).1;omega
   ·omega
 have fx:jg U (jt U aq) γ w ⟨λb=>rel ps (o' b),g',v'⟩ w':=
  ⟨λi h=> .inl h,hg,hv,λb hb hc=>hold b hb (by omega)⟩
 refine⟨eA,fx,A9,λi x hx=>?_,λb hb=>?_,λx hx=> .inl (bG.ro x hx)⟩
 ·by_cases kl:i∈e.fz
  ·exfalso;unfold dt at hx;rw[d_,kh]at hx;have:aE (e.fz.map λi=>(i,(none:Option (AO D)))) i=aa none:=by
    have h1:¬aE (e.fz.map λi=>(i,(none:Option (AO D)))) i=none:=by rw[qe];simpa using kl
    cases hl:aE (e.fz.map λi=>(i,(none:Option (AO D)))) i with
    |none=>exact(h1 hl).elim
    |some y=>have:=dM hl;simp only[dC]at this;obtain⟨_,_,h3⟩:=this;cases h3;rfl
   rw[this]at hx;cases hx
  ·have h0:aE (e.fz.map λi=>(i,(none:Option (AO D)))) i=none:=by
    rw[qe];simpa using kl
   unfold dt at hx;rw[d_,kh,h0]at hx;simp only at hx;rw[kh]at hx;cases hu:aE e.sj i with
   |some y=>
    rw[hu]at hx;cases y with
    |none=>cases hx
    |some y=>cases hx;exact Tw i x hu kl
   |none=>
    rw[hu]at hx;simp only at hx;obtain⟨h1,h2,h3⟩:=bG.ob i x hx;have rB:i∉e.wr:=by unfold cW.wr;rw[bz,not_or];exact⟨qe.1 hu,kl⟩
    refine⟨h1,.inl h2,h3.db fx h2 λb hb hc=>?_⟩;have hM':i∉M:=λhm=>rB (hM _ hm).2.2;have hr:rel ps i=i:=by
     unfold rel;split
     ·rename_i y hy;exact(rB ((pz _ (dM hy)).2.1 h2)).elim
     ·rfl
    exact⟨by simp only;rw[ev.gV b hb,hc,hr],ev.rO b hb (by rw[hc];exact hM')⟩
 ·simp only;have h1:U (o' b)∨(aq<=o' b∧o' b<aq+128):=by
   by_cases aU:b<w.heap.size
   ·rw[ev.gV b aU];exact .inl (bG.cl b aU)
   ·rcases hN _ (ev.new b (by omega) hb)with h|h
    ·exact .inl (hM _ h).2.1
    ·exact .inr h
  unfold rel;split
  ·rename_i y hy;rcases(pz _ (dM hy)).2.2 with h|h
   ·simp only at h;subst h;exact .inl (bG.ro 1 (by omega))
   ·exact .inr h
  ·exact h1
end
def aqm{U U':Nat->Prop}{γ γ':Gh D}{w w':ax}{ob:List (Nat×Option (AO D))}{e:cW D}(bG:OB U γ w ob)(k:jg U U' γ w γ' w')(hun:∀i,U i->1000<=i->i∉e.wr->∀b,b<w.heap.size->γ.o b=i->γ'.o b=γ.o b∧w'.heap[b]? =w.heap[b]?)
  (cY:∀b,b<w'.heap.size->U' (γ'.o b)) (Tw:∀i x,aE e.sj i=aa (aa x)->i∉e.fz->1000<=i∧U' i∧OR U' γ' w' i x):OB U' γ' w' (e.fz.map (λi=>(i,none))++e.sj++ob):=by
 refine⟨λi x hx=>?_,cY,λx hx=>k.u _ (bG.ro x hx)⟩
 by_cases kl:i∈e.fz
 ·exfalso;unfold dt at hx;rw[d_,kh]at hx;have:aE (e.fz.map λi=>(i,(none:Option (AO D)))) i=aa none:=by
   have h1:¬aE (e.fz.map λi=>(i,(none:Option (AO D)))) i=none:=by rw[qe];simpa using kl
   cases hl:aE (e.fz.map λi=>(i,(none:Option (AO D)))) i with
   |none=>exact(h1 hl).elim
   |some y=>have:=dM hl;simp only[dC]at this;obtain⟨_,_,h3⟩:=this;cases h3;rfl
  rw[this]at hx;cases hx
 ·have h0:aE (e.fz.map λi=>(i,(none:Option (AO D)))) i=none:=by
   rw[qe];simpa using kl
  unfold dt at hx;rw[d_,kh,h0]at hx;simp only at hx;rw[kh]at hx;cases hu:aE e.sj i with
  |some y=>
   rw[hu]at hx;cases y with
   |none=>cases hx
   |some y=>cases hx;exact Tw i x hu kl
  |none=>
   rw[hu]at hx;simp only at hx;obtain⟨h1,h2,h3⟩:=bG.ob i x hx;have rB:i∉e.wr:=by unfold cW.wr;rw[bz,not_or];exact⟨qe.1 hu,kl⟩
   exact⟨h1,k.u _ h2,h3.db k h2 (hun i h2 h1 rB)⟩
structure bp(P:cP)(t:aX)(g:Bool)(z:List ah):Prop where
 agg:∃d,P.underlying t=aa d∧S9 d=g
 nD:∃i,P.info? t=aa i∧i.size=z.length∧i.zero=aa (pack g z)
section
variable {P:cP} {Qx:Exit->Act->ax->Prop} {L:List (Nat×ah)} {w:ax} {d:Option Tmp} {ty:aX} {pos:String} {af:Array Edge} {g:Option (Nat×Bool)} {t:aX} {x u:aZ} {a:Bool} {z:List ah} {o:cA}
def bp.isAgg(h:bp P t a z)(w:ax):(isAgg t).run P w= .ok a w:=by obtain⟨d,h1,h2⟩:=h.agg;unfold Go.isAgg;rw[Sem.run_bind,run_underlying h1 w];simp only[Result.andThen_ok];rw[<-h2];cases d<;>rfl
def bp.sizeOf(h:bp P t a z)(w:ax):(sizeOf t).run P w= .ok z.length w:=by obtain⟨i,h1,h2,_⟩:=h.nD;simp[Go.sizeOf,typeInfo,h1,h2]
def bp.zero(h:bp P t a z)(w:ax):(zeroValue t).run P w= .ok (pack a z) w:=by obtain⟨i,h1,_,h4⟩:=h.nD;simp[zeroValue,typeInfo,h1,h4]
def OW.Md [Rd]{pa:Addr}{cs:List ah}(hT:bp P t a z)(hz:a=ai->z.length=1)(hx:ev L x=aa (.pointer (aa pa)))(hc:j8 w pa cs)(hl:cs.length=z.length):
  OW P Qx L ⟨d,.load t x,ty,pos,af,g⟩ w (λv' w'=>v'=pack a cs∧w'=w):=by
 refine OW.run λb hb=>⟨pack a cs,w,?_,rfl,rfl⟩
 have fw:(loadVar t pa).run P w= .ok (pack a cs) w:=by
  simp only[loadVar,Sem.run_bind,hT.isAgg,Result.andThen_ok];cases a with
  |true=>have:=run_loadCells_list (P:=P) w pa cs hc;rw[hl]at this;simp[hT.sizeOf,this,pack]
  |false=>
   rw[hz rfl]at hl;match cs,hl,hc with
   |[u],_,hc=>
    have:=hc 0 u rfl;have hu:w.cell? pa=aa u:=by simpa[Addr.add]using this
    simp[pack,hu]
 simp[execOp,hb _ _ hx,Instr.loadAt,Instr.sureAddr,fw]
def OW.anE [Rd]{b off:Nat}{cs vs:List ah}{T':aX}{v:ah}{c:Nat}(hT:bp P t a z)(hx:ev L x=aa (.pointer (aa ⟨b,off,none⟩)))(hu:ev L u=aa v)(hb:w.heap[b]? =aa (.cells cs.toArray T' (0,0)))(ho:o b=c)
  (hv:v.cells=vs.toArray) (h1:∀u∈vs,u.oneCell'=ab) (hl:vs.length=z.length) (hle:off+vs.length<=cs.length):
  OW P Qx L ⟨d,.store t x u,ty,pos,af,g⟩ w (λv' w'=>v'=undef∧bO [c] [] o w o w'∧w'.heap[b]? =aa (.cells (cs.take off++vs++cs.drop (off+vs.length)).toArray T' (0,0))):=by
 have bU:=run_storeCells_at P b off T' vs 0 cs.toArray w hb (by simp;omega) h1
 simp only[Nat.add_zero]at bU
 have b6:bO [c] [] o w o (w.setRow b (cs.take off++vs++cs.drop (off+vs.length)).toArray):=bO.row _ ho
 refine OW.KS λa ha=>⟨_,?_,rfl,b6,setRow_heap w b _ _ T' _ hb⟩
 simp[execOp,ha _ _ hx,ha _ _ hu,Instr.storeAt,Instr.sureAddr,storeVar,hT.sizeOf,hv,hl,bU]
def OW.aCq [Rd](c:Nat)(hT:bp P t a z)(hz:a=ai->∃u,z=[u]∧u.oneCell'=ab):
  OW P Qx L ⟨d,.alloc t,ty,pos,af,g⟩ w (λv' w'=>∃b,v'=fN b 0∧w.heap.size<=b∧bO [] [c] o w (grow o w c) w'∧w'.heap[b]? =aa (.cells z.toArray t (0,0))):=by
 refine OW.run λb ha=>⟨_,w.alloc (.cells z.toArray t),?_,w.heap.size,rfl,bw _,bO.alloc o w _ c,heap_alloc_new w _⟩
 have pA:(pack a z).cells=z.toArray:=by
  cases a with
  |true=>rfl
  |false=>obtain⟨u,rfl,h1⟩:=hz rfl;exact N3 h1
 simp[execOp,Instr.alloc,hT.zero,newVar,newRow,pA,newObj]
 rfl
def OW.aB9 [Rd]{v:ah}(c:Nat)(cs:List ah)(hx:ev L u=aa v)(hv:v.cells=cs.toArray):
  OW P Qx L ⟨d,.box t u,ty,pos,af,g⟩ w (λv' w'=>∃b,v'=fN b 0∧w.heap.size<=b∧bO [] [c] o w (grow o w c) w'∧w'.heap[b]? =aa (.cells cs.toArray t (0,0))):=by
 refine OW.run λa ha=>⟨_,w.alloc (.cells cs.toArray t),?_,w.heap.size,rfl,bw _,bO.alloc o w _ c,heap_alloc_new w _⟩
 simp[execOp,ha _ _ hx,Instr.box,newVar,newRow,hv,newObj]
 rfl
def OW.aBV [Rd]{parts:List (Nat×aZ)}{vs:List (Nat×ah)}{pl:List (Nat×Nat)}(si:List (Nat×List ah))(i_:List ah)(bU:E6 P t pl)(hT:bp P t ab z)(hp:Bm L parts=aa vs)(hc:PF vs si)(hf:Bk pl z si=aa i_):
  OW P Qx L ⟨d,.build t parts.toArray,ty,pos,af,g⟩ w (λv' w'=>v'= .agg i_.toArray∧w'=w):=by
 obtain⟨fs,h1,h2⟩:=bU.fs
 obtain⟨i,gp,ek,mE⟩:=hT.nD
 have h3:=aeA hc hf
 refine OW.run λa ha=>⟨.agg i_.toArray,w,?_,rfl,rfl⟩
 have AJ:(parts.toArray.map λ(x:Nat×aZ)=>(x.1,a.eval x.2)).toList=vs:=by rw[<-aeD ha hp];simp
 have TP:(pack ab z).cells=z.toArray:=rfl
 have hb:P.built t (parts.toArray.map λ(x:Nat×aZ)=>(x.1,a.eval x.2)).toList=aa i_.toArray:=by simp only[cP.built,gp,h1,mE,h2,TP,AJ,h3]
 have hr:=run_build (P:=P) w t _ _ hb
 simp only[execOp,Sem.run_bind]
 rw[hr]
 rfl
end
end
end Rx
end Go.Proofs.YtmngjhagbjgmfaaGreat
namespace Go.Proofs.YtmngjhagbjgmfaaGreat
open Go Go.RowKit Dp
namespace Rx
section
variable {D:Nat->Type} [∀n,ad (D n)]
def FB(T:bb D):kW->List ah
 | .one (.int k)=>[.int k 0]
 | .one .bool=>[.bool ai]
 | .one .str=>[.string tq]
 | .one (.sl _)=>[.slice none 0 0]
 | .st n=>v_ (T.lv n)
 | .ptr=>[.pointer none]
 | .fn=>[.nilFunc]
def cj(P:cP)(T:bb D)(t:aX)(d:kW):Prop:=
 bp P t d.agg (FB T d)∧match d with
  | .one (.int k)=>P.underlying t=aa (.int k)
  | .one .bool=>P.underlying t=aa .bool
  | .one .str=>P.underlying t=aa .string
  |_=>True
structure Je(P:cP)(D:Nat->Type)[∀n,ad (D n)](n tc m:Nat):Prop where
 one:nq (D n)
 flat:Flat (D m)
 ty:bN P tc (D m)
 zc:PV (ad.zc (D n))=ab
structure aku(P:cP)(D:Nat->Type)[∀n,ad (D n)](t m e n:Nat):Prop where
 uS:P.underlying t=aa (.array m e)
 el:bN P e (D n)
 z:∃i z,P.info? t=aa i∧i.zero=aa z∧z.cells.size=m*ad.sz (D n)
def iO:List Lf->List ah->Prop
 |[],[]=>True
 |l::r,v::vs=>(match l with| .int k=>∃a,v= .int k a| .bool=>∃b,v= .bool b| .str=>∃s,v= .string s| .sl _=>False)∧iO r vs
 |_,_=>False
def lI(P:cP)(t:aX)(g:Bool)(ls:List Lf)(k:Nat):Prop:=∀(d:Nat) (w:ax) (us vs:List ah),iO ls us->iO ls vs->∃r:Bool,(Op.equalIn (d+k) t (pack g us) (pack g vs)).run P w= .ok r w∧(r=ab↔us=vs)
structure BX(P:cP)(t:aX)(ls:List Lf):Prop where
 eq:∃k,k<=10000∧lI P t ab ls k
 guard:P.eqGuardType P.depth t=ai
structure BU(P:cP)(kt:aX)(ls:List Lf):Prop where
 check:∀(w:ax) (em:Bool) (ks:List ah),iO ls ks->(Instr.checkKey em 10000 kt (gm ks)).run P w= .ok () w
 find:∀(w:ax) (ks:List ah),iO ls ks->∀es:List gI,(∀e∈es,∃us,iO ls us∧e.key=gm us)->
  ((Instr.findKey kt (gm ks) es).run P w= .ok none w∧∀e∈es,e.key≠gm ks)∨∃j e,(Instr.findKey kt (gm ks) es).run P w= .ok (aa (j,e.val)) w∧es[j]? =aa e∧e.key=gm ks
 stays:∀(w:ax) (ks:List ah),iO ls ks->(Instr.keyThatStays (gm ks) (gm ks)).run P w= .ok (gm ks) w
structure PG(P:cP)(T:bb D)(t kt vt n:Nat):Prop where
 uS:P.underlying t=aa (.map kt vt)
 key:BU P kt (T.lv n).dropLast
 flat:(T.lv n).all jG=ab
 val:∃l,yg (T.lv n)=aa l∧bp P vt ai (v_ [l])
structure dQ(P:cP)(T:bb D):Prop where
 ty:∀t d,aE T.ty t=aa d->cj P T t d
 de:∀t e n,aE T.de t=aa (e,n)->P.underlying t=aa (.slice e)∧bN P e (D n)
 um:∀t l,aE T.um t=aa l->E6 P t l∧∀i off sz,l[i]? =aa (off,sz)->Fj P t i off
 Bo:∀t ls,aE T.Bo t=aa ls->BX P t ls∧ls.all jG=ab
 kd:∀n tc m,aE T.kd n=aa (tc,m)->Je P D n tc m
 qL:∀t m e n,aE T.qL t=aa (m,e,n)->aku P D t m e n
 qc:∀t kt vt n,aE T.qc t=aa (kt,vt,n)->PG P T t kt vt n
variable {P:cP} {T:bb D} {Qx:Exit->Act->ax->Prop} {U:Nat->Prop} {aq:Nat} {γ:Gh D} {w:ax} {sl:List (Nat×AV D)} {L:List (Nat×ah)} {ob:List (Nat×Option (AO D))}
 {d:Option Tmp} {ty:aX} {pos:String} {af:Array Edge} {gd:Option (Nat×Bool)} {e:cW D} {l:List Nat}
def Yd:∀ls:List Lf,(v_ ls).length=ls.length
 |[]=>rfl
 |l::r=>by simp[v_,Yd r]
def FA(T:bb D):∀ty:kW,(FB T ty).length=ty.n T
 | .one (.int k)=>rfl
 | .one .bool=>rfl
 | .one .str=>rfl
 | .one (.sl _)=>rfl
 | .st n=>Yd _
 | .ptr=>rfl
 | .fn=>rfl
def PU(T:bb D):∀ty:kW,ty.agg=ai->(FB T ty).length=1
 | .one (.int k),_=>rfl
 | .one .bool,_=>rfl
 | .one .str,_=>rfl
 | .one (.sl _),_=>rfl
 | .st n,h=>by cases h
 | .ptr,_=>rfl
 | .fn,_=>rfl
def Db:∀(ts:List Lf) (h:HL D ts),(tN ts h).map DV.l=ts
 |[],_=>rfl
 |[l],x=>rfl
 |l::m::r,x=>by simp[tN,Db (m::r) x.2]
def JM:∀{ts:List Lf} {ds:List (DV D)},ds.map DV.l=ts->∃h,toHL ts ds=aa h
 |[],[],_=>⟨(),rfl⟩
 |[],_::_,h=>by simp at h
 |[l],[⟨l',d⟩],h=>by simp at h;subst h;exact⟨d,by simp[toHL]⟩
 |[l],[],h=>by simp at h
 |[l],_::_::_,h=>by simp at h
 |l::m::r,[],h=>by simp at h
 |l::m::r,⟨l',d⟩::ds,h=>by simp only[gu,List.cons.injEq]at h;obtain⟨rfl,h⟩:=h;obtain⟨x,hx⟩:=JM h;exact⟨(d,x),by simp only[toHL,hx,dif_pos]⟩
def GY(T:bb D)(n off m:Nat)(x:D n):List (D m):=match(T.out n x)[off]? with
 |some ⟨.sl m',d⟩=>if h:m'=m then h▸d else []
 |_=>[]
def Am(T:bb D)(n off m:Nat)(x:D n)(l:List (D m)):D n:=match T.iU n ((T.out n x).set off ⟨.sl m,l⟩)with
 |some y=>y
 |none=>x
def abW{n off m:Nat}{x:D n}{d:List (D m)}(h:(T.out n x)[off]? =aa ⟨.sl m,d⟩):GY T n off m x=d:=by unfold GY;rw[h];simp
def abX{n off m:Nat}(x:D n)(h:(T.lv n)[off]? =aa (.sl m)):(T.out n x)[off]? =aa ⟨.sl m,GY T n off m x⟩:=by
 have hk:((T.out n x).map DV.l)[off]? =aa (.sl m):=by rw[bb.out,Db];exact h
 rw[List.getElem?_map]at hk;cases hd:(T.out n x)[off]? with
 |none=>rw[hd]at hk;cases hk
 |some y=>obtain⟨l,d⟩:=y;rw[hd]at hk;simp only[Option.map_some,fC]at hk;subst hk;rw[abW hd]
def SX(hR:cE T){n off m:Nat}{x:D n}{l:List (D m)}(h:(T.lv n)[off]? =aa (.sl m)):T.out n (Am T n off m x l)=(T.out n x).set off ⟨.sl m,l⟩:=by
 have hk:((T.out n x).set off ⟨.sl m,l⟩).map DV.l=T.lv n:=by
  rw[List.map_set,bb.out,Db];apply xv;intro i;rw[oV];by_cases hi:off=i
  ·subst hi;rw[aG rfl,h];simp[(gH.1 h).1]
  ·rw[aK hi]
 obtain⟨y,hy⟩:=JM hk;have hm:T.iU n ((T.out n x).set off ⟨.sl m,l⟩)=aa (T.Ae n y):=by unfold bb.iU;rw[hy]
 unfold Am;rw[hm];exact hR.iU hm
def cm.at{S:Nat->Prop}{w:ax}:∀{vs:List ah} {ds:List (DV D)},cm S w vs ds->∀{i:Nat} {d:DV D},ds[i]? =aa d->∃u,vs[i]? =aa u∧dA S w u d
 |[],[],_,i,d,h=>by simp at h
 |v::vs,e::ds,hl,0,d,h=>by cases h;exact⟨v,rfl,hl.1⟩
 |v::vs,e::ds,hl,i+1,d,h=>by obtain⟨u,h1,h2⟩:=cm.at hl.2 (i:=i) (by simpa using h);exact⟨u,by simpa using h1,h2⟩
 |[],_::_,hl,_,_,_=>hl.elim
 |_::_,[],hl,_,_,_=>hl.elim
def cm.setAt{S:Nat->Prop}{w:ax}{u:ah}{d:DV D}(hu:dA S w u d):∀{vs:List ah} {ds:List (DV D)},cm S w vs ds->∀(i:Nat),cm S w (vs.set i u) (ds.set i d)
 |[],[],_,_=>trivial
 |v::vs,e::ds,hl,0=>⟨hu,hl.2⟩
 |v::vs,e::ds,hl,i+1=>⟨hl.1,cm.setAt hu hl.2 i⟩
 |[],_::_,hl,_=>hl.elim
 |_::_,[],hl,_=>hl.elim
def arI(hR:cE T){n off m:Nat}(h:(T.lv n)[off]? =aa (.sl m)):kw off (GY T n off m) (Am T n off m):=by
 refine⟨?_,?_,?_⟩
 ·intro S w cs x hr;rw[hR.rd]at hr;obtain⟨u,h1,h2⟩:=cm.at hr (abX x h);have aU:=(gH.1 h1).1;refine⟨cs.take off,[u],cs.drop (off+1),?_,by simp;omega,Rv.RX h2 rfl⟩;have:=zG (x:=u) aU;rw[this];apply xv;intro i;rw[oV];by_cases hi:off=i
  ·subst hi;rw[aG rfl,aG aU,h1]
  ·rw[aK hi]
 ·intro S w cs x c' y hr hy;rw[hR.rd]at hr⊢;rw[SX hR h];have hl:=ad.len hy;have nJ:c'.length=1:=hl;match c',nJ with
  |[u],_=>
   have AP:off<cs.length:=by obtain⟨u',h1,_⟩:=cm.at hr (abX x h);exact(gH.1 h1).1
   show cm _ _ (cs.take off++[u]++cs.drop (off+1)) _;rw[zG AP];exact cm.setAt (d:=⟨.sl m,y⟩) ⟨[u],rfl,hy⟩ hr off
 ·intro x a b;unfold Am;have e:=SX hR (x:=x) (l:=a) h;unfold Am at e;rw[e,List.set_set];have hk:=SX hR (x:=x) (l:=b) h;cases hm:T.iU n ((T.out n x).set off ⟨.sl m,b⟩)with
  |some y=>rfl
  |none=>
   exfalso;unfold bb.iU at hm;split at hm
   ·cases hm
   ·rename_i hn;obtain⟨z,hz⟩:=JM (ts:=T.lv n) (ds:=(T.out n x).set off ⟨.sl m,b⟩) (by rw[<-hk,bb.out,Db])
    rw[hz]at hn;cases hn
def LP(d:DV D):named U γ 0 d:= .inl rfl
def lj:eh []:=λx h=>by cases h
def axW{v:ah}{a:AV D}(h:VL v=aa a):gF U γ w a v:=by
 unfold VL at h;split at h<;>first
  |(cases h;exact⟨rfl,LP _,lj⟩)
  |(cases h;rfl)
  |(cases h;trivial)
  |cases h
def cz(hs:SR U γ w sl L){x:aZ}{a:AV D}(h:eQ sl x=aa a):∃v,ev L x=aa v∧gF U γ w a v:=by
 cases x with
 |tmp t=>exact hs.look h
 |const v=>exact⟨v,rfl,axW h⟩
 |func f=>
  simp only[eQ]at h;split at h
  ·rename_i hf;cases h;exact⟨_,rfl,[],by unfold xg;rw[aG hf],trivial⟩
  ·cases h
 |global g=>cases h
def aeE(hs:SR U γ w sl L):∀{xs:List aZ} {as:List (AV D)},eP sl xs=aa as->∃vs,oH L xs=aa vs∧nj U γ w as vs
 |[],as,h=>by simp only[eP,fC]at h;subst h;exact⟨[],rfl,trivial⟩
 |x::r,as,h=>by
  unfold eP at h;split at h
  ·rename_i a b ha hb;cases h;obtain⟨v,h1,h2⟩:=cz hs ha;obtain⟨vs,h3,h4⟩:=aeE hs hb;exact⟨v::vs,by simp[oH,h1,h3],h2,h4⟩
  ·cases h
def ur{xs:List aZ}{a:AV D}{as:List (AV D)}{x:aZ}(h:eP sl (x::xs)=aa (a::as)):eQ sl x=aa a∧eP sl xs=aa as:=by
 unfold eP at h;split at h
 ·rename_i a' b ha hb;cases h;exact⟨ha,hb⟩
 ·cases h
def oI{a:AV D}{x:aZ}(h:eP sl [x]=aa [a]):eQ sl x=aa a:=(ur h).1
def sR{a b:AV D}{x y:aZ}(h:eP sl [x,y]=aa [a,b]):eQ sl x=aa a∧eQ sl y=aa b:=⟨(ur h).1,oI (ur h).2⟩
def Vf{a b c:AV D}{x y z:aZ}(h:eP sl [x,y,z]=aa [a,b,c]):eQ sl x=aa a∧eQ sl y=aa b∧eQ sl z=aa c:=⟨(ur h).1,sR (ur h).2⟩
def uq:∀{xs:List aZ} {as:List (AV D)},eP sl xs=aa as->xs.length=as.length
 |[],as,h=>by simp only[eP,fC]at h;subst h;rfl
 |x::r,as,h=>by
  unfold eP at h;split at h
  ·rename_i a b ha hb;cases h;simp[uq hb]
  ·cases h
def pf(hx:Cx U aq γ w sl L ob){a:AV D}{v:ah}(h:gF U γ w a v):dP U aq γ w ob ⟨a,[],[]⟩ γ v w:=by have k:jg U (jt U aq) γ w γ w:=⟨λi h=> .inl h,λ_ _=>rfl,λ_ _=>rfl,λ_ _ _=>⟨rfl,rfl⟩⟩;have:=mkPost (e:=⟨a,[],[]⟩) (v:=v) (M:=[]) (N:=[]) (ps:=[]) (g':=γ.g) (v':=γ.v) hx.ob (bO.refl [] [] γ.o w) (by simp) (by simp) (by simp) hx.cI (λ_ _=>rfl) (λ_ _=>rfl) (h.db k) (λi x hx=>by simp[aE]at hx);exact this
def ga(f:Nat->DV D)(g:Nat)(ds:List (DV D)):Nat->DV D:=λi=>if g<=i then(match ds[i-g]? with|some d=>d|none=>f i)else f i
def GO{f:Nat->DV D}{g i:Nat}{ds:List (DV D)}{d:DV D}(h:ds[i]? =aa d):ga f g ds (g+i)=d:=by unfold ga;rw[aG (by omega),Nat.add_sub_cancel_left,h]
def Sq{f:Nat->DV D}{g i:Nat}{ds:List (DV D)}(h:i<g∨g+ds.length<=i):ga f g ds i=f i:=by
 unfold ga;split
 ·rename_i hg;rw[List.getElem?_eq_none (by omega)]
 ·rfl
def Cx.gV(hx:Cx U aq γ w sl L ob){i:Nat}(h:U i):i<aq∨aq+128<=i:=by
 rcases Nat.lt_or_ge i aq with h1|h1
 ·exact .inl h1
 ·rcases Nat.lt_or_ge i (aq+128)with h2|h2
  ·exact(hx.fresh i h1 h2 h).elim
  ·exact .inr h2
def sq(hx:Cx U aq γ w sl L ob){ds:List (DV D)}(hl:ds.length<=112){i:Nat}(h:U i):ga γ.v (aq+16) ds i=γ.v i:=by
 rcases hx.gV h with h1|h1
 ·exact Sq (.inl (by omega))
 ·exact Sq (.inr (by omega))
def zZ(hx:Cx U aq γ w sl L ob)(ds:List (DV D))(hl:ds.length<=112){a:AV D}{v:ah}(h:gF (jt U aq) ⟨γ.o,γ.g,ga γ.v (aq+16) ds⟩ w a v):dP U aq γ w ob ⟨a,[],[]⟩ ⟨γ.o,γ.g,ga γ.v (aq+16) ds⟩ v w:=by have:=mkPost (e:=⟨a,[],[]⟩) (v:=v) (M:=[]) (N:=[]) (ps:=[]) (g':=γ.g) (v':=ga γ.v (aq+16) ds) hx.ob (bO.refl [] [] γ.o w) (by simp) (by simp) (by simp) hx.cI (λ_ _=>rfl) (λi hi=>sq hx hl hi) h (λi x hx=>by simp[aE]at hx);exact this
def mr{γ':Gh D}{ds:List (DV D)}{i:Nat}{x:DV D}(hv:γ'.v=ga γ.v (aq+16) ds)(hi:i<112)(h:ds[i]? =aa x):named (jt U aq) γ' (aq+16+i) x:=.inr ⟨.inr ⟨by omega,by omega⟩,by rw[hv];exact GO h⟩
def ei(hx:Cx U aq γ w sl L ob){lf:Lf}{x:lf.den D}{v:ah}(hf:dA (In γ.o []) w v ⟨lf,x⟩):dP U aq γ w ob ⟨.c (.one (.v lf x [] (aq+16))),[],[]⟩ ⟨γ.o,γ.g,ga γ.v (aq+16) [⟨lf,x⟩]⟩ v w:=zZ hx [⟨lf,x⟩] (by simp) ⟨hf,mr (γ:=γ) (i:=0) rfl (by omega) rfl,lj⟩
def OW.mono [Rd]{o:Oper}{R R':ah->ax->Prop}(h:OW P Qx L o w R)(hr:∀v w',R v w'->R' v w'):OW P Qx L o w R':=λa K ha hK=>h a K ha λv w' r=>hK v w' (hr v w' r)
def dj [Rd]{o:Oper}{v:ah}{γ':Gh D}(h:OW P Qx L o w (λv' w'=>v'=v∧w'=w))(hp:dP U aq γ w ob e γ' v w):OW P Qx L o w (λv' w'=>∃γ',dP U aq γ w ob e γ' v' w'):=OW.mono h λv' w' ⟨h1,h2⟩=>by subst h1;subst h2;exact⟨γ',hp⟩
def OW.shr [Rd]{k k':IntKind}{x y:aZ}{t t2:aX}{p q c:Int}(h1:ev L x=aa (.int k p))(h2:ev L y=aa (.int k' q))(hc:wy k.bits p q=aa c):
  OW P Qx L ⟨d,.binOp .shr t x y t2,ty,pos,af,gd⟩ w (λv w'=>v= .int k c∧w'=w):=by
 refine OW.run λa ha=>⟨_,w,?_,rfl,rfl⟩
 unfold wy at hc
 split at hc
 ·cases hc
 ·rename_i hq;cases hc;simp[execOp,ha _ _ h1,ha _ _ h2,eqGuard,binOp,Op.shift,hq]
def OW.ajp [Rd]{op:BinOp}{x y:aZ}{t t2:aX}{p q:Bool}{v:Bool}(ht:P.underlying t=aa .bool)(hv:(op= .eql∧v=(p==q))∨(op= .neq∧v= !(p==q)))(h1:ev L x=aa (.bool p))(h2:ev L y=aa (.bool q)):
  OW P Qx L ⟨d,.binOp op t x y t2,ty,pos,af,gd⟩ w (λv' w'=>v'= .bool v∧w'=w):=by
 have hE:=X2.bool ht
 have:=hE.run (S:=λ_=>True) (S':=λ_=>True) (w:=w) (v1:= .bool p) (v2:= .bool q) (x:=p) (y:=q) x y ⟨[.bool p],rfl,rfl⟩ ⟨[.bool q],rfl,rfl⟩
 refine OW.run λa ha=>⟨_,w,?_,rfl,rfl⟩
 rcases hv with⟨rfl,rfl⟩|⟨rfl,rfl⟩
 ·simp[execOp,ha _ _ h1,ha _ _ h2,this.1.1,this.1.2];cases p<;>cases q<;>rfl
 ·simp[execOp,ha _ _ h1,ha _ _ h2,this.2.1,this.2.2];cases p<;>cases q<;>rfl
def OW.pK [Rd]{op:BinOp}{x y:aZ}{a b v:ah}{t t2:aX}(h1:ev L x=aa a)(h2:ev L y=aa b)(hg:(eqGuard op t x y a b).run P w= .ok () w)(hr:(binOp op t a b).run P w= .ok v w):
  OW P Qx L ⟨d,.binOp op t x y t2,ty,pos,af,gd⟩ w (λv' w'=>v'=v∧w'=w):=
 OW.run λc hc=>⟨_,w,by simp[execOp,hc _ _ h1,hc _ _ h2,hg,hr],rfl,rfl⟩
def IY [Rd](hP:dQ P T)(hx:Cx U aq γ w sl L ob){op:BinOp}{x y:aZ}{p q:Bool}{K K':List Nat}{g g':Nat}{t t2:aX}(ht:aE T.ty t=aa (.one .bool))(ha:eQ sl x=aa (.c (.one (.v .bool p K g))))(hb:eQ sl y=aa (.c (.one (.v .bool q K' g'))))(h:Q.R ob (Xa op (aq+16) p q) l e):
  OW P Qx L ⟨d,.binOp op t x y t2,ty,pos,af,gd⟩ w (λv w'=>∃γ',dP U aq γ w ob e γ' v w'):=by
 obtain⟨u,h1,h2⟩:=cz hx.sr ha
 obtain⟨v,h3,h4⟩:=cz hx.sr hb
 have e1:u= .bool p:=h2.1
 have e2:v= .bool q:=h4.1
 subst e1 e2
 have hu:P.underlying t=aa .bool:=(hP.ty _ _ ht).2
 unfold Xa at h
 split at h
 ·obtain⟨_,rfl⟩:=h;exact dj (OW.ajp (v:=p==q) hu (.inl ⟨rfl,rfl⟩) h1 h3) (ei hx rfl)
 ·obtain⟨_,rfl⟩:=h;exact dj (OW.ajp (v:= !(p==q)) hu (.inr ⟨rfl,rfl⟩) h1 h3) (ei hx rfl)
 ·exact h.elim
def aCd [Rd](hx:Cx U aq γ w sl L ob){op:BinOp}{x y:aZ}{k k':IntKind}{p q:Int}{t t2:aX}(h1:ev L x=aa (.int k p))(h3:ev L y=aa (.int k' q))(h:Q.R ob (W_ op (aq+16) k k' p q) l e):
  OW P Qx L ⟨d,.binOp op t x y t2,ty,pos,af,gd⟩ w (λv w'=>∃γ',dP U aq γ w ob e γ' v w'):=by
 unfold W_ at h
 split at h
 ·obtain⟨c,hc,_,rfl⟩:=h;exact dj (OW.shr h1 h3 hc) (ei hx rfl)
 ·split at h
  case isFalse=>exact h.elim
  rename_i hk;subst hk;split at h
  ·obtain⟨_,rfl⟩:=h;exact dj (OW.pK (v:= .int k (k.wrap (p+q))) h1 h3 (by simp[eqGuard]) (by simp[binOp,Op.intArith])) (ei hx rfl)
  ·obtain⟨_,rfl⟩:=h;exact dj (OW.pK (v:= .int k (k.wrap (p-q))) h1 h3 (by simp[eqGuard]) (by simp[binOp,Op.intArith])) (ei hx rfl)
  ·obtain⟨_,rfl⟩:=h;exact dj (OW.pK (v:= .int k (k.wrap (p*q))) h1 h3 (by simp[eqGuard]) (by simp[binOp,Op.intArith])) (ei hx rfl)
  ·obtain⟨_,rfl⟩:=h;exact dj (OW.pK (v:= .int k (Tm k p q)) h1 h3 (by simp[eqGuard]) (by simp[binOp,Op.intBits,Tm])) (ei hx rfl)
  ·obtain⟨_,rfl⟩:=h;exact dj (OW.pK (v:= .bool (p==q)) h1 h3 (by simp[eqGuard]) (by simp[binOp,Op.intCmp])) (ei hx rfl)
  ·obtain⟨_,rfl⟩:=h;exact dj (OW.pK (v:= .bool (p !=q)) h1 h3 (by simp[eqGuard]) (by simp[binOp,Op.intCmp])) (ei hx rfl)
  ·obtain⟨_,rfl⟩:=h;exact dj (OW.pK (v:= .bool (ak (p<q))) h1 h3 (by simp[eqGuard]) (by simp[binOp,Op.intCmp])) (ei hx rfl)
  ·obtain⟨_,rfl⟩:=h;exact dj (OW.pK (v:= .bool (ak (p<=q))) h1 h3 (by simp[eqGuard]) (by simp[binOp,Op.intCmp])) (ei hx rfl)
  ·obtain⟨_,rfl⟩:=h;exact dj (OW.pK (v:= .bool (ak (p>q))) h1 h3 (by simp[eqGuard]) (by simp[binOp,Op.intCmp])) (ei hx rfl)
  ·obtain⟨_,rfl⟩:=h;exact dj (OW.pK (v:= .bool (ak (p>=q))) h1 h3 (by simp[eqGuard]) (by simp[binOp,Op.intCmp])) (ei hx rfl)
  ·exact h.elim
def aai(a b:ByteArray):(a.toList==b.toList)=CV a b:=by
 rw[Bool.eq_iff_iff];show(a.toList==b.toList)=ab↔(a==b)=ab;have hb:∀p q:ByteArray,(p==q)=ab↔p=q:=λ⟨a⟩ ⟨b⟩=>by show(a==b)=ab↔_;simp
 rw[xr,hb,ByteArray.toList_eq,ByteArray.toList_eq];constructor
 ·intro h;exact ByteArray.ext (Array.toList_inj.mp h)
 ·rintro rfl;rfl
def anB [Rd](hx:Cx U aq γ w sl L ob){op:BinOp}{x y:aZ}{p q:ByteArray}{t t2:aX}(h1:ev L x=aa (.string p))(h3:ev L y=aa (.string q))(h:Q.R ob (QK op (aq+16) p q) l e):
  OW P Qx L ⟨d,.binOp op t x y t2,ty,pos,af,gd⟩ w (λv w'=>∃γ',dP U aq γ w ob e γ' v w'):=by
 unfold QK at h
 split at h
 ·obtain⟨c,hc,_,rfl⟩:=h;unfold KP at hc;split at hc
  case isFalse=>cases hc
  rename_i hs;cases hc;have h':¬(9223372036854775807<((p.size:Int)+(q.size:Int))):=by omega
  exact dj (OW.pK (v:= .string (p++q)) h1 h3 (by simp[eqGuard]) (by simp[binOp,Op.stringOp,h'])) (ei hx rfl)
 ·obtain⟨_,rfl⟩:=h;exact dj (OW.pK (v:= .bool (CV p q)) h1 h3 (by simp[eqGuard]) (by rw[<-aai];simp[binOp,Op.stringOp])) (ei hx rfl)
 ·obtain⟨_,rfl⟩:=h;exact dj (OW.pK (v:= .bool (!(CV p q))) h1 h3 (by simp[eqGuard]) (by rw[<-aai];simp[binOp,Op.stringOp];try rfl)) (ei hx rfl)
 ·exact h.elim
def aCc [Rd](hx:Cx U aq γ w sl L ob){op:BinOp}{x y:aZ}{a b:AV D}{t t2:aX}(ha:eQ sl x=aa a)(hb:eQ sl y=aa b)(h:Q.R ob (W9 op (aq+16) a b) l e):
  OW P Qx L ⟨d,.binOp op t x y t2,ty,pos,af,gd⟩ w (λv w'=>∃γ',dP U aq γ w ob e γ' v w'):=by
 unfold W9 at h
 split at h
 ·rename_i k p K g k' q K' g';obtain⟨u,h1,h2⟩:=cz hx.sr ha;obtain⟨v,h3,h4⟩:=cz hx.sr hb;have e1:u= .int k p:=h2.1;have e2:v= .int k' q:=h4.1;subst e1 e2;split at h
  ·split at h
   case h_4=>obtain⟨c,hc,_,rfl⟩:=h;exact dj (OW.quo h1 h3 hc) (ei hx rfl)
   case h_5=>obtain⟨c,hc,_,rfl⟩:=h;exact dj (OW.rem h1 h3 hc) (ei hx rfl)
   case h_12=>obtain⟨c,hc,_,rfl⟩:=h;exact dj (OW.shr h1 h3 hc) (ei hx rfl)
   all_goals first
    |exact h.elim
    |(obtain⟨_,rfl⟩:=h
      refine dj (OW.pv (v:= ?_) ?_) (ei hx ?_)
      rotate_left
      ·simp only[Dp.pv,h1,h3,bin];rfl
      ·rfl)
  ·exact aCd hx h1 h3 h
 ·rename_i p K g q K' g';obtain⟨u,h1,h2⟩:=cz hx.sr ha;obtain⟨v,h3,h4⟩:=cz hx.sr hb;have e1:u= .string p:=h2.1;have e2:v= .string q:=h4.1;subst e1 e2;exact anB hx h1 h3 h
 ·exact h.elim
def NE:∀{cs:List (A1 D)} {us:List ah} {ks:List (DV D)},Ep cs=aa ks->c_ U γ w cs us->cm (λ_=>True) w us ks
 |[],us,ks,h,hv=>by
  cases h;cases us with
  |nil=>trivial
  |cons _ _=>exact hv.elim
 |a::cs,us,ks,h,hv=>by
  cases us with
  |nil=>exact hv.elim
  |cons u us=>
   unfold Ep at h;split at h
   ·rename_i iX;cases iX
   ·rename_i lf x K g r iX;cases iX;split at h
    case h_2=>cases h
    rename_i ks' jD;cases h;exact⟨hv.1.1.mono λ_ _ _=>⟨trivial,rfl⟩,NE jD hv.2⟩
   ·cases h
def Jf{S:Nat->Prop}:∀{vs:List ah} {ks:List (DV D)},cm S w vs ks->(ks.map DV.l).all jG=ab->iO (ks.map DV.l) vs
 |[],[],_,_=>trivial
 |v::vs,⟨l,x⟩::ks,h,hf=>by
  simp only[gu,List.all_cons,bq]at hf;refine⟨?_,Jf h.2 hf.2⟩;cases l with
  |int k=>exact⟨x,h.1⟩
  |bool=>exact⟨x,h.1⟩
  |str=>exact⟨x,h.1⟩
  |sl n=>cases hf.1
 |[],_::_,h,_=>h.elim
 |_::_,[],h,_=>h.elim
def aeO{S S':Nat->Prop}{w':ax}{u v:ah}{x y:DV D}(hu:dA S w u x)(hv:dA S' w' v y)(hl:x.l=y.l)(hf:jG x.l=ab):Bs x y=ab↔u=v:=by
 obtain⟨l,x⟩:=x;obtain⟨l',y⟩:=y;dsimp only at hl;subst hl;cases l with
 |int k=>have e1:u= .int k x:=hu;have e2:v= .int k y:=hv;subst e1 e2;simp[Bs,Mn]
 |bool=>have e1:u= .bool x:=hu;have e2:v= .bool y:=hv;subst e1 e2;simp[Bs,beq']
 |str=>
  have e1:u= .string x:=hu;have e2:v= .string y:=hv;subst e1 e2;show(x==y)=ab↔_;rw[show(ah.string x=ah.string y)=(x=y)from by simp];clear hu hv hf;have:∀p q:ByteArray,(p==q)=ab↔p=q:=λ⟨a⟩ ⟨b⟩=>by show(a==b)=ab↔_;simp
  exact this x y
 |sl n=>cases hf
def aeN{S S':Nat->Prop}{w':ax}:∀{us vs:List ah} {xs ys:List (DV D)},cm S w us xs->cm S' w' vs ys->xs.map DV.l=ys.map DV.l->(xs.map DV.l).all jG=ab->(uu xs ys=ab↔us=vs)
 |[],[],[],[],_,_,_,_=>by simp[uu]
 |u::us,v::vs,x::xs,y::ys,h,h',hk,hf=>by
  simp only[gu,List.cons.injEq]at hk;simp only[gu,List.all_cons,bq]at hf;have e1:=aeO h.1 h'.1 hk.1 hf.1;have ih:=aeN h.2 h'.2 hk.2 hf.2;cases xs with
  |nil=>
   have hy:ys=[]:=by
    have:=hk.2;cases ys with
    |nil=>rfl
    |cons _ _=>simp at this
   subst hy;have h1:us=[]:=by cases us with|nil=>rfl|cons _ _=>exact h.2.elim
   have h2:vs=[]:=by cases vs with|nil=>rfl|cons _ _=>exact h'.2.elim
   subst h1 h2;simp only[uu,e1];simp
  |cons x' xs=>simp only[uu,OZ,bq,e1];rw[ih];simp
 |[],_::_,[],[],_,h',_,_=>h'.elim
 |[],_,_::_,_,h,_,_,_=>h.elim
 |_::_,_,[],_,h,_,_,_=>h.elim
 |_,[],_,_::_,_,h',_,_=>h'.elim
 |_,_::_,_,[],_,h',_,_=>h'.elim
def axp{t:aX}{ls:List Lf}{us vs:List ah}{xs ys:List (DV D)}(hE:BX P t ls)(hf:ls.all jG=ab)(hx:cm (λ_=>True) w us xs)(hy:cm (λ_=>True) w vs ys)(h1:xs.map DV.l=ls)(h2:ys.map DV.l=ls):(Op.equal t (.agg us.toArray) (.agg vs.toArray)).run P w= .ok (uu xs ys) w:=by obtain⟨k,hk,hE⟩:=hE.eq;have c1:=Jf hx (by rw[h1];exact hf);have c2:=Jf hy (by rw[h2];exact hf);rw[h1]at c1;rw[h2]at c2;obtain⟨r,e1,e2⟩:=hE (10000-k) w us vs c1 c2;rw[show 10000-k+k=10000 by omega]at e1;have e3:uu xs ys=r:=Bool.eq_iff_iff.2 ((aeN hx hy (h1.trans h2.symm) (by rw[h1];exact hf)).trans e2.symm);rw[e3];exact e1
def axq [Rd](hP:dQ P T)(hx:Cx U aq γ w sl L ob){op:BinOp}{x y:aZ}{p q:List (A1 D)}{t t2:aX}{n:List Lf}(ht:aE T.Bo t=aa n)(ha:eQ sl x=aa (.c (.agg p)))(hb:eQ sl y=aa (.c (.agg q)))(h:Q.R ob (Vh op (aq+16) n p q) l e):
  OW P Qx L ⟨d,.binOp op t x y t2,ty,pos,af,gd⟩ w (λv w'=>∃γ',dP U aq γ w ob e γ' v w'):=by
 unfold Vh at h
 split at h
 case h_2=>exact h.elim
 rename_i xs ys eF nE
 split at h
 case isFalse=>exact h.elim
 rename_i hc
 obtain⟨u,h1,us,rfl,h2⟩:=cz hx.sr ha
 obtain⟨v,h3,vs,rfl,h4⟩:=cz hx.sr hb
 have e1:=NE eF h2
 have e2:=NE nE h4
 obtain⟨hE,hf⟩:=hP.Bo t n ht
 have fw:=axp hE hf e1 e2 hc.1 hc.2
 split at h
 ·obtain⟨_,rfl⟩:=h;refine dj (v:= .bool (uu xs ys)) (OW.run λa ha=>⟨_,w,?_,rfl,rfl⟩) (ei hx rfl);simp[execOp,ha _ _ h1,ha _ _ h3,eqGuard,hE.guard,binOp,fw]
 ·obtain⟨_,rfl⟩:=h;refine dj (v:= .bool (!(uu xs ys))) (OW.run λa ha=>⟨_,w,?_,rfl,rfl⟩) (ei hx rfl);simp[execOp,ha _ _ h1,ha _ _ h3,eqGuard,hE.guard,binOp,fw]
 ·exact h.elim
