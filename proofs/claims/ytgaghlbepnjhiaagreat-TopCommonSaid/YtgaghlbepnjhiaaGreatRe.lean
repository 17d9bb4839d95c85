import Derived.Test.YtgaghlbepnjhiaaGreatRb
set_option linter.all false
open Array renaming getElem?_eq_some_iff->iR
open Bool renaming and_eq_true->bt,false->ae,true->ab
open ByteArray renaming empty->tz
open Decidable renaming decide->ak
open Go renaming MapEntry->gP,Operand->ba,Program->cT,TypeId->aX,Value->ai,World->ax
open List renaming append_assoc->eg,ext_getElem?->xL,getElem?_eq_some_iff->g9,getElem?_set->o_,map_cons->gC,mem_append->bg,mem_cons->cj,mem_map->dk
open Nat renaming beq->aW,eq_of_beq_eq_true->bA,le_refl->bw
open Option renaming some->aa
open Option.some renaming injEq->fK
open Prod.mk renaming injEq->wj
namespace Go.Proofs.YtgaghlbepnjhiaaGreat
open Go Go.RowKit Dp
namespace Rx
section
variable {D:Nat->Type} [∀n,ad (D n)]
def dI(S:Nat->Prop)(w:ax)(v:ai):DV D->Prop
 |⟨.int k,d⟩=>v= .int k d
 |⟨.bool,d⟩=>v= .bool d
 |⟨.str,d⟩=>v= .string d
 |⟨.sl n,d⟩=>Rv S w v (d:List (D n))
def cz(S:Nat->Prop)(w:ax):List ai->List (DV D)->Prop
 |[],[]=>True
 |v::vs,d::ds=>dI S w v d∧cz S w vs ds
 |_,_=>False
def wl:List Lf->List ai
 |[]=>[]
 |l::r=>(match l with| .int k=> .int k 0| .bool=> .bool ae| .str=> .string tz| .sl _=> .slice none 0 0)::wl r
structure cK(T:bc D):Prop where
 sz:∀n,ad.sz (D n)=(T.lv n).length
 ag:∀n,ad.agg (D n)=T.ag n
 zc:∀n,ad.zc (D n)=wl (T.lv n)
 zero:∀n,(ad.zero:D n)=T.zero n
 rd:∀n S w cs (x:D n),ad.rd S w cs x↔cz S w cs (T.out n x)
 uv:∀n,(T.lv n).length<=112
 MI:∀n h,T.DI n (T.AA n h)=h
def dI.mono{S S':Nat->Prop}{w w':ax}(hm:∀b,S b->b<w.heap.size->S' b∧w'.heap[b]? =w.heap[b]?){v:ai}:∀{d:DV D},dI S w v d->dI S' w' v d
 |⟨.int k,d⟩,h=>h
 |⟨.bool,d⟩,h=>h
 |⟨.str,d⟩,h=>h
 |⟨.sl n,d⟩,h=>Rv.mono hm h
def dI.flat{S S':Nat->Prop}{w w':ax}{v:ai}:∀{d:DV D},jE d.l=ab->dI S w v d->dI S' w' v d
 |⟨.int k,d⟩,_,h=>h
 |⟨.bool,d⟩,_,h=>h
 |⟨.str,d⟩,_,h=>h
 |⟨.sl n,d⟩,h,_=>by cases h
def cz.flat{S S':Nat->Prop}{w w':ax}:∀{vs:List ai} {ds:List (DV D)},(ds.map DV.l).all jE=ab->cz S w vs ds->cz S' w' vs ds
 |[],[],_,_=>trivial
 |v::vs,d::ds,hf,h=>by simp only[gC,List.all_cons,bt]at hf;exact⟨h.1.flat hf.1,cz.flat hf.2 h.2⟩
 |[],_::_,_,h=>h.elim
 |_::_,[],_,h=>h.elim
def Ti:∀(ts:List Lf) (h:HL D ts),(tO ts h).map DV.l=ts
 |[],_=>rfl
 |[l],x=>rfl
 |l::m::r,x=>by simp only[tO,gC,Ti (m::r) x.2]
theorem cK.flat{T:bc D}(hR:cK T){n:Nat}(h:(T.lv n).all jE=ab):Flat (D n):=⟨λ{S S' w w' cs x} hr=>(hR.rd n S' w' cs x).2 (cz.flat (by rw[bc.out,Ti];exact h) ((hR.rd n S w cs x).1 hr))⟩
def cz.mono{S S':Nat->Prop}{w w':ax}(hm:∀b,S b->b<w.heap.size->S' b∧w'.heap[b]? =w.heap[b]?):∀{vs:List ai} {ds:List (DV D)},cz S w vs ds->cz S' w' vs ds
 |[],[],_=>trivial
 |v::vs,d::ds,h=>⟨h.1.mono hm,cz.mono hm h.2⟩
 |[],_::_,h=>h.elim
 |_::_,[],h=>h.elim
def dI.one{S:Nat->Prop}{w:ax}{v:ai}:∀{d:DV D},dI S w v d->v.oneCell'=ab
 |⟨.int k,d⟩,h=>by cases h;rfl
 |⟨.bool,d⟩,h=>by cases h;rfl
 |⟨.str,d⟩,h=>by cases h;rfl
 |⟨.sl n,d⟩,h=>Rv.one (α:=List (D n)) h rfl
def cz.length{S:Nat->Prop}{w:ax}:∀{vs:List ai} {ds:List (DV D)},cz S w vs ds->vs.length=ds.length
 |[],[],_=>rfl
 |v::vs,d::ds,h=>by simp[cz.length h.2]
 |[],_::_,h=>h.elim
 |_::_,[],h=>h.elim
def cz.append{S:Nat->Prop}{w:ax}:∀{vs:List ai} {ds:List (DV D)} {us:List ai} {es:List (DV D)},cz S w vs ds->cz S w us es->cz S w (vs++us) (ds++es)
 |[],[],_,_,_,h=>h
 |v::vs,d::ds,_,_,h,h'=>⟨h.1,cz.append h.2 h'⟩
 |[],_::_,_,_,h,_=>h.elim
 |_::_,[],_,_,h,_=>h.elim
def cz.take{S:Nat->Prop}{w:ax}:∀{vs:List ai} {ds:List (DV D)},cz S w vs ds->∀k,cz S w (vs.take k) (ds.take k)
 |_,_,_,0=>by simp[cz]
 |[],[],_,k+1=>trivial
 |v::vs,d::ds,h,k+1=>⟨h.1,cz.take h.2 k⟩
 |[],_::_,h,_=>h.elim
 |_::_,[],h,_=>h.elim
def cz.drop{S:Nat->Prop}{w:ax}:∀{vs:List ai} {ds:List (DV D)},cz S w vs ds->∀k,cz S w (vs.drop k) (ds.drop k)
 |_,_,h,0=>by simpa using h
 |[],[],_,k+1=>trivial
 |v::vs,d::ds,h,k+1=>by simpa using cz.drop h.2 k
 |[],_::_,h,_=>h.elim
 |_::_,[],h,_=>h.elim
def Th:∀{ts:List Lf} {ds:List (DV D)} {h:HL D ts},toHL ts ds=aa h->tO ts h=ds
 |[],[],h,e=>rfl
 |[],_::_,h,e=>by simp[toHL]at e
 |[l],[],h,e=>by simp[toHL]at e
 |[l],[⟨l',d⟩],h,e=>by
  simp only[toHL]at e;by_cases hl:l'=l
  ·subst hl;simp only[dif_pos]at e;cases e;rfl
  ·simp[hl]at e
 |[l],_::_::_,h,e=>by simp[toHL]at e
 |l::m::r,[],h,e=>by simp[toHL]at e
 |l::m::r,⟨l',d⟩::rR,h,e=>by
  rw[toHL]at e;by_cases hl:l'=l
  ·subst hl;simp only[dif_pos]at e;cases hx:toHL (m::r) rR with
   |none=>rw[hx]at e;cases e
   |some x=>rw[hx]at e;cases e;simp only[tO,Th hx]
  ·simp[hl]at e
variable {T:bc D}
def cK.jf{n:Nat}{ds:List (DV D)}{x:D n}(hR:cK T)(h:T.jf n ds=aa x):T.out n x=ds:=by
 unfold bc.jf at h;split at h
 ·rename_i y hy;cases h;rw[bc.out,hR.MI,Th hy]
 ·cases h
def ab'{D:Nat->Type}:∀(ts:List Lf) (h:HL D ts),(tO ts h).length=ts.length
 |[],_=>rfl
 |[l],x=>rfl
 |l::m::r,x=>by simp[tO,ab' (m::r) x.2]
def Mp(T:bc D)(n:Nat)(x:D n):(T.out n x).length=(T.lv n).length:=ab' _ _
def ab_(hR:cK T):∀{t:Ht} {ds rR:List (DV D)} {x:t.den D},xV T t ds=aa (x,rR)->ds=Mz T t x++rR
 | .lf l,[],rR,x,e=>by simp[xV]at e
 | .lf l,⟨l',d⟩::r,rR,x,e=>by
   simp only[xV]at e;by_cases hl:l'=l
   ·subst hl;simp only[dif_pos,fK,wj]at e;obtain⟨rfl,rfl⟩:=e;rfl
   ·simp[hl]at e
 | .el n,ds,rR,x,e=>by
   simp only[xV]at e;cases hy:T.jf n (ds.take (T.lv n).length)with
   |none=>simp[hy]at e
   |some y=>simp only[hy,fK,wj]at e;obtain⟨rfl,rfl⟩:=e;rw[Mz,hR.jf hy,List.take_append_drop]
def aca(hR:cK T):∀{ts:List Ht} {ds:List (DV D)} {h:HH D ts},toHH T ts ds=aa h->dK T ts h=ds
 |[],[],h,e=>rfl
 |[],_::_,h,e=>by simp[toHH]at e
 |[t],ds,h,e=>by
  rw[toHH]at e;cases hx:xV T t ds with
  |none=>simp[hx]at e
  |some y=>
   obtain⟨x,r⟩:=y;cases r with
   |nil=>simp only[hx]at e;cases e;have:=ab_ hR hx;simp[dK,this]
   |cons _ _=>simp[hx]at e
 |t::m::r,ds,h,e=>by
  rw[toHH]at e;cases hx:xV T t ds with
  |none=>simp[hx]at e
  |some y=>
   obtain⟨x,rR⟩:=y;rw[hx]at e;dsimp only at e;cases hy:toHH T (m::r) rR with
   |none=>rw[hy]at e;cases e
   |some z=>rw[hy]at e;cases e;have:=ab_ hR hx;simp only[dK,aca hR hy,this]
structure Gh(D:Nat->Type)where
 o:cE
 g:Nat->ai
 v:Nat->DV D
def eo(K:List Nat):Prop:=∀x∈K,x<2
def named(U:Nat->Prop)(γ:Gh D)(t:Nat)(d:DV D):Prop:=t=0∨(U t∧γ.v t=d)
def fT(b off:Nat):ai:= .pointer (aa ⟨b,off,none⟩)
def xi(v:ai)(b:Nat):Bool:=match v with
 | .slice (aa a) _ _=>aW a.block b
 |_=>ae
def lE(o:cE)(i:Nat)(v:ai):cE:=λb=>if o b=i then(if xi v b then 0 else 1)else 2
def QB(γ:Gh D)(w:ax)(i h:Nat):Prop:=∃cells:Array ai,γ.g h= .agg cells∧∀(b n c q:Nat),γ.g i= .slice (aa ⟨b,0,none⟩) n c->w.cell? ⟨b,q,none⟩=cells[q]?
def xr(f:Nat)(cs:List ai):ai:=if Nat.blt f 1000000=ab then .func (.func f) #[] cs.toArray else .func (.func (f-1000000)) cs.toArray #[]
def axy(f:Nat)(cs:List ai):(xr f cs).oneCell'=ab:=by unfold xr;split<;>rfl
def T0:ai->Bool
 | .slice none _ _=>ab
 |_=>ae
def rW(U:Nat->Prop)(γ:Gh D)(w:ax):A0 D->ai->Prop
 | .ptr i off,v=>U i∧∃b,γ.g i=fT b 0∧v=fT b off
 | .rp n x off K,v=>∃pa:Addr,v= .pointer (aa (pa.add off))∧xE (In γ.o K) w pa x∧eo K
def nB(U:Nat->Prop)(γ:Gh D)(w:ax):List (A0 D)->List ai->Prop
 |[],[]=>True
 |a::as,v::vs=>rW U γ w a v∧nB U γ w as vs
 |_,_=>False
def fY(U:Nat->Prop)(γ:Gh D)(w:ax):A1 D->ai->Prop
 | .v l d K t,v=>dI (In γ.o K) w v ⟨l,d⟩∧named U γ t ⟨l,d⟩∧eo K
 | .ptr i off,v=>U i∧∃b,γ.g i=fT b 0∧v=fT b off
 | .el i n j y off tc tj,v=>U i∧(tc≠0∧U tc)∧(∃xs:List (D n),γ.v tc=⟨.sl n,xs⟩∧idx xs j=aa y)∧named U γ tj ⟨.int .i64,j⟩∧
     ∃b f len cap,γ.g i= .slice (aa ⟨b,f,none⟩) len cap∧v=fT b (f+(j.toNat*ad.sz (D n)+off))
 | .rp n x off K,v=>∃pa:Addr,v= .pointer (aa (pa.add off))∧xE (In γ.o K) w pa x∧eo K
 | .vb n xs K t b,v=>(Rv (In γ.o K) w v xs∧named U γ t ⟨.sl n,xs⟩∧eo K)∧b=T0 v
 | .own i,v=>U i∧v=γ.g i∧v.oneCell'=ab
 | .fn f jo,v=>∃cs:List ai,v=xr f cs∧nB U γ w jo cs
 | .ch i n j off ct m d,v=>U i∧(ct≠0∧U ct)∧(∃(xs:List (D n)) (y:D n),γ.v ct=⟨.sl n,xs⟩∧idx xs j=aa y∧∀(S:Nat->Prop) (w:ax) (cs:List ai),ad.rd S w cs y->∃u,cs[off]? =aa u∧Rv S w u d)∧
     (∃b len cap cells,γ.g i= .slice (aa ⟨b,0,none⟩) len cap∧γ.g ct= .agg cells∧cells[j.toNat*ad.sz (D n)+off]? =aa v)∧∃p c,v= .slice p d.length c
 | .zh i t,v=>U i∧U t∧v=γ.g t∧v.oneCell'=ab
 | .tail i n j,v=>U i∧(0<=j∧Ca (ad.sz (D n)) (γ.g i) v j.toNat)
 | .pre i n j,v=>U i∧Qv (γ.g i) v j.toNat
 | .tt n xs K,v=>(∃aJ,v= .agg aJ.flatten.toArray∧cA (ad.rd (In γ.o K) w) aJ xs)∧eo K
 | .bH,v=>v= .slice none 0 0
 | .sF,v=>v= .pointer none
 | .DM,v=>v= .nilFunc
 | .undef,v=>v=undef
 | .zS,_=>True
 | .wU,v=>v.oneCell'=ab
def dj(U:Nat->Prop)(γ:Gh D)(w:ax):List (A1 D)->List ai->Prop
 |[],[]=>True
 |a::as,v::vs=>fY U γ w a v∧dj U γ w as vs
 |_,_=>False
def nA(U:Nat->Prop)(γ:Gh D)(w:ax):AC D->ai->Prop
 | .one a,v=>fY U γ w a v
 | .agg l,v=>∃us:List ai,v= .agg us.toArray∧dj U γ w l us
def jr(U:Nat->Prop)(γ:Gh D)(w:ax):List (AC D)->List ai->Prop
 |[],[]=>True
 |a::as,v::vs=>nA U γ w a v∧jr U γ w as vs
 |_,_=>False
def gW(U:Nat->Prop)(γ:Gh D)(w:ax):AV D->ai->Prop
 | .c x,v=>nA U γ w x v
 | .dY l,v=>∃us:List ai,v= .tuple us.toArray∧jr U γ w l us
def nz(U:Nat->Prop)(γ:Gh D)(w:ax):List (AV D)->List ai->Prop
 |[],[]=>True
 |a::as,v::vs=>gW U γ w a v∧nz U γ w as vs
 |_,_=>False
def SR(U:Nat->Prop)(γ:Gh D)(w:ax)(sl:List (Nat×AV D))(L:List (Nat×ai)):Prop:=∀t a,aF sl t=aa a->∃v,Dp.look L t=aa v∧gW U γ w a v
def gG:List ai->ai
 |[u]=>u
 |l=> .agg l.toArray
def ja{α:Type}(R:gP->α->Prop):List gP->List α->Prop
 |[],[]=>True
 |e::es,x::xs=>R e x∧ja R es xs
 |_,_=>False
def ja.mono{α:Type}{R R':gP->α->Prop}(hr:∀e x,R e x->R' e x):∀{es:List gP} {xs:List α},ja R es xs->ja R' es xs
 |[],[],_=>trivial
 |_::_,_::_,h=>⟨hr _ _ h.1,ja.mono hr h.2⟩
 |[],_::_,h=>h.elim
 |_::_,[],h=>h.elim
def uG(es:List gP)(clock:Nat):Prop:=(∀e∈es,e.born<clock)∧(es.map (·.born)).Nodup
def rX{α:Type}[ad α](o:cE)(i:Nat)(w:ax)(v:ai)(xs:List α):Prop:=∃(r:Nat) (es:Array gP) (clock:Nat),v= .map (aa r)∧o r=i∧w.heap[r]? =aa (.map es clock)∧
 es.toList.Pairwise (λa b=>a.key≠b.key)∧ja (λe x=>∃ks:List ai,e.key=gG ks∧ad.rd (λ_=>False) w (ks++[e.val]) x) es.toList xs∧uG es.toList clock
def rX.mono{α:Type}[ad α]{o o':cE}{i i':Nat}{w w':ax}{v:ai}{xs:List α}(h:rX o i w v xs)(hb:∀b,b<w.heap.size->o b=i->o' b=i'∧w'.heap[b]? =w.heap[b]?):rX o' i' w' v xs:=by obtain⟨r,es,clock,h1,h2,h3,h4,h5,h6⟩:=h;obtain⟨e1,e2⟩:=hb r (iR.1 h3).1 h2;exact⟨r,es,clock,h1,e1,by rw[e2];exact h3,h4,h5.mono λe x ⟨ks,k1,k2⟩=>⟨ks,k1,ad.mono (λb hb _=>hb.elim) k2⟩,h6⟩
def OR(U:Nat->Prop)(γ:Gh D)(w:ax)(i:Nat):AO D->Prop
 | .box cs=>∃(b:Nat) (us:List ai) (t:aX),γ.g i=fT b 0∧γ.o b=i∧w.heap[b]? =aa (.cells us.toArray t (0,0))∧dj U γ w cs us∧cs.all storable=ab
 | .sl n t xs K g=>Ow t γ.o i K w (γ.g i) xs∧eo K∧named U γ g ⟨.sl n,xs⟩
 | .df n t tc m xs g h=>iM (ad.sz (D m)) t tc (lE γ.o i (γ.g i)) 0 1 w (γ.g i) xs∧named U γ g ⟨.sl n,xs⟩∧(h=0∨(U h∧γ.v h=⟨.sl n,xs⟩∧QB γ w i h))
 | .iH n t tc m xs j off s g=>named U γ g ⟨.sl n,xs⟩∧U s∧∃b len cap,γ.g i= .slice (aa ⟨b,0,none⟩) len cap∧uE (ad.sz (D m)) t tc (lE γ.o i (γ.g i)) 0 1 w (γ.g i) xs ⟨b,j.toNat*ad.sz (D n)+off,none⟩ (γ.g s)
 | .fz n xs K=>Rv (In γ.o K) w (γ.g i) xs∧eo K
 | .mp n xs=>rX γ.o i w (γ.g i) xs
structure OB(U:Nat->Prop)(γ:Gh D)(w:ax)(ob:List (Nat×Option (AO D))):Prop where
 ob:∀i x,dC ob i=aa x->1000<=i∧U i∧OR U γ w i x
 cl:∀b,b<w.heap.size->U (γ.o b)
 ro:∀x,x<2000->U x
structure Frame0(γ:Gh D)(w:ax)(γ':Gh D)(w':ax):Prop where
 os:w'.os=w.os
 tape:w'.tape=w.tape
 output:w'.output=w.output
 size:w.heap.size<=w'.heap.size
 ro:∀b,b<w.heap.size->(γ.o b=0∨γ.o b=3)->γ'.o b=γ.o b∧w'.heap[b]? =w.heap[b]?
 back:∀b,b<w'.heap.size->(γ'.o b=0∨γ'.o b=3)->b<w.heap.size∧γ.o b=γ'.o b
structure Frame(γ:Gh D)(w:ax)(γ':Gh D)(w':ax):Prop extends Frame0 γ w γ' w' where
 gk:∀i,i<2000->γ'.g i=γ.g i
def Frame0.refl(γ:Gh D)(w:ax):Frame0 γ w γ w:=⟨rfl,rfl,rfl,bw _,λ_ _ _=>⟨rfl,rfl⟩,λ_ h _=>⟨h,rfl⟩⟩
def Frame.refl(γ:Gh D)(w:ax):Frame γ w γ w:=⟨.refl γ w,λ_ _=>rfl⟩
def Frame0.trans{γ aQ bf:Gh D}{w w1 w2:ax}(h:Frame0 γ w aQ w1)(k:Frame0 aQ w1 bf w2):Frame0 γ w bf w2:=by
 refine⟨k.os.trans h.os,k.tape.trans h.tape,k.output.trans h.output,Nat.le_trans h.size k.size,λb hb hc=>?_,λb hb hc=>?_⟩
 ·obtain⟨h1,h2⟩:=h.ro b hb hc;obtain⟨k1,k2⟩:=k.ro b (Nat.lt_of_lt_of_le hb h.size) (by rw[h1];exact hc);exact⟨k1.trans h1,k2.trans h2⟩
 ·obtain⟨k1,k2⟩:=k.back b hb hc;obtain⟨h1,h2⟩:=h.back b k1 (by rw[k2];exact hc);exact⟨h1,h2.trans k2⟩
def Frame.trans{γ aQ bf:Gh D}{w w1 w2:ax}(h:Frame γ w aQ w1)(k:Frame aQ w1 bf w2):Frame γ w bf w2:=⟨h.toFrame0.trans k.toFrame0,λi hi=>(k.gk i hi).trans (h.gk i hi)⟩
structure iN(U U':Nat->Prop)(γ:Gh D)(w:ax)(γ':Gh D)(w':ax):Prop where
 u:∀i,U i->U' i
 g:∀i,U i->γ'.g i=γ.g i
 v:∀i,U i->γ'.v i=γ.v i
 ro:∀b,b<w.heap.size->γ.o b<2->γ'.o b=γ.o b∧w'.heap[b]? =w.heap[b]?
section
variable {U U':Nat->Prop} {γ γ':Gh D} {w w':ax}
def iN.refl:iN U U γ w γ w:=⟨λ_ h=>h,λ_ _=>rfl,λ_ _=>rfl,λ_ _ _=>⟨rfl,rfl⟩⟩
def iN.mem(k:iN U U' γ w γ' w'){K:List Nat}(hK:eo K):∀b,In γ.o K b->b<w.heap.size->In γ'.o K b∧w'.heap[b]? =w.heap[b]? :=λb hb aS=>by obtain⟨h1,h2⟩:=k.ro b aS (hK _ hb);exact⟨by unfold In;rw[h1];exact hb,h2⟩
def named.dn(k:iN U U' γ w γ' w'){t:Nat}{d:DV D}(h:named U γ t d):named U' γ' t d:=by
 rcases h with h|⟨h1,h2⟩
 ·exact .inl h
 ·exact .inr ⟨k.u _ h1,by rw[k.v _ h1];exact h2⟩
def rW.dn(k:iN U U' γ w γ' w'):∀{a:A0 D} {v:ai},rW U γ w a v->rW U' γ' w' a v
 | .ptr i off,v,⟨h,b,h1,h2⟩=>⟨k.u _ h,b,by rw[k.g _ h];exact h1,h2⟩
 | .rp n x off K,v,⟨pa,h1,h2,h3⟩=>⟨pa,h1,h2.mono (k.mem h3),h3⟩
def nB.dn(k:iN U U' γ w γ' w'):∀{as:List (A0 D)} {vs:List ai},nB U γ w as vs->nB U' γ' w' as vs
 |[],[],_=>trivial
 |a::as,v::vs,h=>⟨h.1.dn k,nB.dn k h.2⟩
 |[],_::_,h=>h.elim
 |_::_,[],h=>h.elim
def fY.dn(k:iN U U' γ w γ' w'):∀{a:A1 D} {v:ai},fY U γ w a v->fY U' γ' w' a v
 | .v l d K t,v,⟨h1,h2,h3⟩=>⟨h1.mono (k.mem h3),h2.dn k,h3⟩
 | .ptr i off,v,⟨h,b,h1,h2⟩=>⟨k.u _ h,b,by rw[k.g _ h];exact h1,h2⟩
 | .el i n j y off tc tj,v,⟨h1,h2,⟨xs,h3,h4⟩,h5,b,f,len,cap,h6,h7⟩=>⟨k.u _ h1,⟨h2.1,k.u _ h2.2⟩,⟨xs,by rw[k.v _ h2.2];exact h3,h4⟩,h5.dn k,b,f,len,cap,by rw[k.g _ h1];exact h6,h7⟩
 | .rp n x off K,v,⟨pa,h1,h2,h3⟩=>⟨pa,h1,h2.mono (k.mem h3),h3⟩
 | .vb n xs K t b,v,⟨⟨h1,h2,h3⟩,h4⟩=>⟨⟨dI.mono (d:=⟨.sl n,xs⟩) (k.mem h3) h1,h2.dn k,h3⟩,h4⟩
 | .own i,v,⟨h,h1,h2⟩=>⟨k.u _ h,by rw[k.g _ h];exact h1,h2⟩
 | .fn f jo,v,⟨cs,h1,h2⟩=>⟨cs,h1,h2.dn k⟩
 | .ch i n j off ct m d,v,⟨h1,h2,⟨xs,y,h3,h4⟩,⟨b,len,cap,cells,h5,h6,h7⟩,h8⟩=>⟨k.u _ h1,⟨h2.1,k.u _ h2.2⟩,⟨xs,y,by rw[k.v _ h2.2];exact h3,h4⟩,⟨b,len,cap,cells,by rw[k.g _ h1];exact h5,by rw[k.g _ h2.2];exact h6,h7⟩,h8⟩
 | .zh i t,v,⟨h1,h2,h3,h4⟩=>⟨k.u _ h1,k.u _ h2,by rw[k.g _ h2];exact h3,h4⟩
 | .tail i n j,v,⟨h1,h2⟩=>⟨k.u _ h1,by rw[k.g _ h1];exact h2⟩
 | .pre i n j,v,⟨h1,h2⟩=>⟨k.u _ h1,by rw[k.g _ h1];exact h2⟩
 | .tt n xs K,v,⟨⟨aJ,h1,h2⟩,h3⟩=>⟨⟨aJ,h1,h2.mono λ_ _=>ad.mono (k.mem h3)⟩,h3⟩
 | .bH,v,h=>h
 | .sF,v,h=>h
 | .DM,v,h=>h
 | .undef,v,h=>h
 | .zS,v,h=>h
 | .wU,v,h=>h
def dj.dn(k:iN U U' γ w γ' w'):∀{as:List (A1 D)} {vs:List ai},dj U γ w as vs->dj U' γ' w' as vs
 |[],[],_=>trivial
 |a::as,v::vs,h=>⟨h.1.dn k,dj.dn k h.2⟩
 |[],_::_,h=>h.elim
 |_::_,[],h=>h.elim
def nA.dn(k:iN U U' γ w γ' w'):∀{a:AC D} {v:ai},nA U γ w a v->nA U' γ' w' a v
 | .one a,v,h=>fY.dn k h
 | .agg l,v,⟨us,h1,h2⟩=>⟨us,h1,h2.dn k⟩
def jr.dn(k:iN U U' γ w γ' w'):∀{as:List (AC D)} {vs:List ai},jr U γ w as vs->jr U' γ' w' as vs
 |[],[],_=>trivial
 |a::as,v::vs,h=>⟨h.1.dn k,jr.dn k h.2⟩
 |[],_::_,h=>h.elim
 |_::_,[],h=>h.elim
def gW.dn(k:iN U U' γ w γ' w'):∀{a:AV D} {v:ai},gW U γ w a v->gW U' γ' w' a v
 | .c x,v,h=>nA.dn k h
 | .dY l,v,⟨us,h1,h2⟩=>⟨us,h1,h2.dn k⟩
def SR.dn(k:iN U U' γ w γ' w'){sl:List (Nat×AV D)}{L:List (Nat×ai)}(h:SR U γ w sl L):SR U' γ' w' sl L:=λt a e=>by obtain⟨v,h1,h2⟩:=h t a e;exact⟨v,h1,h2.dn k⟩
def DU{o:cE}{i:Nat}{v:ai}{b:Nat}(h:lE o i v b=0):o b=i∧xi v b=ab:=by
 unfold lE at h;split at h
 ·rename_i ho;split at h
  ·rename_i hh;exact⟨ho,hh⟩
  ·cases h
 ·cases h
def DT{o:cE}{i:Nat}{v:ai}{b:Nat}(h:lE o i v b=1):o b=i∧xi v b=ae:=by
 unfold lE at h;split at h
 ·rename_i ho;split at h
  ·cases h
  ·rename_i hh;exact⟨ho,by simpa using hh⟩
 ·cases h
def TU{o:cE}{i:Nat}{v:ai}{b:Nat}(h:o b=i)(hh:xi v b=ab):lE o i v b=0:=by unfold lE;rw[aI h,aI hh]
def TT{o:cE}{i:Nat}{v:ai}{b:Nat}(h:o b=i)(hh:xi v b=ae):lE o i v b=1:=by unfold lE;rw[aI h,aK (by simp[hh])]
def DS{o o':cE}{i i':Nat}{v:ai}{w w':ax}(h:∀b,b<w.heap.size->o b=i->o' b=i'∧w'.heap[b]? =w.heap[b]?):
  (∀b,b<w.heap.size->lE o i v b=0->lE o' i' v b=0∧w'.heap[b]? =w.heap[b]?)∧(∀b,b<w.heap.size->lE o i v b=1->lE o' i' v b=1∧w'.heap[b]? =w.heap[b]?):=by
 constructor
 ·intro b hb hc;obtain⟨h1,h2⟩:=DU hc;exact⟨TU (h b hb h1).1 h2,(h b hb h1).2⟩
 ·intro b hb hc;obtain⟨h1,h2⟩:=DT hc;exact⟨TT (h b hb h1).1 h2,(h b hb h1).2⟩
def Vm{α:Type}[ad α]{z:Nat}{T Tc:aX}{o:cE}{k kc:Nat}{v:ai}{xs:List α}{b len cap:Nat}(h:iM z T Tc o k kc w v xs)(hv:v= .slice (aa ⟨b,0,none⟩) len cap):∃aU,o b=k∧w.heap[b]? =aa (.cells aU T (0,0)):=by
 rcases h with⟨rfl,_⟩|⟨g,zi,aU,aJ,rfl,h2,h3,_⟩
 ·cases hv
 ·cases hv;exact⟨aU,h2,h3⟩
def iM.f0{α:Type}[ad α]{z:Nat}{T Tc:aX}{o:cE}{k kc:Nat}{w:ax}{v:ai}{xs:List α}{b f len cap:Nat}(h:iM z T Tc o k kc w v xs)(hv:v= .slice (aa ⟨b,f,none⟩) len cap):f=0:=by
 rcases h with⟨rfl,_⟩|⟨g,zi,aU,aJ,rfl,_⟩
 ·cases hv
 ·cases hv;rfl
def QB.mono{γ γ':Gh D}{w w':ax}{i i' h h':Nat}(hg:γ'.g i'=γ.g i)(hh:γ'.g h'=γ.g h)(hb:∀b n c,γ.g i= .slice (aa ⟨b,0,none⟩) n c->w'.heap[b]? =w.heap[b]?)(k:QB γ w i h):QB γ' w' i' h':=by obtain⟨cells,h1,h2⟩:=k;refine⟨cells,by rw[hh];exact h1,λb n c q e=>?_⟩;rw[hg]at e;rw[<-h2 b n c q e];exact ax.cell?_of_block (hb b n c e)
def OR.dn(k:iN U U' γ w γ' w'){i:Nat}(hU:U i)(hb:∀b,b<w.heap.size->γ.o b=i->γ'.o b=γ.o b∧w'.heap[b]? =w.heap[b]?):∀{x:AO D},OR U γ w i x->OR U' γ' w' i x
 | .box cs,⟨b,us,t,h1,h2,h3,h4,h5⟩=>by have aS:b<w.heap.size:=(iR.1 h3).1;obtain⟨e1,e2⟩:=hb b aS h2;exact⟨b,us,t,by rw[k.g _ hU];exact h1,by rw[e1];exact h2,by rw[e2];exact h3,h4.dn k,h5⟩
 | .sl n t xs K g,⟨h1,h2,h3⟩=>by
   refine⟨?_,h2,h3.dn k⟩;rw[k.g _ hU];rcases h1 with h1|⟨g,f,cap,aU,aJ,e1,e2,e3,e4,e5,e6,e7,e8⟩
   ·exact .inl h1
   ·have aS:g<w.heap.size:=(iR.1 e3).1;obtain⟨f1,f2⟩:=hb g aS e2;exact .inr ⟨g,f,cap,aU,aJ,e1,by rw[f1];exact e2,by rw[f2];exact e3,e4,e5,e6,e7.mono λ_ _=>ad.mono (k.mem h2),e8⟩
 | .df n t tc m xs g h,⟨h1,h2,h3⟩=>by
   obtain⟨m0,m1⟩:=DS (v:=γ.g i) (o:=γ.o) (o':=γ'.o) (i:=i) (i':=i) (w:=w) (w':=w') λb iq ho=>by obtain⟨f1,f2⟩:=hb b iq ho;exact⟨by rw[f1];exact ho,f2⟩
   have hg:=k.g _ hU;refine⟨by rw[hg];exact h1.mono m0 m1,h2.dn k,?_⟩;rcases h3 with h3|⟨h3,h4,h5⟩
   ·exact .inl h3
   ·refine .inr ⟨k.u _ h3,by rw[k.v _ h3];exact h4,h5.mono hg (k.g _ h3) λb n c e=>?_⟩;obtain⟨aU,e1,e2⟩:=Vm h1 e;exact(hb b (iR.1 e2).1 (DU e1).1).2
 | .iH n t tc m xs j off s g,⟨h1,h2,b,len,cap,h3,h4⟩=>by
   obtain⟨m0,m1⟩:=DS (v:=γ.g i) (o:=γ.o) (o':=γ'.o) (i:=i) (i':=i) (w:=w) (w':=w') λb iq ho=>by obtain⟨f1,f2⟩:=hb b iq ho;exact⟨by rw[f1];exact ho,f2⟩
   have hg:=k.g _ hU;exact⟨h1.dn k,k.u _ h2,b,len,cap,by rw[hg];exact h3,by rw[hg,k.g _ h2];exact h4.mono m0 m1⟩
 | .fz n xs K,⟨h1,h2⟩=>⟨by rw[k.g _ hU];exact dI.mono (d:=⟨.sl n,xs⟩) (k.mem h2) h1,h2⟩
 | .mp n xs,h=>by
   show rX γ'.o i w' (γ'.g i) xs;rw[k.g _ hU];exact rX.mono h λb iq ho=>by obtain⟨f1,f2⟩:=hb b iq ho;exact⟨by rw[f1];exact ho,f2⟩
def SR.look{sl:List (Nat×AV D)}{L:List (Nat×ai)}(h:SR U γ w sl L){t:Nat}{a:AV D}(e:aF sl t=aa a):∃v,Dp.look L t=aa v∧gW U γ w a v:=h t a e
def SR.cons{sl:List (Nat×AV D)}{L:List (Nat×ai)}{d:Nat}{a:AV D}{v:ai}(h:SR U γ w sl L)(hv:gW U γ w a v):SR U γ w ((d,a)::sl) ((d,v)::L):=λt b e=>by
 unfold aF at e;unfold Dp.look;cases hb:aW d t with
 |true=>simp only[hb,wi,fK]at e⊢;subst e;exact⟨v,rfl,hv⟩
 |false=>simp only[hb,sd]at e⊢;exact h t b e
end
end
end Rx
end Go.Proofs.YtgaghlbepnjhiaaGreat
namespace Go.Proofs.YtgaghlbepnjhiaaGreat
open Go Go.RowKit Dp
namespace Rx
section
variable {D:Nat->Type}
def Q.R{α:Type}(ob:List (Nat×Option (AO D))):Q D α->List Nat->α->Prop
 | .ret b,l,a=>l=[]∧a=b
 | .fail,_,_=>False
 | .obj i f,l,a=>∃x l',dC ob i=aa x∧l=i::l'∧Q.R ob (f x) l' a
 | .part o f,l,a=>∃y,o=aa y∧Q.R ob (f y) l a
def Q.IC{ρ α:Type}{ob:List (Nat×Option (AO D))}{r:ρ}:∀{q:Q D α} {lg:List Nat} {k:α->List Nat->Option ρ},q.go ob lg k=aa r->∃l a,Q.R ob q l a∧k a (l.reverse++lg)=aa r:=by
 intro q;induction q with
 |ret b=>intro lg k h;exact⟨[],b,⟨rfl,rfl⟩,h⟩
 |fail=>intro lg k h;cases h
 |obj i f ih=>
  intro lg k h;simp only[Q.go]at h;split at h
  ·rename_i x hx;obtain⟨l,a,h1,h2⟩:=ih x h;exact⟨i::l,a,⟨x,l,hx,rfl,h1⟩,by simpa using h2⟩
  ·cases h
 |part o f ih=>intro lg k h;simp only[Q.go,nL]at h;obtain⟨y,hy,h⟩:=nZ h;obtain⟨l,a,h1,h2⟩:=ih y h;exact⟨l,a,⟨y,hy,h1⟩,h2⟩
def Q.ga{α β:Type}{ob:List (Nat×Option (AO D))}{f:α->Q D β}{b:β}:∀{q:Q D α} {l:List Nat},Q.R ob (q.bind f) l b->∃l1 l2 a,l=l1++l2∧Q.R ob q l1 a∧Q.R ob (f a) l2 b:=by
 intro q;induction q with
 |ret c=>intro l h;exact⟨[],l,c,rfl,⟨rfl,rfl⟩,h⟩
 |fail=>intro l h;exact h.elim
 |obj i g ih=>intro l h;obtain⟨x,l',h1,rfl,h2⟩:=h;obtain⟨l1,l2,a,rfl,h3,h4⟩:=ih x h2;exact⟨i::l1,l2,a,rfl,⟨x,l1,h1,rfl,h3⟩,h4⟩
 |part o g ih=>intro l h;obtain⟨y,hy,h2⟩:=h;obtain⟨l1,l2,a,rfl,h3,h4⟩:=ih y h2;exact⟨l1,l2,a,rfl,⟨y,hy,h3⟩,h4⟩
end
section
variable {D:Nat->Type} [∀n,ad (D n)]
def jG(U:Nat->Prop)(ar:Nat):Nat->Prop:=λi=>U i∨(ar<=i∧i<ar+128)
structure dW(U:Nat->Prop)(ar:Nat)(γ:Gh D)(w:ax)(ob:List (Nat×Option (AO D)))(e:de D)(γ':Gh D)(v:ai)(w':ax):Prop where
 fr:Frame γ w γ' w'
 kp:iN U (jG U ar) γ w γ' w'
 dst:gW (jG U ar) γ' w' e.dst v
 ob:OB (jG U ar) γ' w' (e.fz.map (λi=>(i,none))++e.sv++ob)
structure Cx(U:Nat->Prop)(ar:Nat)(γ:Gh D)(w:ax)(sl:List (Nat×AV D))(L:List (Nat×ai))(ob:List (Nat×Option (AO D))):Prop where
 sr:SR U γ w sl L
 ob:OB U γ w ob
 fresh:∀i,ar<=i->i<ar+128->¬U i
 cO:1000<=ar
def rel(ps:List (Nat×Nat))(x:Nat):Nat:=match aF ps x with
 |some y=>y
 |none=>x
def dS{α:Type}:∀{l:List (Nat×α)} {t:Nat} {a:α},aF l t=aa a->(t,a)∈l
 |[],t,a,h=>by simp[aF]at h
 |p::r,t,a,h=>by
  unfold aF at h;cases hb:aW p.1 t with
  |true=>simp only[hb,wi,fK]at h;have:=bA hb;subst this;subst h;simp
  |false=>simp only[hb,sd]at h;exact List.mem_cons_of_mem _ (dS h)
def yA{α:Type}:∀{l:List (Nat×α)} {t:Nat},aF l t=none->∀a,(t,a)∉l
 |[],t,h,a=>by simp
 |p::r,t,h,a=>by
  unfold aF at h;cases hb:aW p.1 t with
  |true=>simp[hb]at h
  |false=>
   simp only[hb,sd]at h;intro hm;rcases cj.1 hm with rfl|hm
   ·simp at hb
   ·exact yA h a hm
def kq{α:Type}:∀(l l':List (Nat×α)) (t:Nat),aF (l++l') t=match aF l t with
  |some a=>aa a
  |none=>aF l' t
 |[],l',t=>by simp[aF]
 |p::r,l',t=>by
  simp only[List.cons_append,aF];cases hb:aW p.1 t with
  |true=>simp
  |false=>simp only[sd];exact kq r l' t
def qx{α:Type}:∀{l:List (Nat×α)} {t:Nat},aF l t=none↔t∉l.map Prod.fst
 |[],t=>by simp[aF]
 |p::r,t=>by
  simp only[aF,gC,cj,not_or];cases hb:aW p.1 t with
  |true=>have:=bA hb;simp[this]
  |false=>
   have bM:¬t=p.1:=λe=>by subst e;simp at hb
   simp only[sd,bM,not_false_eq_true,true_and];exact qx
section
variable {U:Nat->Prop} {γ:Gh D} {w w':ax} {ob:List (Nat×Option (AO D))} {ar:Nat} {e:de D} {v:ai}
def aqb{ps:List (Nat×Nat)}(pI:∀p∈ps,1000<=p.1){x:Nat}(hx:x<1000):rel ps x=x:=by
 unfold rel;split
 ·rename_i y hy;have:=pI _ (dS hy);simp only at this;omega
 ·rfl
def acs{M N:List Nat}{ps:List (Nat×Nat)}{o':cE}{g':Nat->ai}{v':Nat->DV D}(ev:bJ M N γ.o w o' w')(hM:∀x∈M,1000<=x)(pI:∀p∈ps,1000<=p.1)(hg:∀i,U i->g' i=γ.g i)(hv:∀i,U i->v' i=γ.v i):
  iN U (jG U ar) γ w ⟨λb=>rel ps (o' b),g',v'⟩ w':=
 ⟨λi h=> .inl h,hg,hv,λb hb hc=>⟨by simp only;rw[ev.fU b hb];exact aqb pI (by omega),ev.nu b hb λhm=>by have:=hM _ hm;omega⟩⟩
def nN{α:Type}{i j:Nat}{a x:α}(h:aF [(i,a)] j=aa x):i=j∧x=a:=by have:=dS h;simp only[List.mem_singleton,wj]at this;exact⟨this.1.symm,this.2⟩
def mkPost{M N:List Nat}{ps:List (Nat×Nat)}{o':cE}{g':Nat->ai}{v':Nat->DV D}(bK:OB U γ w ob)(ev:bJ M N γ.o w o' w')
  (hM:∀x∈M,1000<=x∧U x∧x∈e.wr) (hN:∀x∈N,x∈M∨(ar<=x∧x<ar+128)) (pI:∀p∈ps,1000<=p.1∧(U p.1->p.1∈e.wr)∧(p.2=1∨(ar<=p.2∧p.2<ar+128)))
  (qK:1000<=ar) (hg:∀i,U i->g' i=γ.g i) (hv:∀i,U i->v' i=γ.v i)
  (Br:gW (jG U ar) ⟨λb=>rel ps (o' b),g',v'⟩ w' e.dst v)
  (Um:∀i x,aF e.sv i=aa (aa x)->i∉e.fz->1000<=i∧jG U ar i∧OR (jG U ar) ⟨λb=>rel ps (o' b),g',v'⟩ w' i x):
  dW U ar γ w ob e ⟨λb=>rel ps (o' b),g',v'⟩ v w':=by
 have A4:∀x,x<1000->rel ps x=x:=λx hx=>by
  unfold rel;split
  ·rename_i y hy;have:=(pI _ (dS hy)).1;simp only at this;omega
  ·rfl
 have auA:∀x,rel ps x<1000->rel ps x=x∨rel ps x=1:=λx hx=>by
  unfold rel at hx⊢;split
  ·rename_i y hy;rw[hy]at hx;rcases(pI _ (dS hy)).2.2 with h|h
   ·exact .inr h
   ·simp only at h hx;omega
  ·exact .inl rfl
 have hold:∀b,b<w.heap.size->γ.o b<4->rel ps (o' b)=γ.o b∧w'.heap[b]? =w.heap[b]? :=λb hb h4=>by have h1:=ev.fU b hb;refine⟨by rw[h1];exact A4 _ (by omega),ev.nu b hb λhm=>?_⟩;have:=(hM _ hm).1;omega
 have eF:Frame γ w ⟨λb=>rel ps (o' b),g',v'⟩ w':=by
  refine⟨⟨ev.os,ev.tape,ev.output,ev.size,λb hb hc=>hold b hb (by omega),λb hb hc=>?_⟩,λi hi=>hg i (bK.ro i hi)⟩;simp only at hc⊢;have h1:rel ps (o' b)=o' b:=by
   rcases auA (o' b) (by omega)with h|h
   ·exact h
   ·omega
  rw[h1]at hc;by_cases aS:b<w.heap.size
  ·exact⟨aS,by rw[h1,ev.fU b aS]⟩
  ·have h2:=ev.new b (by omega) hb;rcases hN _ h2 with h|h
   ·have:=(hM _ h).1;omega
   ·omega
 have fE:iN U (jG U ar) γ w ⟨λb=>rel ps (o' b),g',v'⟩ w':=
  ⟨λi h=> .inl h,hg,hv,λb hb hc=>hold b hb (by omega)⟩
 refine⟨eF,fE,Br,λi x hx=>?_,λb hb=>?_,λx hx=> .inl (bK.ro x hx)⟩
 ·by_cases ky:i∈e.fz
  ·exfalso;unfold dC at hx;rw[eg,kq]at hx;have:aF (e.fz.map λi=>(i,(none:Option (AO D)))) i=aa none:=by
    have h1:¬aF (e.fz.map λi=>(i,(none:Option (AO D)))) i=none:=by rw[qx];simpa using ky
    cases hl:aF (e.fz.map λi=>(i,(none:Option (AO D)))) i with
    |none=>exact(h1 hl).elim
    |some y=>have:=dS hl;simp only[dk]at this;obtain⟨_,_,h3⟩:=this;cases h3;rfl
   rw[this]at hx;cases hx
  ·have h0:aF (e.fz.map λi=>(i,(none:Option (AO D)))) i=none:=by
    rw[qx];simpa using ky
   unfold dC at hx;rw[eg,kq,h0]at hx;simp only at hx;rw[kq]at hx;cases hu:aF e.sv i with
   |some y=>
    rw[hu]at hx;cases y with
    |none=>cases hx
    |some y=>cases hx;exact Um i x hu ky
   |none=>
    rw[hu]at hx;simp only at hx;obtain⟨h1,h2,h3⟩:=bK.ob i x hx;have rI:i∉e.wr:=by unfold de.wr;rw[bg,not_or];exact⟨qx.1 hu,ky⟩
    refine⟨h1,.inl h2,h3.dn fE h2 λb hb hc=>?_⟩;have hM':i∉M:=λhm=>rI (hM _ hm).2.2;have hr:rel ps i=i:=by
     unfold rel;split
     ·rename_i y hy;exact(rI ((pI _ (dS hy)).2.1 h2)).elim
     ·rfl
    exact⟨by simp only;rw[ev.fU b hb,hc,hr],ev.nu b hb (by rw[hc];exact hM')⟩
 ·simp only;have h1:U (o' b)∨(ar<=o' b∧o' b<ar+128):=by
   by_cases aS:b<w.heap.size
   ·rw[ev.fU b aS];exact .inl (bK.cl b aS)
   ·rcases hN _ (ev.new b (by omega) hb)with h|h
    ·exact .inl (hM _ h).2.1
    ·exact .inr h
  unfold rel;split
  ·rename_i y hy;rcases(pI _ (dS hy)).2.2 with h|h
   ·simp only at h;subst h;exact .inl (bK.ro 1 (by omega))
   ·exact .inr h
  ·exact h1
end
def arC{U U':Nat->Prop}{γ γ':Gh D}{w w':ax}{ob:List (Nat×Option (AO D))}{e:de D}(bK:OB U γ w ob)(k:iN U U' γ w γ' w')(hun:∀i,U i->1000<=i->i∉e.wr->∀b,b<w.heap.size->γ.o b=i->γ'.o b=γ.o b∧w'.heap[b]? =w.heap[b]?)
  (dh:∀b,b<w'.heap.size->U' (γ'.o b)) (Um:∀i x,aF e.sv i=aa (aa x)->i∉e.fz->1000<=i∧U' i∧OR U' γ' w' i x):OB U' γ' w' (e.fz.map (λi=>(i,none))++e.sv++ob):=by
 refine⟨λi x hx=>?_,dh,λx hx=>k.u _ (bK.ro x hx)⟩
 by_cases ky:i∈e.fz
 ·exfalso;unfold dC at hx;rw[eg,kq]at hx;have:aF (e.fz.map λi=>(i,(none:Option (AO D)))) i=aa none:=by
   have h1:¬aF (e.fz.map λi=>(i,(none:Option (AO D)))) i=none:=by rw[qx];simpa using ky
   cases hl:aF (e.fz.map λi=>(i,(none:Option (AO D)))) i with
   |none=>exact(h1 hl).elim
   |some y=>have:=dS hl;simp only[dk]at this;obtain⟨_,_,h3⟩:=this;cases h3;rfl
  rw[this]at hx;cases hx
 ·have h0:aF (e.fz.map λi=>(i,(none:Option (AO D)))) i=none:=by
   rw[qx];simpa using ky
  unfold dC at hx;rw[eg,kq,h0]at hx;simp only at hx;rw[kq]at hx;cases hu:aF e.sv i with
  |some y=>
   rw[hu]at hx;cases y with
   |none=>cases hx
   |some y=>cases hx;exact Um i x hu ky
  |none=>
   rw[hu]at hx;simp only at hx;obtain⟨h1,h2,h3⟩:=bK.ob i x hx;have rI:i∉e.wr:=by unfold de.wr;rw[bg,not_or];exact⟨qx.1 hu,ky⟩
   exact⟨h1,k.u _ h2,h3.dn k h2 (hun i h2 h1 rI)⟩
structure bj(P:cT)(t:aX)(g:Bool)(z:List ai):Prop where
 agg:∃d,P.underlying t=aa d∧T2 d=g
 m_:∃i,P.info? t=aa i∧i.size=z.length∧i.zero=aa (pack g z)
section
variable {P:cT} {Qx:Exit->Act->ax->Prop} {L:List (Nat×ai)} {w:ax} {d:Option Tmp} {ty:aX} {pos:String} {af:Array Edge} {g:Option (Nat×Bool)} {t:aX} {x u:ba} {a:Bool} {z:List ai} {o:cE}
def bj.isAgg(h:bj P t a z)(w:ax):(isAgg t).run P w= .ok a w:=by obtain⟨d,h1,h2⟩:=h.agg;unfold Go.isAgg;rw[Sem.run_bind,run_underlying h1 w];simp only[Result.andThen_ok];rw[<-h2];cases d<;>rfl
def bj.sizeOf(h:bj P t a z)(w:ax):(sizeOf t).run P w= .ok z.length w:=by obtain⟨i,h1,h2,_⟩:=h.m_;simp[Go.sizeOf,typeInfo,h1,h2]
def bj.zero(h:bj P t a z)(w:ax):(zeroValue t).run P w= .ok (pack a z) w:=by obtain⟨i,h1,_,h4⟩:=h.m_;simp[zeroValue,typeInfo,h1,h4]
def OW.MY [Rd]{pa:Addr}{cs:List ai}(hT:bj P t a z)(hz:a=ae->z.length=1)(hx:ev L x=aa (.pointer (aa pa)))(hc:j_ w pa cs)(hl:cs.length=z.length):
  OW P Qx L ⟨d,.load t x,ty,pos,af,g⟩ w (λv' w'=>v'=pack a cs∧w'=w):=by
 refine OW.run λb hb=>⟨pack a cs,w,?_,rfl,rfl⟩
 have fD:(loadVar t pa).run P w= .ok (pack a cs) w:=by
  simp only[loadVar,Sem.run_bind,hT.isAgg,Result.andThen_ok];cases a with
  |true=>have:=run_loadCells_list (P:=P) w pa cs hc;rw[hl]at this;simp[hT.sizeOf,this,pack]
  |false=>
   rw[hz rfl]at hl;match cs,hl,hc with
   |[u],_,hc=>
    have:=hc 0 u rfl;have hu:w.cell? pa=aa u:=by simpa[Addr.add]using this
    simp[pack,hu]
 simp[execOp,hb _ _ hx,Instr.loadAt,Instr.sureAddr,fD]
def OW.aoS [Rd]{b off:Nat}{cs vs:List ai}{T':aX}{v:ai}{c:Nat}(hT:bj P t a z)(hx:ev L x=aa (.pointer (aa ⟨b,off,none⟩)))(hu:ev L u=aa v)(hb:w.heap[b]? =aa (.cells cs.toArray T' (0,0)))(ho:o b=c)
  (hv:v.cells=vs.toArray) (h1:∀u∈vs,u.oneCell'=ab) (hl:vs.length=z.length) (hle:off+vs.length<=cs.length):
  OW P Qx L ⟨d,.store t x u,ty,pos,af,g⟩ w (λv' w'=>v'=undef∧bJ [c] [] o w o w'∧w'.heap[b]? =aa (.cells (cs.take off++vs++cs.drop (off+vs.length)).toArray T' (0,0))):=by
 have b6:=run_storeCells_at P b off T' vs 0 cs.toArray w hb (by simp;omega) h1
 simp only[Nat.add_zero]at b6
 have b8:bJ [c] [] o w o (w.setRow b (cs.take off++vs++cs.drop (off+vs.length)).toArray):=bJ.row _ ho
 refine OW.LP λa ha=>⟨_,?_,rfl,b8,setRow_heap w b _ _ T' _ hb⟩
 simp[execOp,ha _ _ hx,ha _ _ hu,Instr.storeAt,Instr.sureAddr,storeVar,hT.sizeOf,hv,hl,b6]
def OW.aDW [Rd](c:Nat)(hT:bj P t a z)(hz:a=ae->∃u,z=[u]∧u.oneCell'=ab):
  OW P Qx L ⟨d,.alloc t,ty,pos,af,g⟩ w (λv' w'=>∃b,v'=fT b 0∧w.heap.size<=b∧bJ [] [c] o w (grow o w c) w'∧w'.heap[b]? =aa (.cells z.toArray t (0,0))):=by
 refine OW.run λb ha=>⟨_,w.alloc (.cells z.toArray t),?_,w.heap.size,rfl,bw _,bJ.alloc o w _ c,heap_alloc_new w _⟩
 have pJ:(pack a z).cells=z.toArray:=by
  cases a with
  |true=>rfl
  |false=>obtain⟨u,rfl,h1⟩:=hz rfl;exact O4 h1
 simp[execOp,Instr.alloc,hT.zero,newVar,newRow,pJ,newObj]
 rfl
def OW.aDC [Rd]{v:ai}(c:Nat)(cs:List ai)(hx:ev L u=aa v)(hv:v.cells=cs.toArray):
  OW P Qx L ⟨d,.box t u,ty,pos,af,g⟩ w (λv' w'=>∃b,v'=fT b 0∧w.heap.size<=b∧bJ [] [c] o w (grow o w c) w'∧w'.heap[b]? =aa (.cells cs.toArray t (0,0))):=by
 refine OW.run λa ha=>⟨_,w.alloc (.cells cs.toArray t),?_,w.heap.size,rfl,bw _,bJ.alloc o w _ c,heap_alloc_new w _⟩
 simp[execOp,ha _ _ hx,Instr.box,newVar,newRow,hv,newObj]
 rfl
def OW.aDo [Rd]{parts:List (Nat×ba)}{vs:List (Nat×ai)}{pl:List (Nat×Nat)}(su:List (Nat×List ai))(jm:List ai)(b6:FC P t pl)(hT:bj P t ab z)(hp:BJ L parts=aa vs)(hc:Qw vs su)(hf:BH pl z su=aa jm):
  OW P Qx L ⟨d,.build t parts.toArray,ty,pos,af,g⟩ w (λv' w'=>v'= .agg jm.toArray∧w'=w):=by
 obtain⟨fs,h1,h2⟩:=b6.fs
 obtain⟨i,fP,eb,mK⟩:=hT.m_
 have h3:=afv hc hf
 refine OW.run λa ha=>⟨.agg jm.toArray,w,?_,rfl,rfl⟩
 have A7:(parts.toArray.map λ(x:Nat×ba)=>(x.1,a.eval x.2)).toList=vs:=by rw[<-afy ha hp];simp
 have UG:(pack ab z).cells=z.toArray:=rfl
 have hb:P.built t (parts.toArray.map λ(x:Nat×ba)=>(x.1,a.eval x.2)).toList=aa jm.toArray:=by simp only[cT.built,fP,h1,mK,h2,UG,A7,h3]
 have hr:=run_build (P:=P) w t _ _ hb
 simp only[execOp,Sem.run_bind]
 rw[hr]
 rfl
end
end
end Rx
end Go.Proofs.YtgaghlbepnjhiaaGreat
namespace Go.Proofs.YtgaghlbepnjhiaaGreat
open Go Go.RowKit Dp
namespace Rx
section
variable {D:Nat->Type} [∀n,ad (D n)]
def F'(T:bc D):lc->List ai
 | .one (.int k)=>[.int k 0]
 | .one .bool=>[.bool ae]
 | .one .str=>[.string tz]
 | .one (.sl _)=>[.slice none 0 0]
 | .st n=>wl (T.lv n)
 | .ptr=>[.pointer none]
 | .fn=>[.nilFunc]
def cp(P:cT)(T:bc D)(t:aX)(d:lc):Prop:=
 bj P t d.agg (F' T d)∧match d with
  | .one (.int k)=>P.underlying t=aa (.int k)
  | .one .bool=>P.underlying t=aa .bool
  | .one .str=>P.underlying t=aa .string
  |_=>True
structure JV(P:cT)(D:Nat->Type)[∀n,ad (D n)](n tc m:Nat):Prop where
 one:nD (D n)
 flat:Flat (D m)
 ty:bN P tc (D m)
 zc:QN (ad.zc (D n))=ab
structure QF(P:cT)(D:Nat->Type)[∀n,ad (D n)](t m e n:Nat):Prop where
 u0:P.underlying t=aa (.array m e)
 el:bN P e (D n)
 z:∃i z,P.info? t=aa i∧i.zero=aa z∧z.cells.size=m*ad.sz (D n)
def ii:List Lf->List ai->Prop
 |[],[]=>True
 |l::r,v::vs=>(match l with| .int k=>∃a,v= .int k a| .bool=>∃b,v= .bool b| .str=>∃s,v= .string s| .sl _=>False)∧ii r vs
 |_,_=>False
def gN(P:cT)(t:aX)(g:Bool)(ls:List Lf)(k:Nat):Prop:=∀(d:Nat) (w:ax) (us vs:List ai),ii ls us->ii ls vs->∃r:Bool,(Op.equalIn (d+k) t (pack g us) (pack g vs)).run P w= .ok r w∧(r=ab↔us=vs)
structure zB(P:cT)(t:aX)(ls:List Lf):Prop where
 eq:∃k,k<=10000∧gN P t ab ls k
 guard:P.eqGuardType P.depth t=ae
structure mQ(P:cT)(kt:aX)(ls:List Lf):Prop where
 check:∀(w:ax) (em:Bool) (ks:List ai),ii ls ks->(Instr.checkKey em 10000 kt (gG ks)).run P w= .ok () w
 find:∀(w:ax) (ks:List ai),ii ls ks->∀es:List gP,(∀e∈es,∃us,ii ls us∧e.key=gG us)->
  ((Instr.findKey kt (gG ks) es).run P w= .ok none w∧∀e∈es,e.key≠gG ks)∨∃j e,(Instr.findKey kt (gG ks) es).run P w= .ok (aa (j,e.val)) w∧es[j]? =aa e∧e.key=gG ks
 stays:∀(w:ax) (ks:List ai),ii ls ks->(Instr.keyThatStays (gG ks) (gG ks)).run P w= .ok (gG ks) w
structure JS(P:cT)(T:bc D)(t kt vt n:Nat):Prop where
 u0:P.underlying t=aa (.map kt vt)
 key:mQ P kt (T.lv n).dropLast
 flat:(T.lv n).all jE=ab
 val:∃l,yD (T.lv n)=aa l∧bj P vt ae (wl [l])
structure ef(P:cT)(T:bc D):Prop where
 ty:∀t d,aF T.ty t=aa d->cp P T t d
 dp:∀t e n,aF T.dp t=aa (e,n)->P.underlying t=aa (.slice e)∧bN P e (D n)
 uu:∀t l,aF T.uu t=aa l->FC P t l∧∀i off sz,l[i]? =aa (off,sz)->FR P t i off
 BK:∀t ls,aF T.BK t=aa ls->zB P t ls∧ls.all jE=ab
 kd:∀n tc m,aF T.kd n=aa (tc,m)->JV P D n tc m
 qV:∀t m e n,aF T.qV t=aa (m,e,n)->QF P D t m e n
 qo:∀t kt vt n,aF T.qo t=aa (kt,vt,n)->JS P T t kt vt n
variable {P:cT} {T:bc D} {Qx:Exit->Act->ax->Prop} {U:Nat->Prop} {ar:Nat} {γ:Gh D} {w:ax} {sl:List (Nat×AV D)} {L:List (Nat×ai)} {ob:List (Nat×Option (AO D))}
 {d:Option Tmp} {ty:aX} {pos:String} {af:Array Edge} {gd:Option (Nat×Bool)} {e:de D} {l:List Nat}
def Y5:∀ls:List Lf,(wl ls).length=ls.length
 |[]=>rfl
 |l::r=>by simp[wl,Y5 r]
def F_(T:bc D):∀ty:lc,(F' T ty).length=ty.n T
 | .one (.int k)=>rfl
 | .one .bool=>rfl
 | .one .str=>rfl
 | .one (.sl _)=>rfl
 | .st n=>Y5 _
 | .ptr=>rfl
 | .fn=>rfl
def QM(T:bc D):∀ty:lc,ty.agg=ae->(F' T ty).length=1
 | .one (.int k),_=>rfl
 | .one .bool,_=>rfl
 | .one .str,_=>rfl
 | .one (.sl _),_=>rfl
 | .st n,h=>by cases h
 | .ptr,_=>rfl
 | .fn,_=>rfl
def DK:∀(ts:List Lf) (h:HL D ts),(tO ts h).map DV.l=ts
 |[],_=>rfl
 |[l],x=>rfl
 |l::m::r,x=>by simp[tO,DK (m::r) x.2]
def Ku:∀{ts:List Lf} {ds:List (DV D)},ds.map DV.l=ts->∃h,toHL ts ds=aa h
 |[],[],_=>⟨(),rfl⟩
 |[],_::_,h=>by simp at h
 |[l],[⟨l',d⟩],h=>by simp at h;subst h;exact⟨d,by simp[toHL]⟩
 |[l],[],h=>by simp at h
 |[l],_::_::_,h=>by simp at h
 |l::m::r,[],h=>by simp at h
 |l::m::r,⟨l',d⟩::ds,h=>by simp only[gC,List.cons.injEq]at h;obtain⟨rfl,h⟩:=h;obtain⟨x,hx⟩:=Ku h;exact⟨(d,x),by simp only[toHL,hx,dif_pos]⟩
def Hv(T:bc D)(n off m:Nat)(x:D n):List (D m):=match(T.out n x)[off]? with
 |some ⟨.sl m',d⟩=>if h:m'=m then h▸d else []
 |_=>[]
def AJ(T:bc D)(n off m:Nat)(x:D n)(l:List (D m)):D n:=match T.jf n ((T.out n x).set off ⟨.sl m,l⟩)with
 |some y=>y
 |none=>x
def acT{n off m:Nat}{x:D n}{d:List (D m)}(h:(T.out n x)[off]? =aa ⟨.sl m,d⟩):Hv T n off m x=d:=by unfold Hv;rw[h];simp
def acU{n off m:Nat}(x:D n)(h:(T.lv n)[off]? =aa (.sl m)):(T.out n x)[off]? =aa ⟨.sl m,Hv T n off m x⟩:=by
 have hk:((T.out n x).map DV.l)[off]? =aa (.sl m):=by rw[bc.out,DK];exact h
 rw[List.getElem?_map]at hk;cases hd:(T.out n x)[off]? with
 |none=>rw[hd]at hk;cases hk
 |some y=>obtain⟨l,d⟩:=y;rw[hd]at hk;simp only[Option.map_some,fK]at hk;subst hk;rw[acT hd]
def TR(hR:cK T){n off m:Nat}{x:D n}{l:List (D m)}(h:(T.lv n)[off]? =aa (.sl m)):T.out n (AJ T n off m x l)=(T.out n x).set off ⟨.sl m,l⟩:=by
 have hk:((T.out n x).set off ⟨.sl m,l⟩).map DV.l=T.lv n:=by
  rw[List.map_set,bc.out,DK];apply xL;intro i;rw[o_];by_cases hi:off=i
  ·subst hi;rw[aI rfl,h];simp[(g9.1 h).1]
  ·rw[aK hi]
 obtain⟨y,hy⟩:=Ku hk;have hm:T.jf n ((T.out n x).set off ⟨.sl m,l⟩)=aa (T.AA n y):=by unfold bc.jf;rw[hy]
 unfold AJ;rw[hm];exact hR.jf hm
def cz.at{S:Nat->Prop}{w:ax}:∀{vs:List ai} {ds:List (DV D)},cz S w vs ds->∀{i:Nat} {d:DV D},ds[i]? =aa d->∃u,vs[i]? =aa u∧dI S w u d
 |[],[],_,i,d,h=>by simp at h
 |v::vs,e::ds,hl,0,d,h=>by cases h;exact⟨v,rfl,hl.1⟩
 |v::vs,e::ds,hl,i+1,d,h=>by obtain⟨u,h1,h2⟩:=cz.at hl.2 (i:=i) (by simpa using h);exact⟨u,by simpa using h1,h2⟩
 |[],_::_,hl,_,_,_=>hl.elim
 |_::_,[],hl,_,_,_=>hl.elim
def cz.setAt{S:Nat->Prop}{w:ax}{u:ai}{d:DV D}(hu:dI S w u d):∀{vs:List ai} {ds:List (DV D)},cz S w vs ds->∀(i:Nat),cz S w (vs.set i u) (ds.set i d)
 |[],[],_,_=>trivial
 |v::vs,e::ds,hl,0=>⟨hu,hl.2⟩
 |v::vs,e::ds,hl,i+1=>⟨hl.1,cz.setAt hu hl.2 i⟩
 |[],_::_,hl,_=>hl.elim
 |_::_,[],hl,_=>hl.elim
def asY(hR:cK T){n off m:Nat}(h:(T.lv n)[off]? =aa (.sl m)):kD off (Hv T n off m) (AJ T n off m):=by
 refine⟨?_,?_,?_⟩
 ·intro S w cs x hr;rw[hR.rd]at hr;obtain⟨u,h1,h2⟩:=cz.at hr (acU x h);have aS:=(g9.1 h1).1;refine⟨cs.take off,[u],cs.drop (off+1),?_,by simp;omega,Rv.SU h2 rfl⟩;have:=zZ (x:=u) aS;rw[this];apply xL;intro i;rw[o_];by_cases hi:off=i
  ·subst hi;rw[aI rfl,aI aS,h1]
  ·rw[aK hi]
 ·intro S w cs x c' y hr hy;rw[hR.rd]at hr⊢;rw[TR hR h];have hl:=ad.len hy;have ni:c'.length=1:=hl;match c',ni with
  |[u],_=>
   have Ba:off<cs.length:=by obtain⟨u',h1,_⟩:=cz.at hr (acU x h);exact(g9.1 h1).1
   show cz _ _ (cs.take off++[u]++cs.drop (off+1)) _;rw[zZ Ba];exact cz.setAt (d:=⟨.sl m,y⟩) ⟨[u],rfl,hy⟩ hr off
 ·intro x a b;unfold AJ;have e:=TR hR (x:=x) (l:=a) h;unfold AJ at e;rw[e,List.set_set];have hk:=TR hR (x:=x) (l:=b) h;cases hm:T.jf n ((T.out n x).set off ⟨.sl m,b⟩)with
  |some y=>rfl
  |none=>
   exfalso;unfold bc.jf at hm;split at hm
   ·cases hm
   ·rename_i hn;obtain⟨z,hz⟩:=Ku (ts:=T.lv n) (ds:=(T.out n x).set off ⟨.sl m,b⟩) (by rw[<-hk,bc.out,DK])
    rw[hz]at hn;cases hn
def MF(d:DV D):named U γ 0 d:= .inl rfl
def lz:eo []:=λx h=>by cases h
def azc{v:ai}{a:AV D}(h:WH v=aa a):gW U γ w a v:=by
 unfold WH at h;split at h<;>first
  |(cases h;exact⟨rfl,MF _,lz⟩)
  |(cases h;rfl)
  |(cases h;trivial)
  |cases h
def cG(hs:SR U γ w sl L){x:ba}{a:AV D}(h:eY sl x=aa a):∃v,ev L x=aa v∧gW U γ w a v:=by
 cases x with
 |tmp t=>exact hs.look h
 |const v=>exact⟨v,rfl,azc h⟩
 |func f=>
  simp only[eY]at h;split at h
  ·rename_i hf;cases h;exact⟨_,rfl,[],by unfold xr;rw[aI hf],trivial⟩
  ·cases h
 |global g=>cases h
def afz(hs:SR U γ w sl L):∀{xs:List ba} {as:List (AV D)},eX sl xs=aa as->∃vs,oQ L xs=aa vs∧nz U γ w as vs
 |[],as,h=>by simp only[eX,fK]at h;subst h;exact⟨[],rfl,trivial⟩
 |x::r,as,h=>by
  unfold eX at h;split at h
  ·rename_i a b ha hb;cases h;obtain⟨v,h1,h2⟩:=cG hs ha;obtain⟨vs,h3,h4⟩:=afz hs hb;exact⟨v::vs,by simp[oQ,h1,h3],h2,h4⟩
  ·cases h
def ux{xs:List ba}{a:AV D}{as:List (AV D)}{x:ba}(h:eX sl (x::xs)=aa (a::as)):eY sl x=aa a∧eX sl xs=aa as:=by
 unfold eX at h;split at h
 ·rename_i a' b ha hb;cases h;exact⟨ha,hb⟩
 ·cases h
def oR{a:AV D}{x:ba}(h:eX sl [x]=aa [a]):eY sl x=aa a:=(ux h).1
def sX{a b:AV D}{x y:ba}(h:eX sl [x,y]=aa [a,b]):eY sl x=aa a∧eY sl y=aa b:=⟨(ux h).1,oR (ux h).2⟩
def V8{a b c:AV D}{x y z:ba}(h:eX sl [x,y,z]=aa [a,b,c]):eY sl x=aa a∧eY sl y=aa b∧eY sl z=aa c:=⟨(ux h).1,sX (ux h).2⟩
def uw:∀{xs:List ba} {as:List (AV D)},eX sl xs=aa as->xs.length=as.length
 |[],as,h=>by simp only[eX,fK]at h;subst h;rfl
 |x::r,as,h=>by
  unfold eX at h;split at h
  ·rename_i a b ha hb;cases h;simp[uw hb]
  ·cases h
def pz(hx:Cx U ar γ w sl L ob){a:AV D}{v:ai}(h:gW U γ w a v):dW U ar γ w ob ⟨a,[],[]⟩ γ v w:=by have k:iN U (jG U ar) γ w γ w:=⟨λi h=> .inl h,λ_ _=>rfl,λ_ _=>rfl,λ_ _ _=>⟨rfl,rfl⟩⟩;have:=mkPost (e:=⟨a,[],[]⟩) (v:=v) (M:=[]) (N:=[]) (ps:=[]) (g':=γ.g) (v':=γ.v) hx.ob (bJ.refl [] [] γ.o w) (by simp) (by simp) (by simp) hx.cO (λ_ _=>rfl) (λ_ _=>rfl) (h.dn k) (λi x hx=>by simp[aF]at hx);exact this
def gm(f:Nat->DV D)(g:Nat)(ds:List (DV D)):Nat->DV D:=λi=>if g<=i then(match ds[i-g]? with|some d=>d|none=>f i)else f i
def Hl{f:Nat->DV D}{g i:Nat}{ds:List (DV D)}{d:DV D}(h:ds[i]? =aa d):gm f g ds (g+i)=d:=by unfold gm;rw[aI (by omega),Nat.add_sub_cancel_left,h]
def Tl{f:Nat->DV D}{g i:Nat}{ds:List (DV D)}(h:i<g∨g+ds.length<=i):gm f g ds i=f i:=by
 unfold gm;split
 ·rename_i hg;rw[List.getElem?_eq_none (by omega)]
 ·rfl
def Cx.fU(hx:Cx U ar γ w sl L ob){i:Nat}(h:U i):i<ar∨ar+128<=i:=by
 rcases Nat.lt_or_ge i ar with h1|h1
 ·exact .inl h1
 ·rcases Nat.lt_or_ge i (ar+128)with h2|h2
  ·exact(hx.fresh i h1 h2 h).elim
  ·exact .inr h2
def sE(hx:Cx U ar γ w sl L ob){ds:List (DV D)}(hl:ds.length<=112){i:Nat}(h:U i):gm γ.v (ar+16) ds i=γ.v i:=by
 rcases hx.fU h with h1|h1
 ·exact Tl (.inl (by omega))
 ·exact Tl (.inr (by omega))
def Au(hx:Cx U ar γ w sl L ob)(ds:List (DV D))(hl:ds.length<=112){a:AV D}{v:ai}(h:gW (jG U ar) ⟨γ.o,γ.g,gm γ.v (ar+16) ds⟩ w a v):dW U ar γ w ob ⟨a,[],[]⟩ ⟨γ.o,γ.g,gm γ.v (ar+16) ds⟩ v w:=by have:=mkPost (e:=⟨a,[],[]⟩) (v:=v) (M:=[]) (N:=[]) (ps:=[]) (g':=γ.g) (v':=gm γ.v (ar+16) ds) hx.ob (bJ.refl [] [] γ.o w) (by simp) (by simp) (by simp) hx.cO (λ_ _=>rfl) (λi hi=>sE hx hl hi) h (λi x hx=>by simp[aF]at hx);exact this
def mD{γ':Gh D}{ds:List (DV D)}{i:Nat}{x:DV D}(hv:γ'.v=gm γ.v (ar+16) ds)(hi:i<112)(h:ds[i]? =aa x):named (jG U ar) γ' (ar+16+i) x:=.inr ⟨.inr ⟨by omega,by omega⟩,by rw[hv];exact Hl h⟩
def er(hx:Cx U ar γ w sl L ob){lf:Lf}{x:lf.den D}{v:ai}(hf:dI (In γ.o []) w v ⟨lf,x⟩):dW U ar γ w ob ⟨.c (.one (.v lf x [] (ar+16))),[],[]⟩ ⟨γ.o,γ.g,gm γ.v (ar+16) [⟨lf,x⟩]⟩ v w:=Au hx [⟨lf,x⟩] (by simp) ⟨hf,mD (γ:=γ) (i:=0) rfl (by omega) rfl,lz⟩
def OW.mono [Rd]{o:Oper}{R R':ai->ax->Prop}(h:OW P Qx L o w R)(hr:∀v w',R v w'->R' v w'):OW P Qx L o w R':=λa K ha hK=>h a K ha λv w' r=>hK v w' (hr v w' r)
def du [Rd]{o:Oper}{v:ai}{γ':Gh D}(h:OW P Qx L o w (λv' w'=>v'=v∧w'=w))(hp:dW U ar γ w ob e γ' v w):OW P Qx L o w (λv' w'=>∃γ',dW U ar γ w ob e γ' v' w'):=OW.mono h λv' w' ⟨h1,h2⟩=>by subst h1;subst h2;exact⟨γ',hp⟩
def OW.shr [Rd]{k k':IntKind}{x y:ba}{t t2:aX}{p q c:Int}(h1:ev L x=aa (.int k p))(h2:ev L y=aa (.int k' q))(hc:wI k.bits p q=aa c):
  OW P Qx L ⟨d,.binOp .shr t x y t2,ty,pos,af,gd⟩ w (λv w'=>v= .int k c∧w'=w):=by
 refine OW.run λa ha=>⟨_,w,?_,rfl,rfl⟩
 unfold wI at hc
 split at hc
 ·cases hc
 ·rename_i hq;cases hc;simp[execOp,ha _ _ h1,ha _ _ h2,eqGuard,binOp,Op.shift,hq]
def OW.akz [Rd]{op:BinOp}{x y:ba}{t t2:aX}{p q:Bool}{v:Bool}(ht:P.underlying t=aa .bool)(hv:(op= .eql∧v=(p==q))∨(op= .neq∧v= !(p==q)))(h1:ev L x=aa (.bool p))(h2:ev L y=aa (.bool q)):
  OW P Qx L ⟨d,.binOp op t x y t2,ty,pos,af,gd⟩ w (λv' w'=>v'= .bool v∧w'=w):=by
 have hE:=YU.bool ht
 have:=hE.run (S:=λ_=>True) (S':=λ_=>True) (w:=w) (v1:= .bool p) (v2:= .bool q) (x:=p) (y:=q) x y ⟨[.bool p],rfl,rfl⟩ ⟨[.bool q],rfl,rfl⟩
 refine OW.run λa ha=>⟨_,w,?_,rfl,rfl⟩
 rcases hv with⟨rfl,rfl⟩|⟨rfl,rfl⟩
 ·simp[execOp,ha _ _ h1,ha _ _ h2,this.1.1,this.1.2];cases p<;>cases q<;>rfl
 ·simp[execOp,ha _ _ h1,ha _ _ h2,this.2.1,this.2.2];cases p<;>cases q<;>rfl
def OW.pT [Rd]{op:BinOp}{x y:ba}{a b v:ai}{t t2:aX}(h1:ev L x=aa a)(h2:ev L y=aa b)(hg:(eqGuard op t x y a b).run P w= .ok () w)(hr:(binOp op t a b).run P w= .ok v w):
  OW P Qx L ⟨d,.binOp op t x y t2,ty,pos,af,gd⟩ w (λv' w'=>v'=v∧w'=w):=
 OW.run λc hc=>⟨_,w,by simp[execOp,hc _ _ h1,hc _ _ h2,hg,hr],rfl,rfl⟩
def JB [Rd](hP:ef P T)(hx:Cx U ar γ w sl L ob){op:BinOp}{x y:ba}{p q:Bool}{K K':List Nat}{g g':Nat}{t t2:aX}(ht:aF T.ty t=aa (.one .bool))(ha:eY sl x=aa (.c (.one (.v .bool p K g))))(hb:eY sl y=aa (.c (.one (.v .bool q K' g'))))(h:Q.R ob (X3 op (ar+16) p q) l e):
  OW P Qx L ⟨d,.binOp op t x y t2,ty,pos,af,gd⟩ w (λv w'=>∃γ',dW U ar γ w ob e γ' v w'):=by
 obtain⟨u,h1,h2⟩:=cG hx.sr ha
 obtain⟨v,h3,h4⟩:=cG hx.sr hb
 have e1:u= .bool p:=h2.1
 have e2:v= .bool q:=h4.1
 subst e1 e2
 have hu:P.underlying t=aa .bool:=(hP.ty _ _ ht).2
 unfold X3 at h
 split at h
 ·obtain⟨_,rfl⟩:=h;exact du (OW.akz (v:=p==q) hu (.inl ⟨rfl,rfl⟩) h1 h3) (er hx rfl)
 ·obtain⟨_,rfl⟩:=h;exact du (OW.akz (v:= !(p==q)) hu (.inr ⟨rfl,rfl⟩) h1 h3) (er hx rfl)
 ·exact h.elim
def aDI [Rd](hx:Cx U ar γ w sl L ob){op:BinOp}{x y:ba}{k k':IntKind}{p q:Int}{t t2:aX}(h1:ev L x=aa (.int k p))(h3:ev L y=aa (.int k' q))(h:Q.R ob (X2 op (ar+16) k k' p q) l e):
  OW P Qx L ⟨d,.binOp op t x y t2,ty,pos,af,gd⟩ w (λv w'=>∃γ',dW U ar γ w ob e γ' v w'):=by
 unfold X2 at h
 split at h
 ·obtain⟨c,hc,_,rfl⟩:=h;exact du (OW.shr h1 h3 hc) (er hx rfl)
 ·split at h
  case isFalse=>exact h.elim
  rename_i hk;subst hk;split at h
  ·obtain⟨_,rfl⟩:=h;exact du (OW.pT (v:= .int k (k.wrap (p+q))) h1 h3 (by simp[eqGuard]) (by simp[binOp,Op.intArith])) (er hx rfl)
  ·obtain⟨_,rfl⟩:=h;exact du (OW.pT (v:= .int k (k.wrap (p-q))) h1 h3 (by simp[eqGuard]) (by simp[binOp,Op.intArith])) (er hx rfl)
  ·obtain⟨_,rfl⟩:=h;exact du (OW.pT (v:= .int k (k.wrap (p*q))) h1 h3 (by simp[eqGuard]) (by simp[binOp,Op.intArith])) (er hx rfl)
  ·obtain⟨_,rfl⟩:=h;exact du (OW.pT (v:= .int k (Ue k p q)) h1 h3 (by simp[eqGuard]) (by simp[binOp,Op.intBits,Ue])) (er hx rfl)
  ·obtain⟨_,rfl⟩:=h;exact du (OW.pT (v:= .bool (p==q)) h1 h3 (by simp[eqGuard]) (by simp[binOp,Op.intCmp])) (er hx rfl)
  ·obtain⟨_,rfl⟩:=h;exact du (OW.pT (v:= .bool (p !=q)) h1 h3 (by simp[eqGuard]) (by simp[binOp,Op.intCmp])) (er hx rfl)
  ·obtain⟨_,rfl⟩:=h;exact du (OW.pT (v:= .bool (ak (p<q))) h1 h3 (by simp[eqGuard]) (by simp[binOp,Op.intCmp])) (er hx rfl)
  ·obtain⟨_,rfl⟩:=h;exact du (OW.pT (v:= .bool (ak (p<=q))) h1 h3 (by simp[eqGuard]) (by simp[binOp,Op.intCmp])) (er hx rfl)
  ·obtain⟨_,rfl⟩:=h;exact du (OW.pT (v:= .bool (ak (p>q))) h1 h3 (by simp[eqGuard]) (by simp[binOp,Op.intCmp])) (er hx rfl)
  ·obtain⟨_,rfl⟩:=h;exact du (OW.pT (v:= .bool (ak (p>=q))) h1 h3 (by simp[eqGuard]) (by simp[binOp,Op.intCmp])) (er hx rfl)
  ·exact h.elim
def aa'(a b:ByteArray):(a.toList==b.toList)=Ds a b:=by
 rw[Bool.eq_iff_iff];show(a.toList==b.toList)=ab↔(a==b)=ab;have hb:∀p q:ByteArray,(p==q)=ab↔p=q:=λ⟨a⟩ ⟨b⟩=>by show(a==b)=ab↔_;simp
 rw[sf,hb,ByteArray.toList_eq,ByteArray.toList_eq];constructor
 ·intro h;exact ByteArray.ext (Array.toList_inj.mp h)
 ·rintro rfl;rfl
def aoP [Rd](hx:Cx U ar γ w sl L ob){op:BinOp}{x y:ba}{p q:ByteArray}{t t2:aX}(h1:ev L x=aa (.string p))(h3:ev L y=aa (.string q))(h:Q.R ob (RB op (ar+16) p q) l e):
  OW P Qx L ⟨d,.binOp op t x y t2,ty,pos,af,gd⟩ w (λv w'=>∃γ',dW U ar γ w ob e γ' v w'):=by
 unfold RB at h
 split at h
 ·obtain⟨c,hc,_,rfl⟩:=h;unfold LM at hc;split at hc
  case isFalse=>cases hc
  rename_i hs;cases hc;have h':¬(9223372036854775807<((p.size:Int)+(q.size:Int))):=by omega
  exact du (OW.pT (v:= .string (p++q)) h1 h3 (by simp[eqGuard]) (by simp[binOp,Op.stringOp,h'])) (er hx rfl)
 ·obtain⟨_,rfl⟩:=h;exact du (OW.pT (v:= .bool (Ds p q)) h1 h3 (by simp[eqGuard]) (by rw[<-aa'];simp[binOp,Op.stringOp])) (er hx rfl)
 ·obtain⟨_,rfl⟩:=h;exact du (OW.pT (v:= .bool (!(Ds p q))) h1 h3 (by simp[eqGuard]) (by rw[<-aa'];simp[binOp,Op.stringOp];try rfl)) (er hx rfl)
 ·exact h.elim
def aDH [Rd](hx:Cx U ar γ w sl L ob){op:BinOp}{x y:ba}{a b:AV D}{t t2:aX}(ha:eY sl x=aa a)(hb:eY sl y=aa b)(h:Q.R ob (X1 op (ar+16) a b) l e):
  OW P Qx L ⟨d,.binOp op t x y t2,ty,pos,af,gd⟩ w (λv w'=>∃γ',dW U ar γ w ob e γ' v w'):=by
 unfold X1 at h
 split at h
 ·rename_i k p K g k' q K' g';obtain⟨u,h1,h2⟩:=cG hx.sr ha;obtain⟨v,h3,h4⟩:=cG hx.sr hb;have e1:u= .int k p:=h2.1;have e2:v= .int k' q:=h4.1;subst e1 e2;split at h
  ·split at h
   case h_4=>obtain⟨c,hc,_,rfl⟩:=h;exact du (OW.quo h1 h3 hc) (er hx rfl)
   case h_5=>obtain⟨c,hc,_,rfl⟩:=h;exact du (OW.rem h1 h3 hc) (er hx rfl)
   case h_12=>obtain⟨c,hc,_,rfl⟩:=h;exact du (OW.shr h1 h3 hc) (er hx rfl)
   all_goals first
    |exact h.elim
    |(obtain⟨_,rfl⟩:=h
      refine du (OW.pv (v:= ?_) ?_) (er hx ?_)
      rotate_left
      ·simp only[Dp.pv,h1,h3,bin];rfl
      ·rfl)
  ·exact aDI hx h1 h3 h
 ·rename_i p K g q K' g';obtain⟨u,h1,h2⟩:=cG hx.sr ha;obtain⟨v,h3,h4⟩:=cG hx.sr hb;have e1:u= .string p:=h2.1;have e2:v= .string q:=h4.1;subst e1 e2;exact aoP hx h1 h3 h
 ·exact h.elim
def Oy:∀{cs:List (A1 D)} {us:List ai} {ks:List (DV D)},ET cs=aa ks->dj U γ w cs us->cz (λ_=>True) w us ks
 |[],us,ks,h,hv=>by
  cases h;cases us with
  |nil=>trivial
  |cons _ _=>exact hv.elim
 |a::cs,us,ks,h,hv=>by
  cases us with
  |nil=>exact hv.elim
  |cons u us=>
   unfold ET at h;split at h
   ·rename_i jj;cases jj
   ·rename_i lf x K g r jj;cases jj;split at h
    case h_2=>cases h
    rename_i ks' ji;cases h;exact⟨hv.1.1.mono λ_ _ _=>⟨trivial,rfl⟩,Oy ji hv.2⟩
   ·cases h
def JW{S:Nat->Prop}:∀{vs:List ai} {ks:List (DV D)},cz S w vs ks->(ks.map DV.l).all jE=ab->ii (ks.map DV.l) vs
 |[],[],_,_=>trivial
 |v::vs,⟨l,x⟩::ks,h,hf=>by
  simp only[gC,List.all_cons,bt]at hf;refine⟨?_,JW h.2 hf.2⟩;cases l with
  |int k=>exact⟨x,h.1⟩
  |bool=>exact⟨x,h.1⟩
  |str=>exact⟨x,h.1⟩
  |sl n=>cases hf.1
 |[],_::_,h,_=>h.elim
 |_::_,[],h,_=>h.elim
def afI{S S':Nat->Prop}{w':ax}{u v:ai}{x y:DV D}(hu:dI S w u x)(hv:dI S' w' v y)(hl:x.l=y.l)(hf:jE x.l=ab):BO x y=ab↔u=v:=by
 obtain⟨l,x⟩:=x;obtain⟨l',y⟩:=y;dsimp only at hl;subst hl;cases l with
 |int k=>have e1:u= .int k x:=hu;have e2:v= .int k y:=hv;subst e1 e2;simp[BO,M8]
 |bool=>have e1:u= .bool x:=hu;have e2:v= .bool y:=hv;subst e1 e2;simp[BO,beq']
 |str=>
  have e1:u= .string x:=hu;have e2:v= .string y:=hv;subst e1 e2;show(x==y)=ab↔_;rw[show(ai.string x=ai.string y)=(x=y)from by simp];clear hu hv hf;have:∀p q:ByteArray,(p==q)=ab↔p=q:=λ⟨a⟩ ⟨b⟩=>by show(a==b)=ab↔_;simp
  exact this x y
 |sl n=>cases hf
def afH{S S':Nat->Prop}{w':ax}:∀{us vs:List ai} {xs ys:List (DV D)},cz S w us xs->cz S' w' vs ys->xs.map DV.l=ys.map DV.l->(xs.map DV.l).all jE=ab->(uy xs ys=ab↔us=vs)
 |[],[],[],[],_,_,_,_=>by simp[uy]
 |u::us,v::vs,x::xs,y::ys,h,h',hk,hf=>by
  simp only[gC,List.cons.injEq]at hk;simp only[gC,List.all_cons,bt]at hf;have e1:=afI h.1 h'.1 hk.1 hf.1;have ih:=afH h.2 h'.2 hk.2 hf.2;cases xs with
  |nil=>
   have hy:ys=[]:=by
    have:=hk.2;cases ys with
    |nil=>rfl
    |cons _ _=>simp at this
   subst hy;have h1:us=[]:=by cases us with|nil=>rfl|cons _ _=>exact h.2.elim
   have h2:vs=[]:=by cases vs with|nil=>rfl|cons _ _=>exact h'.2.elim
   subst h1 h2;simp only[uy,e1];simp
  |cons x' xs=>simp only[uy,PR,bt,e1];rw[ih];simp
 |[],_::_,[],[],_,h',_,_=>h'.elim
 |[],_,_::_,_,h,_,_,_=>h.elim
 |_::_,_,[],_,h,_,_,_=>h.elim
 |_,[],_,_::_,_,h',_,_=>h'.elim
 |_,_::_,_,[],_,h',_,_=>h'.elim
def ayH{t:aX}{ls:List Lf}{us vs:List ai}{xs ys:List (DV D)}(hE:zB P t ls)(hf:ls.all jE=ab)(hx:cz (λ_=>True) w us xs)(hy:cz (λ_=>True) w vs ys)(h1:xs.map DV.l=ls)(h2:ys.map DV.l=ls):(Op.equal t (.agg us.toArray) (.agg vs.toArray)).run P w= .ok (uy xs ys) w:=by obtain⟨k,hk,hE⟩:=hE.eq;have c1:=JW hx (by rw[h1];exact hf);have c2:=JW hy (by rw[h2];exact hf);rw[h1]at c1;rw[h2]at c2;obtain⟨r,e1,e2⟩:=hE (10000-k) w us vs c1 c2;rw[show 10000-k+k=10000 by omega]at e1;have e3:uy xs ys=r:=Bool.eq_iff_iff.2 ((afH hx hy (h1.trans h2.symm) (by rw[h1];exact hf)).trans e2.symm);rw[e3];exact e1
def ayI [Rd](hP:ef P T)(hx:Cx U ar γ w sl L ob){op:BinOp}{x y:ba}{p q:List (A1 D)}{t t2:aX}{n:List Lf}(ht:aF T.BK t=aa n)(ha:eY sl x=aa (.c (.agg p)))(hb:eY sl y=aa (.c (.agg q)))(h:Q.R ob (V_ op (ar+16) n p q) l e):
  OW P Qx L ⟨d,.binOp op t x y t2,ty,pos,af,gd⟩ w (λv w'=>∃γ',dW U ar γ w ob e γ' v w'):=by
 unfold V_ at h
 split at h
 case h_2=>exact h.elim
 rename_i xs ys eJ nO
 split at h
 case isFalse=>exact h.elim
 rename_i hc
 obtain⟨u,h1,us,rfl,h2⟩:=cG hx.sr ha
 obtain⟨v,h3,vs,rfl,h4⟩:=cG hx.sr hb
 have e1:=Oy eJ h2
 have e2:=Oy nO h4
 obtain⟨hE,hf⟩:=hP.BK t n ht
 have fD:=ayH hE hf e1 e2 hc.1 hc.2
 split at h
 ·obtain⟨_,rfl⟩:=h;refine du (v:= .bool (uy xs ys)) (OW.run λa ha=>⟨_,w,?_,rfl,rfl⟩) (er hx rfl);simp[execOp,ha _ _ h1,ha _ _ h3,eqGuard,hE.guard,binOp,fD]
 ·obtain⟨_,rfl⟩:=h;refine du (v:= .bool (!(uy xs ys))) (OW.run λa ha=>⟨_,w,?_,rfl,rfl⟩) (er hx rfl);simp[execOp,ha _ _ h1,ha _ _ h3,eqGuard,hE.guard,binOp,fD]
 ·exact h.elim
