import Derived.Test.YtncbfgppjfcijaaGreatRb
set_option linter.unusedVariables false
set_option linter.unusedSimpArgs false
set_option linter.unusedSectionVars false
open Array renaming getElem?_eq_some_iff→aq5
open Bool renaming and_eq_true→aqL
open ByteArray renaming empty→arX
open List renaming append_assoc→aq4,ext_getElem?→arQ,getElem?_eq_some_iff→aq9,getElem?_set→arq,map_cons→arb,mem_append→aqP,mem_cons→aqR,mem_map→aqX
open Nat renaming beq→aqH,eq_of_beq_eq_true→aqK,le_refl→aqM
open Option.some renaming injEq→aq3
open Prod.mk renaming injEq→arP
namespace Go.Proofs.YtncbfgppjfcijaaGreat
open Go Go.RowKit Dp
namespace Rx
section
variable {D:Nat→Type} [∀n,ab (D n)]
def cq(S:Nat→Prop)(w:World)(v:Value):DV D→Prop
 |⟨.int k,d⟩=>v= .int k d
 |⟨.bool,d⟩=>v= .bool d
 |⟨.str,d⟩=>v= .string d
 |⟨.sl n,d⟩=>Rv S w v (d:List (D n))
def bK(S:Nat→Prop)(w:World):List Value→List (DV D)→Prop
 |[],[]=>True
 |v::vs,d::ds=>cq S w v d∧bK S w vs ds
 |_,_=>False
def qk:List Lf→List Value
 |[]=>[]
 |l::r=>(match l with| .int k=> .int k 0| .bool=> .bool false| .str=> .string arX| .sl _=> .slice none 0 0)::qk r
structure bQ(T:aV D):Prop where
 sz:∀n,ab.sz (D n)=(T.lv n).length
 ag:∀n,ab.agg (D n)=T.ag n
 zc:∀n,ab.zc (D n)=qk (T.lv n)
 zero:∀n,(ab.zero:D n)=T.zero n
 rd:∀n S w cs (x:D n),ab.rd S w cs x↔bK S w cs (T.out n x)
 oS:∀n,(T.lv n).length≤48
 E_:∀n h,T.xl n (T.uu n h)=h
theorem cq.mono{S S':Nat→Prop}{w w':World}(hm:∀b,S b→b<w.heap.size→S' b∧w'.heap[b]? =w.heap[b]?){v:Value}:∀{d:DV D},cq S w v d→cq S' w' v d
 |⟨.int k,d⟩,h=>h
 |⟨.bool,d⟩,h=>h
 |⟨.str,d⟩,h=>h
 |⟨.sl n,d⟩,h=>Rv.mono hm h
theorem cq.flat{S S':Nat→Prop}{w w':World}{v:Value}:∀{d:DV D},jr d.l=true→cq S w v d→cq S' w' v d
 |⟨.int k,d⟩,_,h=>h
 |⟨.bool,d⟩,_,h=>h
 |⟨.str,d⟩,_,h=>h
 |⟨.sl n,d⟩,h,_=>by cases h
theorem bK.flat{S S':Nat→Prop}{w w':World}:∀{vs:List Value} {ds:List (DV D)},(ds.map DV.l).all jr=true→bK S w vs ds→bK S' w' vs ds
 |[],[],_,_=>trivial
 |v::vs,d::ds,hf,h=>by
  simp only[arb,List.all_cons,aqL] at hf
  exact⟨h.1.flat hf.1,bK.flat hf.2 h.2⟩
 |[],_::_,_,h=>h.elim
 |_::_,[],_,h=>h.elim
theorem Sj:∀(ts:List Lf) (h:HL D ts),(ot ts h).map DV.l=ts
 |[],_=>rfl
 |[l],x=>rfl
 |l::m::r,x=>by simp only[ot,arb,Sj (m::r) x.2]
theorem bQ.flat{T:aV D}(hR:bQ T){n:Nat}(h:(T.lv n).all jr=true):Flat (D n):=
 ⟨fun{S S' w w' cs x} hr=>(hR.rd n S' w' cs x).2 (bK.flat (by rw[aV.out,Sj];exact h) ((hR.rd n S w cs x).1 hr))⟩
theorem bK.mono{S S':Nat→Prop}{w w':World}(hm:∀b,S b→b<w.heap.size→S' b∧w'.heap[b]? =w.heap[b]?):∀{vs:List Value} {ds:List (DV D)},bK S w vs ds→bK S' w' vs ds
 |[],[],_=>trivial
 |v::vs,d::ds,h=>⟨h.1.mono hm,bK.mono hm h.2⟩
 |[],_::_,h=>h.elim
 |_::_,[],h=>h.elim
theorem cq.one{S:Nat→Prop}{w:World}{v:Value}:∀{d:DV D},cq S w v d→v.oneCell'=true
 |⟨.int k,d⟩,h=>by cases h;rfl
 |⟨.bool,d⟩,h=>by cases h;rfl
 |⟨.str,d⟩,h=>by cases h;rfl
 |⟨.sl n,d⟩,h=>Rv.one (α:=List (D n)) h rfl
theorem bK.length{S:Nat→Prop}{w:World}:∀{vs:List Value} {ds:List (DV D)},bK S w vs ds→vs.length=ds.length
 |[],[],_=>rfl
 |v::vs,d::ds,h=>by simp[bK.length h.2]
 |[],_::_,h=>h.elim
 |_::_,[],h=>h.elim
theorem bK.append{S:Nat→Prop}{w:World}:∀{vs:List Value} {ds:List (DV D)} {us:List Value} {es:List (DV D)},bK S w vs ds→bK S w us es→bK S w (vs++us) (ds++es)
 |[],[],_,_,_,h=>h
 |v::vs,d::ds,_,_,h,h'=>⟨h.1,bK.append h.2 h'⟩
 |[],_::_,_,_,h,_=>h.elim
 |_::_,[],_,_,h,_=>h.elim
theorem bK.take{S:Nat→Prop}{w:World}:∀{vs:List Value} {ds:List (DV D)},bK S w vs ds→∀k,bK S w (vs.take k) (ds.take k)
 |_,_,_,0=>by simp[bK]
 |[],[],_,k+1=>trivial
 |v::vs,d::ds,h,k+1=>⟨h.1,bK.take h.2 k⟩
 |[],_::_,h,_=>h.elim
 |_::_,[],h,_=>h.elim
theorem bK.drop{S:Nat→Prop}{w:World}:∀{vs:List Value} {ds:List (DV D)},bK S w vs ds→∀k,bK S w (vs.drop k) (ds.drop k)
 |_,_,h,0=>by simpa using h
 |[],[],_,k+1=>trivial
 |v::vs,d::ds,h,k+1=>by simpa using bK.drop h.2 k
 |[],_::_,h,_=>h.elim
 |_::_,[],h,_=>h.elim
theorem KK:∀{ts:List Lf} {ds:List (DV D)} {h:HL D ts},toHL ts ds=some h→ot ts h=ds
 |[],[],h,e=>rfl
 |[],_::_,h,e=>by simp[toHL] at e
 |[l],[],h,e=>by simp[toHL] at e
 |[l],[⟨l',d⟩],h,e=>by
  simp only[toHL] at e
  by_cases hl:l'=l
  · subst hl
    simp only[dif_pos] at e
    cases e
    rfl
  · simp[hl] at e
 |[l],_::_::_,h,e=>by simp[toHL] at e
 |l::m::r,[],h,e=>by simp[toHL] at e
 |l::m::r,⟨l',d⟩::m_,h,e=>by
  rw[toHL] at e
  by_cases hl:l'=l
  · subst hl
    simp only[dif_pos] at e
    cases hx:toHL (m::r) m_ with
    |none=>rw[hx] at e;cases e
    |some x=>
     rw[hx] at e
     cases e
     simp only[ot,KK hx]
  · simp[hl] at e
variable {T:aV D}
theorem bQ.gi{n:Nat}{ds:List (DV D)}{x:D n}(hR:bQ T)(h:T.gi n ds=some x):T.out n x=ds:=by
 unfold aV.gi at h
 split at h
 · rename_i y hy
   cases h
   rw[aV.out,hR.E_,KK hy]
 · cases h
theorem Sk{D:Nat→Type}:∀(ts:List Lf) (h:HL D ts),(ot ts h).length=ts.length
 |[],_=>rfl
 |[l],x=>rfl
 |l::m::r,x=>by simp[ot,Sk (m::r) x.2]
theorem EV(T:aV D)(n:Nat)(x:D n):(T.out n x).length=(T.lv n).length:=Sk _ _
theorem Si(hR:bQ T):∀{t:Ht} {ds m_:List (DV D)} {x:t.den D},rD T t ds=some (x,m_)→ds=E2 T t x++m_
 | .lf l,[],m_,x,e=>by simp[rD] at e
 | .lf l,⟨l',d⟩::r,m_,x,e=>by
   simp only[rD] at e
   by_cases hl:l'=l
   · subst hl
     simp only[dif_pos,aq3,arP] at e
     obtain⟨rfl,rfl⟩:=e
     rfl
   · simp[hl] at e
 | .el n,ds,m_,x,e=>by
   simp only[rD] at e
   cases hy:T.gi n (ds.take (T.lv n).length) with
   |none=>simp[hy] at e
   |some y=>
    simp only[hy,aq3,arP] at e
    obtain⟨rfl,rfl⟩:=e
    rw[E2,hR.gi hy,List.take_append_drop]
theorem Sl(hR:bQ T):∀{ts:List Ht} {ds:List (DV D)} {h:HH D ts},toHH T ts ds=some h→cN T ts h=ds
 |[],[],h,e=>rfl
 |[],_::_,h,e=>by simp[toHH] at e
 |[t],ds,h,e=>by
  rw[toHH] at e
  cases hx:rD T t ds with
  |none=>simp[hx] at e
  |some y=>
   obtain⟨x,r⟩:=y
   cases r with
   |nil=>
    simp only[hx] at e
    cases e
    have:=Si hR hx
    simp[cN,this]
   |cons _ _=>simp[hx] at e
 |t::m::r,ds,h,e=>by
  rw[toHH] at e
  cases hx:rD T t ds with
  |none=>simp[hx] at e
  |some y=>
   obtain⟨x,m_⟩:=y
   rw[hx] at e
   dsimp only at e
   cases hy:toHH T (m::r) m_ with
   |none=>rw[hy] at e;cases e
   |some z=>
    rw[hy] at e
    cases e
    have:=Si hR hx
    simp only[cN,Sl hR hy,this]
structure Gh(D:Nat→Type) where
 o:bL
 g:Nat→Value
 v:Nat→DV D
def cT(K:List Nat):Prop:=∀x∈K,x<2
def named(U:Nat→Prop)(γ:Gh D)(t:Nat)(d:DV D):Prop:=t=0∨(U t∧γ.v t=d)
def dJ(b off:Nat):Value:= .pointer (some ⟨b,off,none⟩)
def qV(v:Value)(b:Nat):Bool:=match v with
 | .slice (some a) _ _=>aqH a.block b
 |_=>false
def iF(o:bL)(i:Nat)(v:Value):bL:=fun b=>if o b=i then(if qV v b then 0 else 1) else 2
def Iz(γ:Gh D)(w:World)(i h:Nat):Prop:=∃cells:Array Value,γ.g h= .agg cells∧∀(b n c q:Nat),γ.g i= .slice (some ⟨b,0,none⟩) n c→w.cell? ⟨b,q,none⟩=cells[q]?
def p6(f:Nat)(cs:List Value):Value:=if Nat.blt f 1000000=true then .func (.func f) #[] cs.toArray else .func (.func (f-1000000)) cs.toArray #[]
theorem ajY(f:Nat)(cs:List Value):(p6 f cs).oneCell'=true:=by unfold p6;split<;>rfl
def LF:Value→Bool
 | .slice none _ _=>true
 |_=>false
def ni(U:Nat→Prop)(γ:Gh D)(w:World):A0 D→Value→Prop
 | .ptr i off,v=>U i∧∃b,γ.g i=dJ b 0∧v=dJ b off
 | .rp n x off K,v=>∃pa:Addr,v= .pointer (some (pa.add off))∧ru (In γ.o K) w pa x∧cT K
def jR(U:Nat→Prop)(γ:Gh D)(w:World):List (A0 D)→List Value→Prop
 |[],[]=>True
 |a::as,v::vs=>ni U γ w a v∧jR U γ w as vs
 |_,_=>False
def dR(U:Nat→Prop)(γ:Gh D)(w:World):A1 D→Value→Prop
 | .v l d K t,v=>cq (In γ.o K) w v ⟨l,d⟩∧named U γ t ⟨l,d⟩∧cT K
 | .ptr i off,v=>U i∧∃b,γ.g i=dJ b 0∧v=dJ b off
 | .el i n j y off tc tj,v=>U i∧(tc≠0∧U tc)∧(∃xs:List (D n),γ.v tc=⟨.sl n,xs⟩∧idx xs j=some y)∧named U γ tj ⟨.int .i64,j⟩∧
     ∃b len cap,γ.g i= .slice (some ⟨b,0,none⟩) len cap∧v=dJ b (j.toNat*ab.sz (D n)+off)
 | .rp n x off K,v=>∃pa:Addr,v= .pointer (some (pa.add off))∧ru (In γ.o K) w pa x∧cT K
 | .vb n xs K t b,v=>(Rv (In γ.o K) w v xs∧named U γ t ⟨.sl n,xs⟩∧cT K)∧b=LF v
 | .own i,v=>U i∧v=γ.g i∧v.oneCell'=true
 | .fn f fJ,v=>∃cs:List Value,v=p6 f cs∧jR U γ w fJ cs
 | .ch i n j off ct m d,v=>U i∧(ct≠0∧U ct)∧(∃(xs:List (D n)) (y:D n),γ.v ct=⟨.sl n,xs⟩∧idx xs j=some y∧∀(S:Nat→Prop) (w:World) (cs:List Value),ab.rd S w cs y→∃u,cs[off]? =some u∧Rv S w u d)∧
     (∃b len cap cells,γ.g i= .slice (some ⟨b,0,none⟩) len cap∧γ.g ct= .agg cells∧cells[j.toNat*ab.sz (D n)+off]? =some v)∧∃p c,v= .slice p d.length c
 | .sY i t,v=>U i∧U t∧v=γ.g t∧v.oneCell'=true
 | .tail i n j,v=>U i∧(0≤j∧CY (ab.sz (D n)) (γ.g i) v j.toNat)
 | .pre i n j,v=>U i∧It (γ.g i) v j.toNat
 | .nU n xs K,v=>(∃aw,v= .agg aw.flatten.toArray∧bC (ab.rd (In γ.o K) w) aw xs)∧cT K
 | .bi,v=>v= .slice none 0 0
 | .nA,v=>v= .pointer none
 | .xp,v=>v= .nilFunc
 | .undef,v=>v=undef
 | .wq,_=>True
 | .qI,v=>v.oneCell'=true
def bX(U:Nat→Prop)(γ:Gh D)(w:World):List (A1 D)→List Value→Prop
 |[],[]=>True
 |a::as,v::vs=>dR U γ w a v∧bX U γ w as vs
 |_,_=>False
def kl(U:Nat→Prop)(γ:Gh D)(w:World):AC D→Value→Prop
 | .one a,v=>dR U γ w a v
 | .agg l,v=>∃us:List Value,v= .agg us.toArray∧bX U γ w l us
def gP(U:Nat→Prop)(γ:Gh D)(w:World):List (AC D)→List Value→Prop
 |[],[]=>True
 |a::as,v::vs=>kl U γ w a v∧gP U γ w as vs
 |_,_=>False
def eM(U:Nat→Prop)(γ:Gh D)(w:World):AV D→Value→Prop
 | .c x,v=>kl U γ w x v
 | .cL l,v=>∃us:List Value,v= .tuple us.toArray∧gP U γ w l us
def jQ(U:Nat→Prop)(γ:Gh D)(w:World):List (AV D)→List Value→Prop
 |[],[]=>True
 |a::as,v::vs=>eM U γ w a v∧jQ U γ w as vs
 |_,_=>False
def SR(U:Nat→Prop)(γ:Gh D)(w:World)(sl:List (Nat×AV D))(L:List (Nat×Value)):Prop:=∀t a,au sl t=some a→∃v,Dp.look L t=some v∧eM U γ w a v
def ep:List Value→Value
 |[u]=>u
 |l=> .agg l.toArray
def gR{α:Type}(R:MapEntry→α→Prop):List MapEntry→List α→Prop
 |[],[]=>True
 |e::es,x::xs=>R e x∧gR R es xs
 |_,_=>False
theorem gR.mono{α:Type}{R R':MapEntry→α→Prop}(hr:∀e x,R e x→R' e x):∀{es:List MapEntry} {xs:List α},gR R es xs→gR R' es xs
 |[],[],_=>trivial
 |_::_,_::_,h=>⟨hr _ _ h.1,gR.mono hr h.2⟩
 |[],_::_,h=>h.elim
 |_::_,[],h=>h.elim
def nl{α:Type}[ab α](o:bL)(i:Nat)(w:World)(v:Value)(xs:List α):Prop:=∃(r:Nat) (es:Array MapEntry) (clock:Nat),v= .map (some r)∧o r=i∧w.heap[r]? =some (.map es clock)∧
 es.toList.Pairwise (fun a b=>a.key≠b.key)∧gR (fun e x=>∃ks:List Value,e.key=ep ks∧ab.rd (fun _=>False) w (ks++[e.val]) x) es.toList xs
theorem nl.mono{α:Type}[ab α]{o o':bL}{i i':Nat}{w w':World}{v:Value}{xs:List α}(h:nl o i w v xs)(hb:∀b,b<w.heap.size→o b=i→o' b=i'∧w'.heap[b]? =w.heap[b]?):nl o' i' w' v xs:=by
 obtain⟨r,es,clock,h1,h2,h3,h4,h5⟩:=h
 obtain⟨e1,e2⟩:=hb r (aq5.1 h3).1 h2
 exact⟨r,es,clock,h1,e1,by rw[e2];exact h3,h4,h5.mono fun e x ⟨ks,k1,k2⟩=>⟨ks,k1,ab.mono (fun b hb _=>hb.elim) k2⟩⟩
def OR(U:Nat→Prop)(γ:Gh D)(w:World)(i:Nat):AO D→Prop
 | .box cs=>∃(b:Nat) (us:List Value) (t:TypeId),γ.g i=dJ b 0∧γ.o b=i∧w.heap[b]? =some (.cells us.toArray t (0,0))∧bX U γ w cs us∧cs.all storable=true
 | .sl n t xs K g=>Ow t γ.o i K w (γ.g i) xs∧cT K∧named U γ g ⟨.sl n,xs⟩
 | .bU n t tc m xs g h=>f_ (ab.sz (D m)) t tc (iF γ.o i (γ.g i)) 0 1 w (γ.g i) xs∧named U γ g ⟨.sl n,xs⟩∧(h=0∨(U h∧γ.v h=⟨.sl n,xs⟩∧Iz γ w i h))
 | .fi n t tc m xs j off s g=>named U γ g ⟨.sl n,xs⟩∧U s∧∃b len cap,γ.g i= .slice (some ⟨b,0,none⟩) len cap∧o7 (ab.sz (D m)) t tc (iF γ.o i (γ.g i)) 0 1 w (γ.g i) xs ⟨b,j.toNat*ab.sz (D n)+off,none⟩ (γ.g s)
 | .fz n xs K=>Rv (In γ.o K) w (γ.g i) xs∧cT K
 | .mp n xs=>nl γ.o i w (γ.g i) xs
structure OB(U:Nat→Prop)(γ:Gh D)(w:World)(ob:List (Nat×Option (AO D))):Prop where
 ob:∀i x,cw ob i=some x→1000≤i∧U i∧OR U γ w i x
 cl:∀b,b<w.heap.size→U (γ.o b)
 ro:∀x,x<2000→U x
structure Frame0(γ:Gh D)(w:World)(γ':Gh D)(w':World):Prop where
 os:w'.os=w.os
 tape:w'.tape=w.tape
 output:w'.output=w.output
 size:w.heap.size≤w'.heap.size
 ro:∀b,b<w.heap.size→(γ.o b=0∨γ.o b=3)→γ'.o b=γ.o b∧w'.heap[b]? =w.heap[b]?
 back:∀b,b<w'.heap.size→(γ'.o b=0∨γ'.o b=3)→b<w.heap.size∧γ.o b=γ'.o b
structure Frame(γ:Gh D)(w:World)(γ':Gh D)(w':World):Prop extends Frame0 γ w γ' w' where
 gk:∀i,i<2000→γ'.g i=γ.g i
theorem Frame0.refl(γ:Gh D)(w:World):Frame0 γ w γ w:=⟨rfl,rfl,rfl,aqM _,fun _ _ _=>⟨rfl,rfl⟩,fun _ h _=>⟨h,rfl⟩⟩
theorem Frame.refl(γ:Gh D)(w:World):Frame γ w γ w:=⟨.refl γ w,fun _ _=>rfl⟩
theorem Frame0.trans{γ aF aX:Gh D}{w w1 w2:World}(h:Frame0 γ w aF w1)(k:Frame0 aF w1 aX w2):Frame0 γ w aX w2:=by
 refine⟨k.os.trans h.os,k.tape.trans h.tape,k.output.trans h.output,Nat.le_trans h.size k.size,fun b hb hc=> ?_,fun b hb hc=> ?_⟩
 · obtain⟨h1,h2⟩:=h.ro b hb hc
   obtain⟨k1,k2⟩:=k.ro b (Nat.lt_of_lt_of_le hb h.size) (by rw[h1];exact hc)
   exact⟨k1.trans h1,k2.trans h2⟩
 · obtain⟨k1,k2⟩:=k.back b hb hc
   obtain⟨h1,h2⟩:=h.back b k1 (by rw[k2];exact hc)
   exact⟨h1,h2.trans k2⟩
theorem Frame.trans{γ aF aX:Gh D}{w w1 w2:World}(h:Frame γ w aF w1)(k:Frame aF w1 aX w2):Frame γ w aX w2:=
 ⟨h.toFrame0.trans k.toFrame0,fun i hi=>(k.gk i hi).trans (h.gk i hi)⟩
structure fA(U U':Nat→Prop)(γ:Gh D)(w:World)(γ':Gh D)(w':World):Prop where
 u:∀i,U i→U' i
 g:∀i,U i→γ'.g i=γ.g i
 v:∀i,U i→γ'.v i=γ.v i
 ro:∀b,b<w.heap.size→γ.o b<2→γ'.o b=γ.o b∧w'.heap[b]? =w.heap[b]?
section
variable {U U':Nat→Prop} {γ γ':Gh D} {w w':World}
theorem fA.refl:fA U U γ w γ w:=⟨fun _ h=>h,fun _ _=>rfl,fun _ _=>rfl,fun _ _ _=>⟨rfl,rfl⟩⟩
theorem fA.mem(k:fA U U' γ w γ' w'){K:List Nat}(hK:cT K):∀b,In γ.o K b→b<w.heap.size→In γ'.o K b∧w'.heap[b]? =w.heap[b]? :=fun b hb aK=>by
 obtain⟨h1,h2⟩:=k.ro b aK (hK _ hb)
 exact⟨by unfold In;rw[h1];exact hb,h2⟩
theorem named.cj(k:fA U U' γ w γ' w'){t:Nat}{d:DV D}(h:named U γ t d):named U' γ' t d:=by
 rcases h with h|⟨h1,h2⟩
 · exact .inl h
 · exact .inr ⟨k.u _ h1,by rw[k.v _ h1];exact h2⟩
theorem ni.cj(k:fA U U' γ w γ' w'):∀{a:A0 D} {v:Value},ni U γ w a v→ni U' γ' w' a v
 | .ptr i off,v,⟨h,b,h1,h2⟩=>⟨k.u _ h,b,by rw[k.g _ h];exact h1,h2⟩
 | .rp n x off K,v,⟨pa,h1,h2,h3⟩=>⟨pa,h1,h2.mono (k.mem h3),h3⟩
theorem jR.cj(k:fA U U' γ w γ' w'):∀{as:List (A0 D)} {vs:List Value},jR U γ w as vs→jR U' γ' w' as vs
 |[],[],_=>trivial
 |a::as,v::vs,h=>⟨h.1.cj k,jR.cj k h.2⟩
 |[],_::_,h=>h.elim
 |_::_,[],h=>h.elim
theorem dR.cj(k:fA U U' γ w γ' w'):∀{a:A1 D} {v:Value},dR U γ w a v→dR U' γ' w' a v
 | .v l d K t,v,⟨h1,h2,h3⟩=>⟨h1.mono (k.mem h3),h2.cj k,h3⟩
 | .ptr i off,v,⟨h,b,h1,h2⟩=>⟨k.u _ h,b,by rw[k.g _ h];exact h1,h2⟩
 | .el i n j y off tc tj,v,⟨h1,h2,⟨xs,h3,h4⟩,h5,b,len,cap,h6,h7⟩=>⟨k.u _ h1,⟨h2.1,k.u _ h2.2⟩,⟨xs,by rw[k.v _ h2.2];exact h3,h4⟩,h5.cj k,b,len,cap,by rw[k.g _ h1];exact h6,h7⟩
 | .rp n x off K,v,⟨pa,h1,h2,h3⟩=>⟨pa,h1,h2.mono (k.mem h3),h3⟩
 | .vb n xs K t b,v,⟨⟨h1,h2,h3⟩,h4⟩=>⟨⟨cq.mono (d:=⟨.sl n,xs⟩) (k.mem h3) h1,h2.cj k,h3⟩,h4⟩
 | .own i,v,⟨h,h1,h2⟩=>⟨k.u _ h,by rw[k.g _ h];exact h1,h2⟩
 | .fn f fJ,v,⟨cs,h1,h2⟩=>⟨cs,h1,h2.cj k⟩
 | .ch i n j off ct m d,v,⟨h1,h2,⟨xs,y,h3,h4⟩,⟨b,len,cap,cells,h5,h6,h7⟩,h8⟩=>⟨k.u _ h1,⟨h2.1,k.u _ h2.2⟩,⟨xs,y,by rw[k.v _ h2.2];exact h3,h4⟩,⟨b,len,cap,cells,by rw[k.g _ h1];exact h5,by rw[k.g _ h2.2];exact h6,h7⟩,h8⟩
 | .sY i t,v,⟨h1,h2,h3,h4⟩=>⟨k.u _ h1,k.u _ h2,by rw[k.g _ h2];exact h3,h4⟩
 | .tail i n j,v,⟨h1,h2⟩=>⟨k.u _ h1,by rw[k.g _ h1];exact h2⟩
 | .pre i n j,v,⟨h1,h2⟩=>⟨k.u _ h1,by rw[k.g _ h1];exact h2⟩
 | .nU n xs K,v,⟨⟨aw,h1,h2⟩,h3⟩=>⟨⟨aw,h1,h2.mono fun _ _=>ab.mono (k.mem h3)⟩,h3⟩
 | .bi,v,h=>h
 | .nA,v,h=>h
 | .xp,v,h=>h
 | .undef,v,h=>h
 | .wq,v,h=>h
 | .qI,v,h=>h
theorem bX.cj(k:fA U U' γ w γ' w'):∀{as:List (A1 D)} {vs:List Value},bX U γ w as vs→bX U' γ' w' as vs
 |[],[],_=>trivial
 |a::as,v::vs,h=>⟨h.1.cj k,bX.cj k h.2⟩
 |[],_::_,h=>h.elim
 |_::_,[],h=>h.elim
theorem kl.cj(k:fA U U' γ w γ' w'):∀{a:AC D} {v:Value},kl U γ w a v→kl U' γ' w' a v
 | .one a,v,h=>dR.cj k h
 | .agg l,v,⟨us,h1,h2⟩=>⟨us,h1,h2.cj k⟩
theorem gP.cj(k:fA U U' γ w γ' w'):∀{as:List (AC D)} {vs:List Value},gP U γ w as vs→gP U' γ' w' as vs
 |[],[],_=>trivial
 |a::as,v::vs,h=>⟨h.1.cj k,gP.cj k h.2⟩
 |[],_::_,h=>h.elim
 |_::_,[],h=>h.elim
theorem eM.cj(k:fA U U' γ w γ' w'):∀{a:AV D} {v:Value},eM U γ w a v→eM U' γ' w' a v
 | .c x,v,h=>kl.cj k h
 | .cL l,v,⟨us,h1,h2⟩=>⟨us,h1,h2.cj k⟩
theorem SR.cj(k:fA U U' γ w γ' w'){sl:List (Nat×AV D)}{L:List (Nat×Value)}(h:SR U γ w sl L):SR U' γ' w' sl L:=fun t a e=>by
 obtain⟨v,h1,h2⟩:=h t a e
 exact⟨v,h1,h2.cj k⟩
theorem xA{o:bL}{i:Nat}{v:Value}{b:Nat}(h:iF o i v b=0):o b=i∧qV v b=true:=by
 unfold iF at h
 split at h
 · rename_i ho
   split at h
   · rename_i hh;exact⟨ho,hh⟩
   · cases h
 · cases h
theorem xz{o:bL}{i:Nat}{v:Value}{b:Nat}(h:iF o i v b=1):o b=i∧qV v b=false:=by
 unfold iF at h
 split at h
 · rename_i ho
   split at h
   · cases h
   · rename_i hh;exact⟨ho,by simpa using hh⟩
 · cases h
theorem LB{o:bL}{i:Nat}{v:Value}{b:Nat}(h:o b=i)(hh:qV v b=true):iF o i v b=0:=by unfold iF;rw[if_pos h,if_pos hh]
theorem LA{o:bL}{i:Nat}{v:Value}{b:Nat}(h:o b=i)(hh:qV v b=false):iF o i v b=1:=by unfold iF;rw[if_pos h,if_neg (by simp[hh])]
theorem xy{o o':bL}{i i':Nat}{v:Value}{w w':World}(h:∀b,b<w.heap.size→o b=i→o' b=i'∧w'.heap[b]? =w.heap[b]?):
  (∀b,b<w.heap.size→iF o i v b=0→iF o' i' v b=0∧w'.heap[b]? =w.heap[b]?)∧(∀b,b<w.heap.size→iF o i v b=1→iF o' i' v b=1∧w'.heap[b]? =w.heap[b]?):=by
 constructor
 · intro b hb hc
   obtain⟨h1,h2⟩:=xA hc
   exact⟨LB (h b hb h1).1 h2,(h b hb h1).2⟩
 · intro b hb hc
   obtain⟨h1,h2⟩:=xz hc
   exact⟨LA (h b hb h1).1 h2,(h b hb h1).2⟩
theorem MS{α:Type}[ab α]{z:Nat}{T Tc:TypeId}{o:bL}{k kc:Nat}{v:Value}{xs:List α}{b len cap:Nat}(h:f_ z T Tc o k kc w v xs)(hv:v= .slice (some ⟨b,0,none⟩) len cap):∃aL,o b=k∧w.heap[b]? =some (.cells aL T (0,0)):=by
 rcases h with⟨rfl,_⟩|⟨g,vM,aL,aw,rfl,h2,h3,_⟩
 · cases hv
 · cases hv
   exact⟨aL,h2,h3⟩
theorem Iz.mono{γ γ':Gh D}{w w':World}{i i' h h':Nat}(hg:γ'.g i'=γ.g i)(hh:γ'.g h'=γ.g h)(hb:∀b n c,γ.g i= .slice (some ⟨b,0,none⟩) n c→w'.heap[b]? =w.heap[b]?)(k:Iz γ w i h):Iz γ' w' i' h':=by
 obtain⟨cells,h1,h2⟩:=k
 refine⟨cells,by rw[hh];exact h1,fun b n c q e=> ?_⟩
 rw[hg] at e
 rw[←h2 b n c q e]
 exact World.cell?_of_block (hb b n c e)
theorem OR.cj(k:fA U U' γ w γ' w'){i:Nat}(hU:U i)(hb:∀b,b<w.heap.size→γ.o b=i→γ'.o b=γ.o b∧w'.heap[b]? =w.heap[b]?):∀{x:AO D},OR U γ w i x→OR U' γ' w' i x
 | .box cs,⟨b,us,t,h1,h2,h3,h4,h5⟩=>by
   have aK:b<w.heap.size:=(aq5.1 h3).1
   obtain⟨e1,e2⟩:=hb b aK h2
   exact⟨b,us,t,by rw[k.g _ hU];exact h1,by rw[e1];exact h2,by rw[e2];exact h3,h4.cj k,h5⟩
 | .sl n t xs K g,⟨h1,h2,h3⟩=>by
   refine⟨?_,h2,h3.cj k⟩
   rw[k.g _ hU]
   rcases h1 with h1|⟨g,cap,aL,aw,e1,e2,e3,e4,e5,e6,e7,e8⟩
   · exact .inl h1
   · have aK:g<w.heap.size:=(aq5.1 e3).1
     obtain⟨f1,f2⟩:=hb g aK e2
     exact .inr ⟨g,cap,aL,aw,e1,by rw[f1];exact e2,by rw[f2];exact e3,e4,e5,e6,e7.mono fun _ _=>ab.mono (k.mem h2),e8⟩
 | .bU n t tc m xs g h,⟨h1,h2,h3⟩=>by
   obtain⟨m0,m1⟩:=xy (v:=γ.g i) (o:=γ.o) (o':=γ'.o) (i:=i) (i':=i) (w:=w) (w':=w') fun b dY ho=>by
    obtain⟨f1,f2⟩:=hb b dY ho
    exact⟨by rw[f1];exact ho,f2⟩
   have hg:=k.g _ hU
   refine⟨by rw[hg];exact h1.mono m0 m1,h2.cj k, ?_⟩
   rcases h3 with h3|⟨h3,h4,h5⟩
   · exact .inl h3
   · refine .inr ⟨k.u _ h3,by rw[k.v _ h3];exact h4,h5.mono hg (k.g _ h3) fun b n c e=> ?_⟩
     obtain⟨aL,e1,e2⟩:=MS h1 e
     exact(hb b (aq5.1 e2).1 (xA e1).1).2
 | .fi n t tc m xs j off s g,⟨h1,h2,b,len,cap,h3,h4⟩=>by
   obtain⟨m0,m1⟩:=xy (v:=γ.g i) (o:=γ.o) (o':=γ'.o) (i:=i) (i':=i) (w:=w) (w':=w') fun b dY ho=>by
    obtain⟨f1,f2⟩:=hb b dY ho
    exact⟨by rw[f1];exact ho,f2⟩
   have hg:=k.g _ hU
   exact⟨h1.cj k,k.u _ h2,b,len,cap,by rw[hg];exact h3,by rw[hg,k.g _ h2];exact h4.mono m0 m1⟩
 | .fz n xs K,⟨h1,h2⟩=>⟨by rw[k.g _ hU];exact cq.mono (d:=⟨.sl n,xs⟩) (k.mem h2) h1,h2⟩
 | .mp n xs,h=>by
   show nl γ'.o i w' (γ'.g i) xs
   rw[k.g _ hU]
   exact nl.mono h fun b dY ho=>by
    obtain⟨f1,f2⟩:=hb b dY ho
    exact⟨by rw[f1];exact ho,f2⟩
theorem SR.look{sl:List (Nat×AV D)}{L:List (Nat×Value)}(h:SR U γ w sl L){t:Nat}{a:AV D}(e:au sl t=some a):∃v,Dp.look L t=some v∧eM U γ w a v:=h t a e
theorem SR.cons{sl:List (Nat×AV D)}{L:List (Nat×Value)}{d:Nat}{a:AV D}{v:Value}(h:SR U γ w sl L)(hv:eM U γ w a v):SR U γ w ((d,a)::sl) ((d,v)::L):=fun t b e=>by
 unfold au at e
 unfold Dp.look
 cases hb:aqH d t with
 |true=>
  simp only[hb,cond_true,aq3] at e⊢
  subst e
  exact⟨v,rfl,hv⟩
 |false=>
  simp only[hb,cond_false] at e⊢
  exact h t b e
end
end
end Rx
end Go.Proofs.YtncbfgppjfcijaaGreat
namespace Go.Proofs.YtncbfgppjfcijaaGreat
open Go Go.RowKit Dp
namespace Rx
section
variable {D:Nat→Type}
def Q.R{α:Type}(ob:List (Nat×Option (AO D))):Q D α→List Nat→α→Prop
 | .ret b,l,a=>l=[]∧a=b
 | .fail,_,_=>False
 | .obj i f,l,a=>∃x l',cw ob i=some x∧l=i::l'∧Q.R ob (f x) l' a
 | .part o f,l,a=>∃y,o=some y∧Q.R ob (f y) l a
theorem Q.Gn{ρ α:Type}{ob:List (Nat×Option (AO D))}{r:ρ}:∀{q:Q D α} {lg:List Nat} {k:α→List Nat→Option ρ},q.go ob lg k=some r→∃l a,Q.R ob q l a∧k a (l.reverse++lg)=some r:=by
 intro q
 induction q with
 |ret b=>intro lg k h;exact⟨[],b,⟨rfl,rfl⟩,h⟩
 |fail=>intro lg k h;cases h
 |obj i f ih=>
  intro lg k h
  simp only[Q.go] at h
  split at h
  · rename_i x hx
    obtain⟨l,a,h1,h2⟩:=ih x h
    exact⟨i::l,a,⟨x,l,hx,rfl,h1⟩,by simpa using h2⟩
  · cases h
 |part o f ih=>
  intro lg k h
  simp only[Q.go,rY] at h
  obtain⟨y,hy,h⟩:=tx h
  obtain⟨l,a,h1,h2⟩:=ih y h
  exact⟨l,a,⟨y,hy,h1⟩,h2⟩
theorem Q.dZ{α β:Type}{ob:List (Nat×Option (AO D))}{f:α→Q D β}{b:β}:∀{q:Q D α} {l:List Nat},Q.R ob (q.bind f) l b→∃l1 l2 a,l=l1++l2∧Q.R ob q l1 a∧Q.R ob (f a) l2 b:=by
 intro q
 induction q with
 |ret c=>intro l h;exact⟨[],l,c,rfl,⟨rfl,rfl⟩,h⟩
 |fail=>intro l h;exact h.elim
 |obj i g ih=>
  intro l h
  obtain⟨x,l',h1,rfl,h2⟩:=h
  obtain⟨l1,l2,a,rfl,h3,h4⟩:=ih x h2
  exact⟨i::l1,l2,a,rfl,⟨x,l1,h1,rfl,h3⟩,h4⟩
 |part o g ih=>
  intro l h
  obtain⟨y,hy,h2⟩:=h
  obtain⟨l1,l2,a,rfl,h3,h4⟩:=ih y h2
  exact⟨l1,l2,a,rfl,⟨y,hy,h3⟩,h4⟩
end
section
variable {D:Nat→Type} [∀n,ab (D n)]
def fY(U:Nat→Prop)(ah:Nat):Nat→Prop:=fun i=>U i∨(ah≤i∧i<ah+64)
structure cJ(U:Nat→Prop)(ah:Nat)(γ:Gh D)(w:World)(ob:List (Nat×Option (AO D)))(e:bT D)(γ':Gh D)(v:Value)(w':World):Prop where
 fr:Frame γ w γ' w'
 kp:fA U (fY U ah) γ w γ' w'
 dst:eM (fY U ah) γ' w' e.dst v
 ob:OB (fY U ah) γ' w' (e.fz.map (fun i=>(i,none))++e.nt++ob)
structure Cx(U:Nat→Prop)(ah:Nat)(γ:Gh D)(w:World)(sl:List (Nat×AV D))(L:List (Nat×Value))(ob:List (Nat×Option (AO D))):Prop where
 sr:SR U γ w sl L
 ob:OB U γ w ob
 fresh:∀i,ah≤i→i<ah+64→¬U i
 bR:1000≤ah
def rel(ps:List (Nat×Nat))(x:Nat):Nat:=match au ps x with
 |some y=>y
 |none=>x
theorem cz{α:Type}:∀{l:List (Nat×α)} {t:Nat} {a:α},au l t=some a→(t,a)∈l
 |[],t,a,h=>by simp[au] at h
 |p::r,t,a,h=>by
  unfold au at h
  cases hb:aqH p.1 t with
  |true=>
   simp only[hb,cond_true,aq3] at h
   have:=aqK hb
   subst this;subst h
   simp
  |false=>
   simp only[hb,cond_false] at h
   exact List.mem_cons_of_mem _ (cz h)
theorem sf{α:Type}:∀{l:List (Nat×α)} {t:Nat},au l t=none→∀a,(t,a)∉l
 |[],t,h,a=>by simp
 |p::r,t,h,a=>by
  unfold au at h
  cases hb:aqH p.1 t with
  |true=>simp[hb] at h
  |false=>
   simp only[hb,cond_false] at h
   intro hm
   rcases aqR.1 hm with rfl|hm
   · simp at hb
   · exact sf h a hm
theorem gX{α:Type}:∀(l l':List (Nat×α)) (t:Nat),au (l++l') t=match au l t with
  |some a=>some a
  |none=>au l' t
 |[],l',t=>by simp[au]
 |p::r,l',t=>by
  simp only[List.cons_append,au]
  cases hb:aqH p.1 t with
  |true=>simp
  |false=>simp only[cond_false];exact gX r l' t
theorem lP{α:Type}:∀{l:List (Nat×α)} {t:Nat},au l t=none↔t∉l.map Prod.fst
 |[],t=>by simp[au]
 |p::r,t=>by
  simp only[au,arb,aqR,not_or]
  cases hb:aqH p.1 t with
  |true=>
   have:=aqK hb
   simp[this]
  |false=>
   have bg:¬t=p.1:=fun e=>by subst e;simp at hb
   simp only[cond_false,bg,not_false_eq_true,true_and]
   exact lP
section
variable {U:Nat→Prop} {γ:Gh D} {w w':World} {ob:List (Nat×Option (AO D))} {ah:Nat} {e:bT D} {v:Value}
theorem adO{ps:List (Nat×Nat)}(mS:∀p∈ps,1000≤p.1){x:Nat}(hx:x<1000):rel ps x=x:=by
 unfold rel
 split
 · rename_i y hy
   have:=mS _ (cz hy)
   simp only at this
   omega
 · rfl
theorem SA{M N:List Nat}{ps:List (Nat×Nat)}{o':bL}{g':Nat→Value}{v':Nat→DV D}(ev:ba M N γ.o w o' w')(hM:∀x∈M,1000≤x)(mS:∀p∈ps,1000≤p.1)(hg:∀i,U i→g' i=γ.g i)(hv:∀i,U i→v' i=γ.v i):
  fA U (fY U ah) γ w ⟨fun b=>rel ps (o' b),g',v'⟩ w':=
 ⟨fun i h=> .inl h,hg,hv,fun b hb hc=>⟨by simp only;rw[ev.dW b hb];exact adO mS (by omega),ev.jP b hb fun hm=>by
   have:=hM _ hm
   omega⟩⟩
theorem jZ{α:Type}{i j:Nat}{a x:α}(h:au [(i,a)] j=some x):i=j∧x=a:=by
 have:=cz h
 simp only[List.mem_singleton,arP] at this
 exact⟨this.1.symm,this.2⟩
theorem mkPost{M N:List Nat}{ps:List (Nat×Nat)}{o':bL}{g':Nat→Value}{v':Nat→DV D}(bb:OB U γ w ob)(ev:ba M N γ.o w o' w')
  (hM:∀x∈M,1000≤x∧U x∧x∈e.wr) (hN:∀x∈N,x∈M∨(ah≤x∧x<ah+64)) (mS:∀p∈ps,1000≤p.1∧(U p.1→p.1∈e.wr)∧(p.2=1∨(ah≤p.2∧p.2<ah+64)))
  (l8:1000≤ah) (hg:∀i,U i→g' i=γ.g i) (hv:∀i,U i→v' i=γ.v i)
  (vi:eM (fY U ah) ⟨fun b=>rel ps (o' b),g',v'⟩ w' e.dst v)
  (L6:∀i x,au e.nt i=some (some x)→i∉e.fz→1000≤i∧fY U ah i∧OR (fY U ah) ⟨fun b=>rel ps (o' b),g',v'⟩ w' i x):
  cJ U ah γ w ob e ⟨fun b=>rel ps (o' b),g',v'⟩ v w':=by
 have uO:∀x,x<1000→rel ps x=x:=fun x hx=>by
  unfold rel
  split
  · rename_i y hy
    have:=(mS _ (cz hy)).1
    simp only at this
    omega
  · rfl
 have ahp:∀x,rel ps x<1000→rel ps x=x∨rel ps x=1:=fun x hx=>by
  unfold rel at hx⊢
  split
  · rename_i y hy
    rw[hy] at hx
    rcases(mS _ (cz hy)).2.2 with h|h
    · exact .inr h
    · simp only at h hx;omega
  · exact .inl rfl
 have hold:∀b,b<w.heap.size→γ.o b<4→rel ps (o' b)=γ.o b∧w'.heap[b]? =w.heap[b]? :=fun b hb h4=>by
  have h1:=ev.dW b hb
  refine⟨by rw[h1];exact uO _ (by omega),ev.jP b hb fun hm=> ?_⟩
  have:=(hM _ hm).1
  omega
 have cG:Frame γ w ⟨fun b=>rel ps (o' b),g',v'⟩ w':=by
  refine⟨⟨ev.os,ev.tape,ev.output,ev.size,fun b hb hc=>hold b hb (by omega),fun b hb hc=> ?_⟩,fun i hi=>hg i (bb.ro i hi)⟩
  simp only at hc⊢
  have h1:rel ps (o' b)=o' b:=by
   rcases ahp (o' b) (by omega) with h|h
   · exact h
   · omega
  rw[h1] at hc
  by_cases aK:b<w.heap.size
  · exact⟨aK,by rw[h1,ev.dW b aK]⟩
  · have h2:=ev.new b (by omega) hb
    rcases hN _ h2 with h|h
    · have:=(hM _ h).1;omega
    · omega
 have eb:fA U (fY U ah) γ w ⟨fun b=>rel ps (o' b),g',v'⟩ w':=
  ⟨fun i h=> .inl h,hg,hv,fun b hb hc=>hold b hb (by omega)⟩
 refine⟨cG,eb,vi,fun i x hx=> ?_,fun b hb=> ?_,fun x hx=> .inl (bb.ro x hx)⟩
 · by_cases gY:i∈e.fz
   · exfalso
     unfold cw at hx
     rw[aq4,gX] at hx
     have:au (e.fz.map fun i=>(i,(none:Option (AO D)))) i=some none:=by
      have h1:¬au (e.fz.map fun i=>(i,(none:Option (AO D)))) i=none:=by
       rw[lP]
       simpa using gY
      cases hl:au (e.fz.map fun i=>(i,(none:Option (AO D)))) i with
      |none=>exact(h1 hl).elim
      |some y=>
       have:=cz hl
       simp only[aqX] at this
       obtain⟨_,_,h3⟩:=this
       cases h3
       rfl
     rw[this] at hx
     cases hx
   · have h0:au (e.fz.map fun i=>(i,(none:Option (AO D)))) i=none:=by
      rw[lP]
      simpa using gY
     unfold cw at hx
     rw[aq4,gX,h0] at hx
     simp only at hx
     rw[gX] at hx
     cases hu:au e.nt i with
     |some y=>
      rw[hu] at hx
      cases y with
      |none=>cases hx
      |some y=>
       cases hx
       exact L6 i x hu gY
     |none=>
      rw[hu] at hx
      simp only at hx
      obtain⟨h1,h2,h3⟩:=bb.ob i x hx
      have mT:i∉e.wr:=by
       unfold bT.wr
       rw[aqP,not_or]
       exact⟨lP.1 hu,gY⟩
      refine⟨h1,.inl h2,h3.cj eb h2 fun b hb hc=> ?_⟩
      have hM':i∉M:=fun hm=>mT (hM _ hm).2.2
      have hr:rel ps i=i:=by
       unfold rel
       split
       · rename_i y hy
         exact(mT ((mS _ (cz hy)).2.1 h2)).elim
       · rfl
      exact⟨by simp only;rw[ev.dW b hb,hc,hr],ev.jP b hb (by rw[hc];exact hM')⟩
 · simp only
   have h1:U (o' b)∨(ah≤o' b∧o' b<ah+64):=by
    by_cases aK:b<w.heap.size
    · rw[ev.dW b aK];exact .inl (bb.cl b aK)
    · rcases hN _ (ev.new b (by omega) hb) with h|h
      · exact .inl (hM _ h).2.1
      · exact .inr h
   unfold rel
   split
   · rename_i y hy
     rcases(mS _ (cz hy)).2.2 with h|h
     · simp only at h;subst h;exact .inl (bb.ro 1 (by omega))
     · exact .inr h
   · exact h1
end
theorem ae9{U U':Nat→Prop}{γ γ':Gh D}{w w':World}{ob:List (Nat×Option (AO D))}{e:bT D}(bb:OB U γ w ob)(k:fA U U' γ w γ' w')(hun:∀i,U i→1000≤i→i∉e.wr→∀b,b<w.heap.size→γ.o b=i→γ'.o b=γ.o b∧w'.heap[b]? =w.heap[b]?)
  (cf:∀b,b<w'.heap.size→U' (γ'.o b)) (L6:∀i x,au e.nt i=some (some x)→i∉e.fz→1000≤i∧U' i∧OR U' γ' w' i x):OB U' γ' w' (e.fz.map (fun i=>(i,none))++e.nt++ob):=by
 refine⟨fun i x hx=> ?_,cf,fun x hx=>k.u _ (bb.ro x hx)⟩
 by_cases gY:i∈e.fz
 · exfalso
   unfold cw at hx
   rw[aq4,gX] at hx
   have:au (e.fz.map fun i=>(i,(none:Option (AO D)))) i=some none:=by
    have h1:¬au (e.fz.map fun i=>(i,(none:Option (AO D)))) i=none:=by
     rw[lP]
     simpa using gY
    cases hl:au (e.fz.map fun i=>(i,(none:Option (AO D)))) i with
    |none=>exact(h1 hl).elim
    |some y=>
     have:=cz hl
     simp only[aqX] at this
     obtain⟨_,_,h3⟩:=this
     cases h3
     rfl
   rw[this] at hx
   cases hx
 · have h0:au (e.fz.map fun i=>(i,(none:Option (AO D)))) i=none:=by
    rw[lP]
    simpa using gY
   unfold cw at hx
   rw[aq4,gX,h0] at hx
   simp only at hx
   rw[gX] at hx
   cases hu:au e.nt i with
   |some y=>
    rw[hu] at hx
    cases y with
    |none=>cases hx
    |some y=>
     cases hx
     exact L6 i x hu gY
   |none=>
    rw[hu] at hx
    simp only at hx
    obtain⟨h1,h2,h3⟩:=bb.ob i x hx
    have mT:i∉e.wr:=by
     unfold bT.wr
     rw[aqP,not_or]
     exact⟨lP.1 hu,gY⟩
    exact⟨h1,k.u _ h2,h3.cj k h2 (hun i h2 h1 mT)⟩
structure bt(P:Program)(t:TypeId)(g:Bool)(z:List Value):Prop where
 agg:∃d,P.underlying t=some d∧LH d=g
 jD:∃i,P.info? t=some i∧i.size=z.length∧i.zero=some (pack g z)
section
variable {P:Program} {Qx:Exit→Act→World→Prop} {L:List (Nat×Value)} {w:World} {d:Option Tmp} {ty:TypeId} {pos:String} {af:Array Edge} {g:Option (Nat×Bool)} {t:TypeId} {x u:Operand} {a:Bool} {z:List Value} {o:bL}
theorem bt.isAgg(h:bt P t a z)(w:World):(isAgg t).run P w= .ok a w:=by
 obtain⟨d,h1,h2⟩:=h.agg
 unfold Go.isAgg
 rw[Sem.run_bind,run_underlying h1 w]
 simp only[Result.andThen_ok]
 rw[←h2]
 cases d<;>rfl
theorem bt.sizeOf(h:bt P t a z)(w:World):(sizeOf t).run P w= .ok z.length w:=by
 obtain⟨i,h1,h2,_⟩:=h.jD
 simp[Go.sizeOf,typeInfo,h1,h2]
theorem bt.zero(h:bt P t a z)(w:World):(zeroValue t).run P w= .ok (pack a z) w:=by
 obtain⟨i,h1,_,h4⟩:=h.jD
 simp[zeroValue,typeInfo,h1,h4]
theorem OW.uy [Rd]{pa:Addr}{cs:List Value}(hT:bt P t a z)(hz:a=false→z.length=1)(hx:ev L x=some (.pointer (some pa)))(hc:gy w pa cs)(hl:cs.length=z.length):
  OW P Qx L ⟨d,.load t x,ty,pos,af,g⟩ w (fun v' w'=>v'=pack a cs∧w'=w):=by
 refine OW.run fun b hb=>⟨pack a cs,w, ?_,rfl,rfl⟩
 have fb:(loadVar t pa).run P w= .ok (pack a cs) w:=by
  simp only[loadVar,Sem.run_bind,hT.isAgg,Result.andThen_ok]
  cases a with
  |true=>
   have:=run_loadCells_list (P:=P) w pa cs hc
   rw[hl] at this
   simp[hT.sizeOf,this,pack]
  |false=>
   rw[hz rfl] at hl
   match cs,hl,hc with
   |[u],_,hc=>
    have:=hc 0 u rfl
    have hu:w.cell? pa=some u:=by simpa[Addr.add] using this
    simp[pack,hu]
 simp[execOp,hb _ _ hx,Instr.loadAt,Instr.sureAddr,fb]
theorem OW.acX [Rd]{b off:Nat}{cs vs:List Value}{T':TypeId}{v:Value}{c:Nat}(hT:bt P t a z)(hx:ev L x=some (.pointer (some ⟨b,off,none⟩)))(hu:ev L u=some v)(hb:w.heap[b]? =some (.cells cs.toArray T' (0,0)))(ho:o b=c)
  (hv:v.cells=vs.toArray) (h1:∀u∈vs,u.oneCell'=true) (hl:vs.length=z.length) (hle:off+vs.length≤cs.length):
  OW P Qx L ⟨d,.store t x u,ty,pos,af,g⟩ w (fun v' w'=>v'=undef∧ba [c] [] o w o w'∧w'.heap[b]? =some (.cells (cs.take off++vs++cs.drop (off+vs.length)).toArray T' (0,0))):=by
 have bD:=run_storeCells_at P b off T' vs 0 cs.toArray w hb (by simp;omega) h1
 simp only[Nat.add_zero] at bD
 have bh:ba [c] [] o w o (w.setRow b (cs.take off++vs++cs.drop (off+vs.length)).toArray):=ba.row _ ho
 refine OW.Eu fun a ha=>⟨_, ?_,rfl,bh,setRow_heap w b _ _ T' _ hb⟩
 simp[execOp,ha _ _ hx,ha _ _ hu,Instr.storeAt,Instr.sureAddr,storeVar,hT.sizeOf,hv,hl,bD]
theorem OW.apf [Rd](c:Nat)(hT:bt P t a z)(hz:a=false→∃u,z=[u]∧u.oneCell'=true):
  OW P Qx L ⟨d,.alloc t,ty,pos,af,g⟩ w (fun v' w'=>∃b,v'=dJ b 0∧w.heap.size≤b∧ba [] [c] o w (grow o w c) w'∧w'.heap[b]? =some (.cells z.toArray t (0,0))):=by
 refine OW.run fun b ha=>⟨_,w.alloc (.cells z.toArray t), ?_,w.heap.size,rfl,aqM _,ba.alloc o w _ c,heap_alloc_new w _⟩
 have li:(pack a z).cells=z.toArray:=by
  cases a with
  |true=>rfl
  |false=>
   obtain⟨u,rfl,h1⟩:=hz rfl
   exact G3 h1
 simp[execOp,Instr.alloc,hT.zero,newVar,newRow,li,newObj]
 rfl
theorem OW.ao2 [Rd]{v:Value}(c:Nat)(cs:List Value)(hx:ev L u=some v)(hv:v.cells=cs.toArray):
  OW P Qx L ⟨d,.box t u,ty,pos,af,g⟩ w (fun v' w'=>∃b,v'=dJ b 0∧w.heap.size≤b∧ba [] [c] o w (grow o w c) w'∧w'.heap[b]? =some (.cells cs.toArray t (0,0))):=by
 refine OW.run fun a ha=>⟨_,w.alloc (.cells cs.toArray t), ?_,w.heap.size,rfl,aqM _,ba.alloc o w _ c,heap_alloc_new w _⟩
 simp[execOp,ha _ _ hx,Instr.box,newVar,newRow,hv,newObj]
 rfl
theorem OW.aoO [Rd]{parts:List (Nat×Operand)}{vs:List (Nat×Value)}{pl:List (Nat×Nat)}(ns:List (Nat×List Value))(fI:List Value)(bD:eV P t pl)(hT:bt P t true z)(hp:vC L parts=some vs)(hc:Iu vs ns)(hf:vB pl z ns=some fI):
  OW P Qx L ⟨d,.build t parts.toArray,ty,pos,af,g⟩ w (fun v' w'=>v'= .agg fI.toArray∧w'=w):=by
 obtain⟨fs,h1,h2⟩:=bD.fs
 obtain⟨i,dX,cF,jo⟩:=hT.jD
 have h3:=Vs hc hf
 refine OW.run fun a ha=>⟨.agg fI.toArray,w, ?_,rfl,rfl⟩
 have uQ:(parts.toArray.map fun(x:Nat×Operand)=>(x.1,a.eval x.2)).toList=vs:=by
  rw[←Vw ha hp];simp
 have Mm:(pack true z).cells=z.toArray:=rfl
 have hb:P.built t (parts.toArray.map fun(x:Nat×Operand)=>(x.1,a.eval x.2)).toList=some fI.toArray:=by
  simp only[Program.built,dX,h1,jo,h2,Mm,uQ,h3]
 have hr:=run_build (P:=P) w t _ _ hb
 simp only[execOp,Sem.run_bind]
 rw[hr]
 rfl
end
end
end Rx
end Go.Proofs.YtncbfgppjfcijaaGreat
namespace Go.Proofs.YtncbfgppjfcijaaGreat
open Go Go.RowKit Dp
namespace Rx
section
variable {D:Nat→Type} [∀n,ab (D n)]
def we(T:aV D):g_→List Value
 | .one (.int k)=>[.int k 0]
 | .one .bool=>[.bool false]
 | .one .str=>[.string arX]
 | .one (.sl _)=>[.slice none 0 0]
 | .st n=>qk (T.lv n)
 | .ptr=>[.pointer none]
 | .fn=>[.nilFunc]
def cg(P:Program)(T:aV D)(t:TypeId)(d:g_):Prop:=
 bt P t d.agg (we T d)∧match d with
  | .one (.int k)=>P.underlying t=some (.int k)
  | .one .bool=>P.underlying t=some .bool
  | .one .str=>P.underlying t=some .string
  |_=>True
structure C3(P:Program)(D:Nat→Type)[∀n,ab (D n)](n tc m:Nat):Prop where
 one:jU (D n)
 flat:Flat (D m)
 ty:bz P tc (D m)
 zc:IF (ab.zc (D n))=true
structure IC(P:Program)(D:Nat→Type)[∀n,ab (D n)](t m e n:Nat):Prop where
 qu:P.underlying t=some (.array m e)
 el:bz P e (D n)
 z:∃i z,P.info? t=some i∧i.zero=some z∧z.cells.size=m*ab.sz (D n)
def eN:List Lf→List Value→Prop
 |[],[]=>True
 |l::r,v::vs=>(match l with| .int k=>∃a,v= .int k a| .bool=>∃b,v= .bool b| .str=>∃s,v= .string s| .sl _=>False)∧eN r vs
 |_,_=>False
def fB(P:Program)(t:TypeId)(g:Bool)(ls:List Lf)(k:Nat):Prop:=∀(d:Nat) (w:World) (us vs:List Value),eN ls us→eN ls vs→∃r:Bool,(Op.equalIn (d+k) t (pack g us) (pack g vs)).run P w= .ok r w∧(r=true↔us=vs)
structure zj(P:Program)(t:TypeId)(ls:List Lf):Prop where
 eq:∃k,k≤10000∧fB P t true ls k
 guard:P.eqGuardType P.depth t=false
structure o9(P:Program)(kt:TypeId)(ls:List Lf):Prop where
 check:∀(w:World) (em:Bool) (ks:List Value),eN ls ks→(Instr.checkKey em 10000 kt (ep ks)).run P w= .ok () w
 find:∀(w:World) (ks:List Value),eN ls ks→∀es:List MapEntry,(∀e∈es,∃us,eN ls us∧e.key=ep us)→
  ((Instr.findKey kt (ep ks) es).run P w= .ok none w∧∀e∈es,e.key≠ep ks)∨∃j e,(Instr.findKey kt (ep ks) es).run P w= .ok (some (j,e.val)) w∧es[j]? =some e∧e.key=ep ks
 stays:∀(w:World) (ks:List Value),eN ls ks→(Instr.keyThatStays (ep ks) (ep ks)).run P w= .ok (ep ks) w
structure PE(P:Program)(T:aV D)(t kt vt n:Nat):Prop where
 qu:P.underlying t=some (.map kt vt)
 key:o9 P kt (T.lv n).dropLast
 flat:(T.lv n).all jr=true
 val:∃l,sh (T.lv n)=some l∧bt P vt false (qk [l])
structure dh(P:Program)(T:aV D):Prop where
 ty:∀t d,au T.ty t=some d→cg P T t d
 bS:∀t e n,au T.bS t=some (e,n)→P.underlying t=some (.slice e)∧bz P e (D n)
 oR:∀t l,au T.oR t=some l→eV P t l∧∀i off sz,l[i]? =some (off,sz)→eZ P t i off
 vD:∀t ls,au T.vD t=some ls→zj P t ls∧ls.all jr=true
 kd:∀n tc m,au T.kd n=some (tc,m)→C3 P D n tc m
 ml:∀t m e n,au T.ml t=some (m,e,n)→IC P D t m e n
 ou:∀t kt vt n,au T.ou t=some (kt,vt,n)→PE P T t kt vt n
variable {P:Program} {T:aV D} {Qx:Exit→Act→World→Prop} {U:Nat→Prop} {ah:Nat} {γ:Gh D} {w:World} {sl:List (Nat×AV D)} {L:List (Nat×Value)} {ob:List (Nat×Option (AO D))}
 {d:Option Tmp} {ty:TypeId} {pos:String} {af:Array Edge} {gd:Option (Nat×Bool)} {e:bT D} {l:List Nat}
theorem PP:∀ls:List Lf,(qk ls).length=ls.length
 |[]=>rfl
 |l::r=>by simp[qk,PP r]
theorem wc(T:aV D):∀ty:g_,(we T ty).length=ty.n T
 | .one (.int k)=>rfl
 | .one .bool=>rfl
 | .one .str=>rfl
 | .one (.sl _)=>rfl
 | .st n=>PP _
 | .ptr=>rfl
 | .fn=>rfl
theorem C_(T:aV D):∀ty:g_,ty.agg=false→(we T ty).length=1
 | .one (.int k),_=>rfl
 | .one .bool,_=>rfl
 | .one .str,_=>rfl
 | .one (.sl _),_=>rfl
 | .st n,h=>by cases h
 | .ptr,_=>rfl
 | .fn,_=>rfl
theorem xn:∀(ts:List Lf) (h:HL D ts),(ot ts h).map DV.l=ts
 |[],_=>rfl
 |[l],x=>rfl
 |l::m::r,x=>by simp[ot,xn (m::r) x.2]
theorem Dv:∀{ts:List Lf} {ds:List (DV D)},ds.map DV.l=ts→∃h,toHL ts ds=some h
 |[],[],_=>⟨(),rfl⟩
 |[],_::_,h=>by simp at h
 |[l],[⟨l',d⟩],h=>by
  simp at h
  subst h
  exact⟨d,by simp[toHL]⟩
 |[l],[],h=>by simp at h
 |[l],_::_::_,h=>by simp at h
 |l::m::r,[],h=>by simp at h
 |l::m::r,⟨l',d⟩::ds,h=>by
  simp only[arb,List.cons.injEq] at h
  obtain⟨rfl,h⟩:=h
  obtain⟨x,hx⟩:=Dv h
  exact⟨(d,x),by simp only[toHL,hx,dif_pos]⟩
def A5(T:aV D)(n off m:Nat)(x:D n):List (D m):=match(T.out n x)[off]? with
 |some ⟨.sl m',d⟩=>if h:m'=m then h▸d else []
 |_=>[]
def uC(T:aV D)(n off m:Nat)(x:D n)(l:List (D m)):D n:=match T.gi n ((T.out n x).set off ⟨.sl m,l⟩) with
 |some y=>y
 |none=>x
theorem S3{n off m:Nat}{x:D n}{d:List (D m)}(h:(T.out n x)[off]? =some ⟨.sl m,d⟩):A5 T n off m x=d:=by
 unfold A5
 rw[h]
 simp
theorem S4{n off m:Nat}(x:D n)(h:(T.lv n)[off]? =some (.sl m)):(T.out n x)[off]? =some ⟨.sl m,A5 T n off m x⟩:=by
 have hk:((T.out n x).map DV.l)[off]? =some (.sl m):=by rw[aV.out,xn];exact h
 rw[List.getElem?_map] at hk
 cases hd:(T.out n x)[off]? with
 |none=>rw[hd] at hk;cases hk
 |some y=>
  obtain⟨l,d⟩:=y
  rw[hd] at hk
  simp only[Option.map_some,aq3] at hk
  subst hk
  rw[S3 hd]
theorem Lw(hR:bQ T){n off m:Nat}{x:D n}{l:List (D m)}(h:(T.lv n)[off]? =some (.sl m)):T.out n (uC T n off m x l)=(T.out n x).set off ⟨.sl m,l⟩:=by
 have hk:((T.out n x).set off ⟨.sl m,l⟩).map DV.l=T.lv n:=by
  rw[List.map_set,aV.out,xn]
  apply arQ
  intro i
  rw[arq]
  by_cases hi:off=i
  · subst hi
    rw[if_pos rfl,h]
    simp[(aq9.1 h).1]
  · rw[if_neg hi]
 obtain⟨y,hy⟩:=Dv hk
 have hm:T.gi n ((T.out n x).set off ⟨.sl m,l⟩)=some (T.uu n y):=by unfold aV.gi;rw[hy]
 unfold uC
 rw[hm]
 exact hR.gi hm
theorem bK.at{S:Nat→Prop}{w:World}:∀{vs:List Value} {ds:List (DV D)},bK S w vs ds→∀{i:Nat} {d:DV D},ds[i]? =some d→∃u,vs[i]? =some u∧cq S w u d
 |[],[],_,i,d,h=>by simp at h
 |v::vs,e::ds,hl,0,d,h=>by cases h;exact⟨v,rfl,hl.1⟩
 |v::vs,e::ds,hl,i+1,d,h=>by
  obtain⟨u,h1,h2⟩:=bK.at hl.2 (i:=i) (by simpa using h)
  exact⟨u,by simpa using h1,h2⟩
 |[],_::_,hl,_,_,_=>hl.elim
 |_::_,[],hl,_,_,_=>hl.elim
theorem bK.setAt{S:Nat→Prop}{w:World}{u:Value}{d:DV D}(hu:cq S w u d):∀{vs:List Value} {ds:List (DV D)},bK S w vs ds→∀(i:Nat),bK S w (vs.set i u) (ds.set i d)
 |[],[],_,_=>trivial
 |v::vs,e::ds,hl,0=>⟨hu,hl.2⟩
 |v::vs,e::ds,hl,i+1=>⟨hl.1,bK.setAt hu hl.2 i⟩
 |[],_::_,hl,_=>hl.elim
 |_::_,[],hl,_=>hl.elim
theorem af2(hR:bQ T){n off m:Nat}(h:(T.lv n)[off]? =some (.sl m)):PD off (A5 T n off m) (uC T n off m):=by
 refine⟨?_, ?_, ?_⟩
 · intro S w cs x hr
   rw[hR.rd] at hr
   obtain⟨u,h1,h2⟩:=bK.at hr (S4 x h)
   have aK:=(aq9.1 h1).1
   refine⟨cs.take off,[u],cs.drop (off+1), ?_,by simp;omega,Rv.Kr h2 rfl⟩
   have:=uf (x:=u) aK
   rw[this]
   apply arQ
   intro i
   rw[arq]
   by_cases hi:off=i
   · subst hi;rw[if_pos rfl,if_pos aK,h1]
   · rw[if_neg hi]
 · intro S w cs x c' y hr hy
   rw[hR.rd] at hr⊢
   rw[Lw hR h]
   have hl:=ab.len hy
   have kb:c'.length=1:=hl
   match c',kb with
   |[u],_=>
    have uU:off<cs.length:=by
     obtain⟨u',h1,_⟩:=bK.at hr (S4 x h)
     exact(aq9.1 h1).1
    show bK _ _ (cs.take off++[u]++cs.drop (off+1)) _
    rw[uf uU]
    exact bK.setAt (d:=⟨.sl m,y⟩) ⟨[u],rfl,hy⟩ hr off
 · intro x a b
   unfold uC
   have e:=Lw hR (x:=x) (l:=a) h
   unfold uC at e
   rw[e,List.set_set]
   have hk:=Lw hR (x:=x) (l:=b) h
   cases hm:T.gi n ((T.out n x).set off ⟨.sl m,b⟩) with
   |some y=>rfl
   |none=>
    exfalso
    unfold aV.gi at hm
    split at hm
    · cases hm
    · rename_i hn
      obtain⟨z,hz⟩:=Dv (ts:=T.lv n) (ds:=(T.out n x).set off ⟨.sl m,b⟩) (by
       rw[←hk,aV.out,xn])
      rw[hz] at hn
      cases hn
theorem E7(d:DV D):named U γ 0 d:= .inl rfl
theorem jf:cT []:=fun x h=>by cases h
theorem alc{v:Value}{a:AV D}(h:N3 v=some a):eM U γ w a v:=by
 unfold N3 at h
 split at h<;>first
  |(cases h;exact⟨rfl,E7 _,jf⟩)
  |(cases h;rfl)
  |cases h
theorem bJ(hs:SR U γ w sl L){x:Operand}{a:AV D}(h:dm sl x=some a):∃v,ev L x=some v∧eM U γ w a v:=by
 cases x with
 |tmp t=>exact hs.look h
 |const v=>exact⟨v,rfl,alc h⟩
 |func f=>
  simp only[dm] at h
  split at h
  · rename_i hf
    cases h
    exact⟨_,rfl,[],by unfold p6;rw[if_pos hf],trivial⟩
  · cases h
 |global g=>cases h
theorem Vy(hs:SR U γ w sl L):∀{xs:List Operand} {as:List (AV D)},dk sl xs=some as→∃vs,lA L xs=some vs∧jQ U γ w as vs
 |[],as,h=>by
  simp only[dk,aq3] at h
  subst h
  exact⟨[],rfl,trivial⟩
 |x::r,as,h=>by
  unfold dk at h
  split at h
  · rename_i a b ha hb
    cases h
    obtain⟨v,h1,h2⟩:=bJ hs ha
    obtain⟨vs,h3,h4⟩:=Vy hs hb
    exact⟨v::vs,by simp[lA,h1,h3],h2,h4⟩
  · cases h
theorem oU{xs:List Operand}{a:AV D}{as:List (AV D)}{x:Operand}(h:dk sl (x::xs)=some (a::as)):dm sl x=some a∧dk sl xs=some as:=by
 unfold dk at h
 split at h
 · rename_i a' b ha hb
   cases h
   exact⟨ha,hb⟩
 · cases h
theorem kJ{a:AV D}{x:Operand}(h:dk sl [x]=some [a]):dm sl x=some a:=(oU h).1
theorem nP{a b:AV D}{x y:Operand}(h:dk sl [x,y]=some [a,b]):dm sl x=some a∧dm sl y=some b:=⟨(oU h).1,kJ (oU h).2⟩
theorem Vx{a b c:AV D}{x y z:Operand}(h:dk sl [x,y,z]=some [a,b,c]):dm sl x=some a∧dm sl y=some b∧dm sl z=some c:=⟨(oU h).1,nP (oU h).2⟩
theorem oT:∀{xs:List Operand} {as:List (AV D)},dk sl xs=some as→xs.length=as.length
 |[],as,h=>by simp only[dk,aq3] at h;subst h;rfl
 |x::r,as,h=>by
  unfold dk at h
  split at h
  · rename_i a b ha hb
    cases h
    simp[oT hb]
  · cases h
theorem kV(hx:Cx U ah γ w sl L ob){a:AV D}{v:Value}(h:eM U γ w a v):cJ U ah γ w ob ⟨a,[],[]⟩ γ v w:=by
 have k:fA U (fY U ah) γ w γ w:=⟨fun i h=> .inl h,fun _ _=>rfl,fun _ _=>rfl,fun _ _ _=>⟨rfl,rfl⟩⟩
 have:=mkPost (e:=⟨a,[],[]⟩) (v:=v) (M:=[]) (N:=[]) (ps:=[]) (g':=γ.g) (v':=γ.v) hx.ob (ba.refl [] [] γ.o w) (by simp) (by simp) (by simp) hx.bR (fun _ _=>rfl) (fun _ _=>rfl) (h.cj k) (fun i x hx=>by simp[au] at hx)
 exact this
def ee(f:Nat→DV D)(g:Nat)(ds:List (DV D)):Nat→DV D:=fun i=>if g≤i then(match ds[i-g]? with|some d=>d|none=>f i) else f i
theorem AT{f:Nat→DV D}{g i:Nat}{ds:List (DV D)}{d:DV D}(h:ds[i]? =some d):ee f g ds (g+i)=d:=by
 unfold ee
 rw[if_pos (by omega),Nat.add_sub_cancel_left,h]
theorem KN{f:Nat→DV D}{g i:Nat}{ds:List (DV D)}(h:i<g∨g+ds.length≤i):ee f g ds i=f i:=by
 unfold ee
 split
 · rename_i hg
   rw[List.getElem?_eq_none (by omega)]
 · rfl
theorem Cx.dW(hx:Cx U ah γ w sl L ob){i:Nat}(h:U i):i<ah∨ah+64≤i:=by
 rcases Nat.lt_or_ge i ah with h1|h1
 · exact .inl h1
 · rcases Nat.lt_or_ge i (ah+64) with h2|h2
   · exact(hx.fresh i h1 h2 h).elim
   · exact .inr h2
theorem nz(hx:Cx U ah γ w sl L ob){ds:List (DV D)}(hl:ds.length≤48){i:Nat}(h:U i):ee γ.v (ah+16) ds i=γ.v i:=by
 rcases hx.dW h with h1|h1
 · exact KN (.inl (by omega))
 · exact KN (.inr (by omega))
theorem xi(hx:Cx U ah γ w sl L ob)(ds:List (DV D))(hl:ds.length≤48){a:AV D}{v:Value}(h:eM (fY U ah) ⟨γ.o,γ.g,ee γ.v (ah+16) ds⟩ w a v):cJ U ah γ w ob ⟨a,[],[]⟩ ⟨γ.o,γ.g,ee γ.v (ah+16) ds⟩ v w:=by
 have:=mkPost (e:=⟨a,[],[]⟩) (v:=v) (M:=[]) (N:=[]) (ps:=[]) (g':=γ.g) (v':=ee γ.v (ah+16) ds) hx.ob (ba.refl [] [] γ.o w) (by simp) (by simp) (by simp) hx.bR (fun _ _=>rfl) (fun i hi=>nz hx hl hi) h (fun i x hx=>by simp[au] at hx)
 exact this
theorem jY{γ':Gh D}{ds:List (DV D)}{i:Nat}{x:DV D}(hv:γ'.v=ee γ.v (ah+16) ds)(hi:i<48)(h:ds[i]? =some x):named (fY U ah) γ' (ah+16+i) x:=
 .inr ⟨.inr ⟨by omega,by omega⟩,by rw[hv];exact AT h⟩
theorem cQ(hx:Cx U ah γ w sl L ob){lf:Lf}{x:lf.den D}{v:Value}(hf:cq (In γ.o []) w v ⟨lf,x⟩):cJ U ah γ w ob ⟨.c (.one (.v lf x [] (ah+16))),[],[]⟩ ⟨γ.o,γ.g,ee γ.v (ah+16) [⟨lf,x⟩]⟩ v w:=
 xi hx [⟨lf,x⟩] (by simp) ⟨hf,jY (γ:=γ) (i:=0) rfl (by omega) rfl,jf⟩
theorem OW.mono [Rd]{o:Oper}{R R':Value→World→Prop}(h:OW P Qx L o w R)(hr:∀v w',R v w'→R' v w'):OW P Qx L o w R':=fun a K ha hK=>h a K ha fun v w' r=>hK v w' (hr v w' r)
theorem b_ [Rd]{o:Oper}{v:Value}{γ':Gh D}(h:OW P Qx L o w (fun v' w'=>v'=v∧w'=w))(hp:cJ U ah γ w ob e γ' v w):OW P Qx L o w (fun v' w'=>∃γ',cJ U ah γ w ob e γ' v' w'):=
 OW.mono h fun v' w' ⟨h1,h2⟩=>by subst h1;subst h2;exact⟨γ',hp⟩
theorem OW.shr [Rd]{k k':IntKind}{x y:Operand}{t t2:TypeId}{p q c:Int}(h1:ev L x=some (.int k p))(h2:ev L y=some (.int k' q))(hc:oi k.bits p q=some c):
  OW P Qx L ⟨d,.binOp .shr t x y t2,ty,pos,af,gd⟩ w (fun v w'=>v= .int k c∧w'=w):=by
 refine OW.run fun a ha=>⟨_,w, ?_,rfl,rfl⟩
 unfold oi at hc
 split at hc
 · cases hc
 · rename_i hq
   cases hc
   simp[execOp,ha _ _ h1,ha _ _ h2,eqGuard,binOp,Op.shift,hq]
theorem OW.Zy [Rd]{op:BinOp}{x y:Operand}{t t2:TypeId}{p q:Bool}{v:Bool}(ht:P.underlying t=some .bool)(hv:(op= .eql∧v=(p==q))∨(op= .neq∧v= !(p==q)))(h1:ev L x=some (.bool p))(h2:ev L y=some (.bool q)):
  OW P Qx L ⟨d,.binOp op t x y t2,ty,pos,af,gd⟩ w (fun v' w'=>v'= .bool v∧w'=w):=by
 have hE:=PI.bool ht
 have:=hE.run (S:=fun _=>True) (S':=fun _=>True) (w:=w) (v1:= .bool p) (v2:= .bool q) (x:=p) (y:=q) x y ⟨[.bool p],rfl,rfl⟩ ⟨[.bool q],rfl,rfl⟩
 refine OW.run fun a ha=>⟨_,w, ?_,rfl,rfl⟩
 rcases hv with⟨rfl,rfl⟩|⟨rfl,rfl⟩
 · simp[execOp,ha _ _ h1,ha _ _ h2,this.1.1,this.1.2]
   cases p<;>cases q<;>rfl
 · simp[execOp,ha _ _ h1,ha _ _ h2,this.2.1,this.2.2]
   cases p<;>cases q<;>rfl
theorem OW.lC [Rd]{op:BinOp}{x y:Operand}{a b v:Value}{t t2:TypeId}(h1:ev L x=some a)(h2:ev L y=some b)(hg:(eqGuard op t x y a b).run P w= .ok () w)(hr:(binOp op t a b).run P w= .ok v w):
  OW P Qx L ⟨d,.binOp op t x y t2,ty,pos,af,gd⟩ w (fun v' w'=>v'=v∧w'=w):=
 OW.run fun c hc=>⟨_,w,by simp[execOp,hc _ _ h1,hc _ _ h2,hg,hr],rfl,rfl⟩
theorem CQ [Rd](hP:dh P T)(hx:Cx U ah γ w sl L ob){op:BinOp}{x y:Operand}{p q:Bool}{K K':List Nat}{g g':Nat}{t t2:TypeId}(ht:au T.ty t=some (.one .bool))(ha:dm sl x=some (.c (.one (.v .bool p K g))))(hb:dm sl y=some (.c (.one (.v .bool q K' g'))))(h:Q.R ob (O5 op (ah+16) p q) l e):
  OW P Qx L ⟨d,.binOp op t x y t2,ty,pos,af,gd⟩ w (fun v w'=>∃γ',cJ U ah γ w ob e γ' v w'):=by
 obtain⟨u,h1,h2⟩:=bJ hx.sr ha
 obtain⟨v,h3,h4⟩:=bJ hx.sr hb
 have e1:u= .bool p:=h2.1
 have e2:v= .bool q:=h4.1
 subst e1 e2
 have hu:P.underlying t=some .bool:=(hP.ty _ _ ht).2
 unfold O5 at h
 split at h
 · obtain⟨_,rfl⟩:=h
   exact b_ (OW.Zy (v:=p==q) hu (.inl ⟨rfl,rfl⟩) h1 h3) (cQ hx rfl)
 · obtain⟨_,rfl⟩:=h
   exact b_ (OW.Zy (v:= !(p==q)) hu (.inr ⟨rfl,rfl⟩) h1 h3) (cQ hx rfl)
 · exact h.elim
theorem ao6 [Rd](hx:Cx U ah γ w sl L ob){op:BinOp}{x y:Operand}{k k':IntKind}{p q:Int}{t t2:TypeId}(h1:ev L x=some (.int k p))(h3:ev L y=some (.int k' q))(h:Q.R ob (O4 op (ah+16) k k' p q) l e):
  OW P Qx L ⟨d,.binOp op t x y t2,ty,pos,af,gd⟩ w (fun v w'=>∃γ',cJ U ah γ w ob e γ' v w'):=by
 unfold O4 at h
 split at h
 · obtain⟨c,hc,_,rfl⟩:=h
   exact b_ (OW.shr h1 h3 hc) (cQ hx rfl)
 · split at h
   case isFalse=>exact h.elim
   rename_i hk
   subst hk
   split at h
   · obtain⟨_,rfl⟩:=h
     exact b_ (OW.lC (v:= .int k (k.wrap (p+q))) h1 h3 (by simp[eqGuard]) (by simp[binOp,Op.intArith])) (cQ hx rfl)
   · obtain⟨_,rfl⟩:=h
     exact b_ (OW.lC (v:= .int k (k.wrap (p-q))) h1 h3 (by simp[eqGuard]) (by simp[binOp,Op.intArith])) (cQ hx rfl)
   · obtain⟨_,rfl⟩:=h
     exact b_ (OW.lC (v:= .int k (k.wrap (p*q))) h1 h3 (by simp[eqGuard]) (by simp[binOp,Op.intArith])) (cQ hx rfl)
   · obtain⟨_,rfl⟩:=h
     exact b_ (OW.lC (v:= .int k (qO k p q)) h1 h3 (by simp[eqGuard]) (by simp[binOp,Op.intBits,qO])) (cQ hx rfl)
   · obtain⟨_,rfl⟩:=h
     exact b_ (OW.lC (v:= .bool (p==q)) h1 h3 (by simp[eqGuard]) (by simp[binOp,Op.intCmp])) (cQ hx rfl)
   · obtain⟨_,rfl⟩:=h
     exact b_ (OW.lC (v:= .bool (p !=q)) h1 h3 (by simp[eqGuard]) (by simp[binOp,Op.intCmp])) (cQ hx rfl)
   · obtain⟨_,rfl⟩:=h
     exact b_ (OW.lC (v:= .bool (decide (p<q))) h1 h3 (by simp[eqGuard]) (by simp[binOp,Op.intCmp])) (cQ hx rfl)
   · obtain⟨_,rfl⟩:=h
     exact b_ (OW.lC (v:= .bool (decide (p≤q))) h1 h3 (by simp[eqGuard]) (by simp[binOp,Op.intCmp])) (cQ hx rfl)
   · obtain⟨_,rfl⟩:=h
     exact b_ (OW.lC (v:= .bool (decide (p>q))) h1 h3 (by simp[eqGuard]) (by simp[binOp,Op.intCmp])) (cQ hx rfl)
   · obtain⟨_,rfl⟩:=h
     exact b_ (OW.lC (v:= .bool (decide (p≥q))) h1 h3 (by simp[eqGuard]) (by simp[binOp,Op.intCmp])) (cQ hx rfl)
   · exact h.elim
theorem Ru(a b:ByteArray):(a.toList==b.toList)=wX a b:=by
 rw[Bool.eq_iff_iff]
 show(a.toList==b.toList)=true↔(a==b)=true
 have hb:∀p q:ByteArray,(p==q)=true↔p=q:=fun⟨a⟩ ⟨b⟩=>by
  show(a==b)=true↔_
  simp
 rw[beq_iff_eq,hb,ByteArray.toList_eq,ByteArray.toList_eq]
 constructor
 · intro h
   exact ByteArray.ext (Array.toList_inj.mp h)
 · rintro rfl
   rfl
theorem acU [Rd](hx:Cx U ah γ w sl L ob){op:BinOp}{x y:Operand}{p q:ByteArray}{t t2:TypeId}(h1:ev L x=some (.string p))(h3:ev L y=some (.string q))(h:Q.R ob (Ji op (ah+16) p q) l e):
  OW P Qx L ⟨d,.binOp op t x y t2,ty,pos,af,gd⟩ w (fun v w'=>∃γ',cJ U ah γ w ob e γ' v w'):=by
 unfold Ji at h
 split at h
 · obtain⟨c,hc,_,rfl⟩:=h
   unfold Rw at hc
   split at hc
   case isFalse=>cases hc
   rename_i hs
   cases hc
   have h':¬(9223372036854775807<((p.size:Int)+(q.size:Int))):=by omega
   exact b_ (OW.lC (v:= .string (p++q)) h1 h3 (by simp[eqGuard]) (by simp[binOp,Op.stringOp,h'])) (cQ hx rfl)
 · obtain⟨_,rfl⟩:=h
   exact b_ (OW.lC (v:= .bool (wX p q)) h1 h3 (by simp[eqGuard]) (by rw[←Ru];simp[binOp,Op.stringOp])) (cQ hx rfl)
 · obtain⟨_,rfl⟩:=h
   exact b_ (OW.lC (v:= .bool (!(wX p q))) h1 h3 (by simp[eqGuard]) (by rw[←Ru];simp[binOp,Op.stringOp];try rfl)) (cQ hx rfl)
 · exact h.elim
theorem ao5 [Rd](hx:Cx U ah γ w sl L ob){op:BinOp}{x y:Operand}{a b:AV D}{t t2:TypeId}(ha:dm sl x=some a)(hb:dm sl y=some b)(h:Q.R ob (O3 op (ah+16) a b) l e):
  OW P Qx L ⟨d,.binOp op t x y t2,ty,pos,af,gd⟩ w (fun v w'=>∃γ',cJ U ah γ w ob e γ' v w'):=by
 unfold O3 at h
 split at h
 · rename_i k p K g k' q K' g'
   obtain⟨u,h1,h2⟩:=bJ hx.sr ha
   obtain⟨v,h3,h4⟩:=bJ hx.sr hb
   have e1:u= .int k p:=h2.1
   have e2:v= .int k' q:=h4.1
   subst e1 e2
   split at h
   · split at h
     case h_4=>
      obtain⟨c,hc,_,rfl⟩:=h
      exact b_ (OW.quo h1 h3 hc) (cQ hx rfl)
     case h_5=>
      obtain⟨c,hc,_,rfl⟩:=h
      exact b_ (OW.rem h1 h3 hc) (cQ hx rfl)
     case h_12=>
      obtain⟨c,hc,_,rfl⟩:=h
      exact b_ (OW.shr h1 h3 hc) (cQ hx rfl)
     all_goals first
      |exact h.elim
      |(obtain⟨_,rfl⟩:=h
        refine b_ (OW.pv (v:= ?_) ?_) (cQ hx ?_)
        rotate_left
        · simp only[Dp.pv,h1,h3,bin]
          rfl
        · rfl)
   · exact ao6 hx h1 h3 h
 · rename_i p K g q K' g'
   obtain⟨u,h1,h2⟩:=bJ hx.sr ha
   obtain⟨v,h3,h4⟩:=bJ hx.sr hb
   have e1:u= .string p:=h2.1
   have e2:v= .string q:=h4.1
   subst e1 e2
   exact acU hx h1 h3 h
 · exact h.elim
theorem GO:∀{cs:List (A1 D)} {us:List Value} {ks:List (DV D)},yB cs=some ks→bX U γ w cs us→bK (fun _=>True) w us ks
 |[],us,ks,h,hv=>by
  cases h
  cases us with
  |nil=>trivial
  |cons _ _=>exact hv.elim
 |a::cs,us,ks,h,hv=>by
  cases us with
  |nil=>exact hv.elim
  |cons u us=>
   unfold yB at h
   split at h
   · rename_i gZ;cases gZ
   · rename_i lf x K g r gZ
     cases gZ
     split at h
     case h_2=>cases h
     rename_i ks' fE
     cases h
     exact⟨hv.1.1.mono fun _ _ _=>⟨trivial,rfl⟩,GO fE hv.2⟩
   · cases h
theorem C4{S:Nat→Prop}:∀{vs:List Value} {ks:List (DV D)},bK S w vs ks→(ks.map DV.l).all jr=true→eN (ks.map DV.l) vs
 |[],[],_,_=>trivial
 |v::vs,⟨l,x⟩::ks,h,hf=>by
  simp only[arb,List.all_cons,aqL] at hf
  refine⟨?_,C4 h.2 hf.2⟩
  cases l with
  |int k=>exact⟨x,h.1⟩
  |bool=>exact⟨x,h.1⟩
  |str=>exact⟨x,h.1⟩
  |sl n=>cases hf.1
 |[],_::_,h,_=>h.elim
 |_::_,[],h,_=>h.elim
theorem VF{S S':Nat→Prop}{w':World}{u v:Value}{x y:DV D}(hu:cq S w u x)(hv:cq S' w' v y)(hl:x.l=y.l)(hf:jr x.l=true):vH x y=true↔u=v:=by
 obtain⟨l,x⟩:=x
 obtain⟨l',y⟩:=y
 dsimp only at hl
 subst hl
 cases l with
 |int k=>
  have e1:u= .int k x:=hu
  have e2:v= .int k y:=hv
  subst e1 e2
  simp[vH,FA]
 |bool=>
  have e1:u= .bool x:=hu
  have e2:v= .bool y:=hv
  subst e1 e2
  simp[vH,beq']
 |str=>
  have e1:u= .string x:=hu
  have e2:v= .string y:=hv
  subst e1 e2
  show(x==y)=true↔_
  rw[show(Value.string x=Value.string y)=(x=y) from by simp]
  clear hu hv hf
  have:∀p q:ByteArray,(p==q)=true↔p=q:=fun⟨a⟩ ⟨b⟩=>by
   show(a==b)=true↔_
   simp
  exact this x y
 |sl n=>cases hf
theorem VE{S S':Nat→Prop}{w':World}:∀{us vs:List Value} {xs ys:List (DV D)},bK S w us xs→bK S' w' vs ys→xs.map DV.l=ys.map DV.l→(xs.map DV.l).all jr=true→(oW xs ys=true↔us=vs)
 |[],[],[],[],_,_,_,_=>by simp[oW]
 |u::us,v::vs,x::xs,y::ys,h,h',hk,hf=>by
  simp only[arb,List.cons.injEq] at hk
  simp only[arb,List.all_cons,aqL] at hf
  have e1:=VF h.1 h'.1 hk.1 hf.1
  have ih:=VE h.2 h'.2 hk.2 hf.2
  cases xs with
  |nil=>
   have hy:ys=[]:=by
    have:=hk.2
    cases ys with
    |nil=>rfl
    |cons _ _=>simp at this
   subst hy
   have h1:us=[]:=by cases us with|nil=>rfl|cons _ _=>exact h.2.elim
   have h2:vs=[]:=by cases vs with|nil=>rfl|cons _ _=>exact h'.2.elim
   subst h1 h2
   simp only[oW,e1]
   simp
  |cons x' xs=>
   simp only[oW,HU,aqL,e1]
   rw[ih]
   simp
 |[],_::_,[],[],_,h',_,_=>h'.elim
 |[],_,_::_,_,h,_,_,_=>h.elim
 |_::_,_,[],_,h,_,_,_=>h.elim
 |_,[],_,_::_,_,h',_,_=>h'.elim
 |_,_::_,_,[],_,h',_,_=>h'.elim
theorem akJ{t:TypeId}{ls:List Lf}{us vs:List Value}{xs ys:List (DV D)}(hE:zj P t ls)(hf:ls.all jr=true)(hx:bK (fun _=>True) w us xs)(hy:bK (fun _=>True) w vs ys)(h1:xs.map DV.l=ls)(h2:ys.map DV.l=ls):(Op.equal t (.agg us.toArray) (.agg vs.toArray)).run P w= .ok (oW xs ys) w:=by
 obtain⟨k,hk,hE⟩:=hE.eq
 have c1:=C4 hx (by rw[h1];exact hf)
 have c2:=C4 hy (by rw[h2];exact hf)
 rw[h1] at c1
 rw[h2] at c2
 obtain⟨r,e1,e2⟩:=hE (10000-k) w us vs c1 c2
 rw[show 10000-k+k=10000 by omega] at e1
 have e3:oW xs ys=r:=Bool.eq_iff_iff.2 ((VE hx hy (h1.trans h2.symm) (by rw[h1];exact hf)).trans e2.symm)
 rw[e3]
 exact e1
theorem akK [Rd](hP:dh P T)(hx:Cx U ah γ w sl L ob){op:BinOp}{x y:Operand}{p q:List (A1 D)}{t t2:TypeId}{n:List Lf}(ht:au T.vD t=some n)(ha:dm sl x=some (.c (.agg p)))(hb:dm sl y=some (.c (.agg q)))(h:Q.R ob (NL op (ah+16) n p q) l e):
  OW P Qx L ⟨d,.binOp op t x y t2,ty,pos,af,gd⟩ w (fun v w'=>∃γ',cJ U ah γ w ob e γ' v w'):=by
 unfold NL at h
 split at h
 case h_2=>exact h.elim
 rename_i xs ys dj pI
 split at h
 case isFalse=>exact h.elim
 rename_i hc
 obtain⟨u,h1,us,rfl,h2⟩:=bJ hx.sr ha
 obtain⟨v,h3,vs,rfl,h4⟩:=bJ hx.sr hb
 have e1:=GO dj h2
 have e2:=GO pI h4
 obtain⟨hE,hf⟩:=hP.vD t n ht
 have fb:=akJ hE hf e1 e2 hc.1 hc.2
 split at h
 · obtain⟨_,rfl⟩:=h
   refine b_ (v:= .bool (oW xs ys)) (OW.run fun a ha=>⟨_,w, ?_,rfl,rfl⟩) (cQ hx rfl)
   simp[execOp,ha _ _ h1,ha _ _ h3,eqGuard,hE.guard,binOp,fb]
 · obtain⟨_,rfl⟩:=h
   refine b_ (v:= .bool (!(oW xs ys))) (OW.run fun a ha=>⟨_,w, ?_,rfl,rfl⟩) (cQ hx rfl)
   simp[execOp,ha _ _ h1,ha _ _ h3,eqGuard,hE.guard,binOp,fb]
 · exact h.elim
end
end Rx
end Go.Proofs.YtncbfgppjfcijaaGreat
