import Derived.Test.YtaneejpkncdodaaGreatRb
set_option linter.unusedVariables false
set_option linter.unusedSimpArgs false
set_option linter.unusedSectionVars false
namespace Go.Proofs.YtaneejpkncdodaaGreat
open Go Go.RowKit Dp
namespace Rx
section
variable {D:Nat→Type} [∀n,ad (D n)]
def cL(S:Nat→Prop)(w:World)(v:Value):DV D→Prop
 |⟨.int k,d⟩=>v= .int k d
 |⟨.bool,d⟩=>v= .bool d
 |⟨.str,d⟩=>v= .string d
 |⟨.sl n,d⟩=>Rv S w v (d:List (D n))
def bE(S:Nat→Prop)(w:World):List Value→List (DV D)→Prop
 |[],[]=>True
 |v::vs,d::ds=>cL S w v d∧bE S w vs ds
 |_,_=>False
def qg:List Lf→List Value
 |[]=>[]
 |l::r=>(match l with| .int k=> .int k 0| .bool=> .bool false| .str=> .string ByteArray.empty| .sl _=> .slice none 0 0)::qg r
structure bR(T:aV D):Prop where
 sz:∀n,ad.sz (D n)=(T.lv n).length
 ag:∀n,ad.agg (D n)=T.ag n
 zc:∀n,ad.zc (D n)=qg (T.lv n)
 zero:∀n,(ad.zero:D n)=T.zero n
 rd:∀n S w cs (x:D n),ad.rd S w cs x↔bE S w cs (T.out n x)
 oK:∀n,(T.lv n).length≤48
 EE:∀n h,T.wV n (T.tS n h)=h
theorem cL.mono{S S':Nat→Prop}{w w':World}(hm:∀b,S b→b<w.heap.size→S' b∧w'.heap[b]? =w.heap[b]?){v:Value}:∀{d:DV D},cL S w v d→cL S' w' v d
 |⟨.int k,d⟩,h=>h
 |⟨.bool,d⟩,h=>h
 |⟨.str,d⟩,h=>h
 |⟨.sl n,d⟩,h=>Rv.mono hm h
theorem cL.flat{S S':Nat→Prop}{w w':World}{v:Value}:∀{d:DV D},ji d.l=true→cL S w v d→cL S' w' v d
 |⟨.int k,d⟩,_,h=>h
 |⟨.bool,d⟩,_,h=>h
 |⟨.str,d⟩,_,h=>h
 |⟨.sl n,d⟩,h,_=>by cases h
theorem bE.flat{S S':Nat→Prop}{w w':World}:∀{vs:List Value} {ds:List (DV D)},(ds.map DV.l).all ji=true→bE S w vs ds→bE S' w' vs ds
 |[],[],_,_=>trivial
 |v::vs,d::ds,hf,h=>by
  simp only[List.map_cons,List.all_cons,Bool.and_eq_true] at hf
  exact⟨h.1.flat hf.1,bE.flat hf.2 h.2⟩
 |[],_::_,_,h=>h.elim
 |_::_,[],_,h=>h.elim
theorem QP:∀(ts:List Lf) (h:HL D ts),(od ts h).map DV.l=ts
 |[],_=>rfl
 |[l],x=>rfl
 |l::m::r,x=>by simp only[od,List.map_cons,QP (m::r) x.2]
theorem bR.flat{T:aV D}(hR:bR T){n:Nat}(h:(T.lv n).all ji=true):Flat (D n):=
 ⟨fun{S S' w w' cs x} hr=>(hR.rd n S' w' cs x).2 (bE.flat (by rw[aV.out,QP];exact h) ((hR.rd n S w cs x).1 hr))⟩
theorem bE.mono{S S':Nat→Prop}{w w':World}(hm:∀b,S b→b<w.heap.size→S' b∧w'.heap[b]? =w.heap[b]?):∀{vs:List Value} {ds:List (DV D)},bE S w vs ds→bE S' w' vs ds
 |[],[],_=>trivial
 |v::vs,d::ds,h=>⟨h.1.mono hm,bE.mono hm h.2⟩
 |[],_::_,h=>h.elim
 |_::_,[],h=>h.elim
theorem cL.one{S:Nat→Prop}{w:World}{v:Value}:∀{d:DV D},cL S w v d→v.oneCell'=true
 |⟨.int k,d⟩,h=>by cases h;rfl
 |⟨.bool,d⟩,h=>by cases h;rfl
 |⟨.str,d⟩,h=>by cases h;rfl
 |⟨.sl n,d⟩,h=>Rv.one (α:=List (D n)) h rfl
theorem bE.length{S:Nat→Prop}{w:World}:∀{vs:List Value} {ds:List (DV D)},bE S w vs ds→vs.length=ds.length
 |[],[],_=>rfl
 |v::vs,d::ds,h=>by simp[bE.length h.2]
 |[],_::_,h=>h.elim
 |_::_,[],h=>h.elim
theorem bE.append{S:Nat→Prop}{w:World}:∀{vs:List Value} {ds:List (DV D)} {us:List Value} {es:List (DV D)},bE S w vs ds→bE S w us es→bE S w (vs++us) (ds++es)
 |[],[],_,_,_,h=>h
 |v::vs,d::ds,_,_,h,h'=>⟨h.1,bE.append h.2 h'⟩
 |[],_::_,_,_,h,_=>h.elim
 |_::_,[],_,_,h,_=>h.elim
theorem bE.take{S:Nat→Prop}{w:World}:∀{vs:List Value} {ds:List (DV D)},bE S w vs ds→∀k,bE S w (vs.take k) (ds.take k)
 |_,_,_,0=>by simp[bE]
 |[],[],_,k+1=>trivial
 |v::vs,d::ds,h,k+1=>⟨h.1,bE.take h.2 k⟩
 |[],_::_,h,_=>h.elim
 |_::_,[],h,_=>h.elim
theorem bE.drop{S:Nat→Prop}{w:World}:∀{vs:List Value} {ds:List (DV D)},bE S w vs ds→∀k,bE S w (vs.drop k) (ds.drop k)
 |_,_,h,0=>by simpa using h
 |[],[],_,k+1=>trivial
 |v::vs,d::ds,h,k+1=>by simpa using bE.drop h.2 k
 |[],_::_,h,_=>h.elim
 |_::_,[],h,_=>h.elim
theorem JD:∀{ts:List Lf} {ds:List (DV D)} {h:HL D ts},toHL ts ds=some h→od ts h=ds
 |[],[],h,e=>rfl
 |[],_::_,h,e=>by simp[toHL] at e
 |[l],[],h,e=>by simp[toHL] at e
 |[l],[⟨l',d⟩],h,e=>by
  simp only[toHL] at e
  by_cases hl:l'=l
  · subst hl
    simp only[dif_pos] at e
    cases e
    rfl
  · simp[hl] at e
 |[l],_::_::_,h,e=>by simp[toHL] at e
 |l::m::r,[],h,e=>by simp[toHL] at e
 |l::m::r,⟨l',d⟩::mS,h,e=>by
  rw[toHL] at e
  by_cases hl:l'=l
  · subst hl
    simp only[dif_pos] at e
    cases hx:toHL (m::r) mS with
    |none=>rw[hx] at e;cases e
    |some x=>
     rw[hx] at e
     cases e
     simp only[od,JD hx]
  · simp[hl] at e
variable {T:aV D}
theorem bR.ga{n:Nat}{ds:List (DV D)}{x:D n}(hR:bR T)(h:T.ga n ds=some x):T.out n x=ds:=by
 unfold aV.ga at h
 split at h
 · rename_i y hy
   cases h
   rw[aV.out,hR.EE,JD hy]
 · cases h
theorem QQ{D:Nat→Type}:∀(ts:List Lf) (h:HL D ts),(od ts h).length=ts.length
 |[],_=>rfl
 |[l],x=>rfl
 |l::m::r,x=>by simp[od,QQ (m::r) x.2]
theorem Eo(T:aV D)(n:Nat)(x:D n):(T.out n x).length=(T.lv n).length:=QQ _ _
theorem QO(hR:bR T):∀{t:Ht} {ds mS:List (DV D)} {x:t.den D},rj T t ds=some (x,mS)→ds=Ex T t x++mS
 | .lf l,[],mS,x,e=>by simp[rj] at e
 | .lf l,⟨l',d⟩::r,mS,x,e=>by
   simp only[rj] at e
   by_cases hl:l'=l
   · subst hl
     simp only[dif_pos,Option.some.injEq,Prod.mk.injEq] at e
     obtain⟨rfl,rfl⟩:=e
     rfl
   · simp[hl] at e
 | .el n,ds,mS,x,e=>by
   simp only[rj] at e
   cases hy:T.ga n (ds.take (T.lv n).length) with
   |none=>simp[hy] at e
   |some y=>
    simp only[hy,Option.some.injEq,Prod.mk.injEq] at e
    obtain⟨rfl,rfl⟩:=e
    rw[Ex,hR.ga hy,List.take_append_drop]
theorem QR(hR:bR T):∀{ts:List Ht} {ds:List (DV D)} {h:HH D ts},toHH T ts ds=some h→cM T ts h=ds
 |[],[],h,e=>rfl
 |[],_::_,h,e=>by simp[toHH] at e
 |[t],ds,h,e=>by
  rw[toHH] at e
  cases hx:rj T t ds with
  |none=>simp[hx] at e
  |some y=>
   obtain⟨x,r⟩:=y
   cases r with
   |nil=>
    simp only[hx] at e
    cases e
    have:=QO hR hx
    simp[cM,this]
   |cons _ _=>simp[hx] at e
 |t::m::r,ds,h,e=>by
  rw[toHH] at e
  cases hx:rj T t ds with
  |none=>simp[hx] at e
  |some y=>
   obtain⟨x,mS⟩:=y
   rw[hx] at e
   dsimp only at e
   cases hy:toHH T (m::r) mS with
   |none=>rw[hy] at e;cases e
   |some z=>
    rw[hy] at e
    cases e
    have:=QO hR hx
    simp only[cM,QR hR hy,this]
structure Gh(D:Nat→Type) where
 o:bF
 g:Nat→Value
 v:Nat→DV D
def cU(K:List Nat):Prop:=∀x∈K,x<2
def named(U:Nat→Prop)(γ:Gh D)(t:Nat)(d:DV D):Prop:=t=0∨(U t∧γ.v t=d)
def dD(b off:Nat):Value:= .pointer (some ⟨b,off,none⟩)
def qO(v:Value)(b:Nat):Bool:=match v with
 | .slice (some a) _ _=>Nat.beq a.block b
 |_=>false
def iu(o:bF)(i:Nat)(v:Value):bF:=fun b=>if o b=i then(if qO v b then 0 else 1) else 2
def HR(γ:Gh D)(w:World)(i h:Nat):Prop:=∃cells:Array Value,γ.g h= .agg cells∧∀(b n c q:Nat),γ.g i= .slice (some ⟨b,0,none⟩) n c→w.cell? ⟨b,q,none⟩=cells[q]?
def pT(f:Nat)(cs:List Value):Value:=if Nat.blt f 1000000=true then .func (.func f) #[] cs.toArray else .func (.func (f-1000000)) cs.toArray #[]
theorem aha(f:Nat)(cs:List Value):(pT f cs).oneCell'=true:=by unfold pT;split<;>rfl
def Kb:Value→Bool
 | .slice none _ _=>true
 |_=>false
def mY(U:Nat→Prop)(γ:Gh D)(w:World):A0 D→Value→Prop
 | .ptr i off,v=>U i∧∃b,γ.g i=dD b 0∧v=dD b off
 | .rp n x off K,v=>∃pa:Addr,v= .pointer (some (pa.add off))∧rc (In γ.o K) w pa x∧cU K
def jG(U:Nat→Prop)(γ:Gh D)(w:World):List (A0 D)→List Value→Prop
 |[],[]=>True
 |a::as,v::vs=>mY U γ w a v∧jG U γ w as vs
 |_,_=>False
def dK(U:Nat→Prop)(γ:Gh D)(w:World):A1 D→Value→Prop
 | .v l d K t,v=>cL (In γ.o K) w v ⟨l,d⟩∧named U γ t ⟨l,d⟩∧cU K
 | .ptr i off,v=>U i∧∃b,γ.g i=dD b 0∧v=dD b off
 | .el i n j y off tc tj,v=>U i∧(tc≠0∧U tc)∧(∃xs:List (D n),γ.v tc=⟨.sl n,xs⟩∧idx xs j=some y)∧named U γ tj ⟨.int .i64,j⟩∧
     ∃b len cap,γ.g i= .slice (some ⟨b,0,none⟩) len cap∧v=dD b (j.toNat*ad.sz (D n)+off)
 | .rp n x off K,v=>∃pa:Addr,v= .pointer (some (pa.add off))∧rc (In γ.o K) w pa x∧cU K
 | .vb n xs K t b,v=>(Rv (In γ.o K) w v xs∧named U γ t ⟨.sl n,xs⟩∧cU K)∧b=Kb v
 | .own i,v=>U i∧v=γ.g i∧v.oneCell'=true
 | .fn f fI,v=>∃cs:List Value,v=pT f cs∧jG U γ w fI cs
 | .ch i n j off ct m d,v=>U i∧(ct≠0∧U ct)∧(∃(xs:List (D n)) (y:D n),γ.v ct=⟨.sl n,xs⟩∧idx xs j=some y∧∀(S:Nat→Prop) (w:World) (cs:List Value),ad.rd S w cs y→∃u,cs[off]? =some u∧Rv S w u d)∧
     (∃b len cap cells,γ.g i= .slice (some ⟨b,0,none⟩) len cap∧γ.g ct= .agg cells∧cells[j.toNat*ad.sz (D n)+off]? =some v)∧∃p c,v= .slice p d.length c
 | .sM i t,v=>U i∧U t∧v=γ.g t∧v.oneCell'=true
 | .tail i n j,v=>U i∧(0≤j∧Cz (ad.sz (D n)) (γ.g i) v j.toNat)
 | .pre i n j,v=>U i∧HM (γ.g i) v j.toNat
 | .nM n xs K,v=>(∃aw,v= .agg aw.flatten.toArray∧bz (ad.rd (In γ.o K) w) aw xs)∧cU K
 | .bn,v=>v= .slice none 0 0
 | .np,v=>v= .pointer none
 | .w7,v=>v= .nilFunc
 | .undef,v=>v=undef
 | .vP,_=>True
 | .qB,v=>v.oneCell'=true
def cd(U:Nat→Prop)(γ:Gh D)(w:World):List (A1 D)→List Value→Prop
 |[],[]=>True
 |a::as,v::vs=>dK U γ w a v∧cd U γ w as vs
 |_,_=>False
def j6(U:Nat→Prop)(γ:Gh D)(w:World):AC D→Value→Prop
 | .one a,v=>dK U γ w a v
 | .agg l,v=>∃us:List Value,v= .agg us.toArray∧cd U γ w l us
def gJ(U:Nat→Prop)(γ:Gh D)(w:World):List (AC D)→List Value→Prop
 |[],[]=>True
 |a::as,v::vs=>j6 U γ w a v∧gJ U γ w as vs
 |_,_=>False
def eP(U:Nat→Prop)(γ:Gh D)(w:World):AV D→Value→Prop
 | .c x,v=>j6 U γ w x v
 | .cP l,v=>∃us:List Value,v= .tuple us.toArray∧gJ U γ w l us
def jF(U:Nat→Prop)(γ:Gh D)(w:World):List (AV D)→List Value→Prop
 |[],[]=>True
 |a::as,v::vs=>eP U γ w a v∧jF U γ w as vs
 |_,_=>False
def SR(U:Nat→Prop)(γ:Gh D)(w:World)(sl:List (Nat×AV D))(L:List (Nat×Value)):Prop:=∀t a,aq sl t=some a→∃v,Dp.look L t=some v∧eP U γ w a v
def eh:List Value→Value
 |[u]=>u
 |l=> .agg l.toArray
def gL{α:Type}(R:MapEntry→α→Prop):List MapEntry→List α→Prop
 |[],[]=>True
 |e::es,x::xs=>R e x∧gL R es xs
 |_,_=>False
theorem gL.mono{α:Type}{R R':MapEntry→α→Prop}(hr:∀e x,R e x→R' e x):∀{es:List MapEntry} {xs:List α},gL R es xs→gL R' es xs
 |[],[],_=>trivial
 |_::_,_::_,h=>⟨hr _ _ h.1,gL.mono hr h.2⟩
 |[],_::_,h=>h.elim
 |_::_,[],h=>h.elim
def m8{α:Type}[ad α](o:bF)(i:Nat)(w:World)(v:Value)(xs:List α):Prop:=∃(r:Nat) (es:Array MapEntry) (clock:Nat),v= .map (some r)∧o r=i∧w.heap[r]? =some (.map es clock)∧
 es.toList.Pairwise (fun a b=>a.key≠b.key)∧gL (fun e x=>∃ks:List Value,e.key=eh ks∧ad.rd (fun _=>False) w (ks++[e.val]) x) es.toList xs
theorem m8.mono{α:Type}[ad α]{o o':bF}{i i':Nat}{w w':World}{v:Value}{xs:List α}(h:m8 o i w v xs)(hb:∀b,b<w.heap.size→o b=i→o' b=i'∧w'.heap[b]? =w.heap[b]?):m8 o' i' w' v xs:=by
 obtain⟨r,es,clock,h1,h2,h3,h4,h5⟩:=h
 obtain⟨e1,e2⟩:=hb r (Array.getElem?_eq_some_iff.1 h3).1 h2
 exact⟨r,es,clock,h1,e1,by rw[e2];exact h3,h4,h5.mono fun e x ⟨ks,k1,k2⟩=>⟨ks,k1,ad.mono (fun b hb _=>hb.elim) k2⟩⟩
def OR(U:Nat→Prop)(γ:Gh D)(w:World)(i:Nat):AO D→Prop
 | .box cs=>∃(b:Nat) (us:List Value) (t:TypeId),γ.g i=dD b 0∧γ.o b=i∧w.heap[b]? =some (.cells us.toArray t (0,0))∧cd U γ w cs us∧cs.all storable=true
 | .sl n t xs K g=>Ow t γ.o i K w (γ.g i) xs∧cU K∧named U γ g ⟨.sl n,xs⟩
 | .bY n t tc m xs g h=>fX (ad.sz (D m)) t tc (iu γ.o i (γ.g i)) 0 1 w (γ.g i) xs∧named U γ g ⟨.sl n,xs⟩∧(h=0∨(U h∧γ.v h=⟨.sl n,xs⟩∧HR γ w i h))
 | .ff n t tc m xs j off s g=>named U γ g ⟨.sl n,xs⟩∧U s∧∃b len cap,γ.g i= .slice (some ⟨b,0,none⟩) len cap∧oV (ad.sz (D m)) t tc (iu γ.o i (γ.g i)) 0 1 w (γ.g i) xs ⟨b,j.toNat*ad.sz (D n)+off,none⟩ (γ.g s)
 | .fz n xs K=>Rv (In γ.o K) w (γ.g i) xs∧cU K
 | .mp n xs=>m8 γ.o i w (γ.g i) xs
structure OB(U:Nat→Prop)(γ:Gh D)(w:World)(ob:List (Nat×Option (AO D))):Prop where
 ob:∀i x,cz ob i=some x→1000≤i∧U i∧OR U γ w i x
 cl:∀b,b<w.heap.size→U (γ.o b)
 ro:∀x,x<2000→U x
structure Frame0(γ:Gh D)(w:World)(γ':Gh D)(w':World):Prop where
 os:w'.os=w.os
 tape:w'.tape=w.tape
 output:w'.output=w.output
 size:w.heap.size≤w'.heap.size
 ro:∀b,b<w.heap.size→(γ.o b=0∨γ.o b=3)→γ'.o b=γ.o b∧w'.heap[b]? =w.heap[b]?
 back:∀b,b<w'.heap.size→(γ'.o b=0∨γ'.o b=3)→b<w.heap.size∧γ.o b=γ'.o b
structure Frame(γ:Gh D)(w:World)(γ':Gh D)(w':World):Prop extends Frame0 γ w γ' w' where
 gk:∀i,i<2000→γ'.g i=γ.g i
theorem Frame0.refl(γ:Gh D)(w:World):Frame0 γ w γ w:=⟨rfl,rfl,rfl,Nat.le_refl _,fun _ _ _=>⟨rfl,rfl⟩,fun _ h _=>⟨h,rfl⟩⟩
theorem Frame.refl(γ:Gh D)(w:World):Frame γ w γ w:=⟨.refl γ w,fun _ _=>rfl⟩
theorem Frame0.trans{γ aF aY:Gh D}{w w1 w2:World}(h:Frame0 γ w aF w1)(k:Frame0 aF w1 aY w2):Frame0 γ w aY w2:=by
 refine⟨k.os.trans h.os,k.tape.trans h.tape,k.output.trans h.output,Nat.le_trans h.size k.size,fun b hb hc=> ?_,fun b hb hc=> ?_⟩
 · obtain⟨h1,h2⟩:=h.ro b hb hc
   obtain⟨k1,k2⟩:=k.ro b (Nat.lt_of_lt_of_le hb h.size) (by rw[h1];exact hc)
   exact⟨k1.trans h1,k2.trans h2⟩
 · obtain⟨k1,k2⟩:=k.back b hb hc
   obtain⟨h1,h2⟩:=h.back b k1 (by rw[k2];exact hc)
   exact⟨h1,h2.trans k2⟩
theorem Frame.trans{γ aF aY:Gh D}{w w1 w2:World}(h:Frame γ w aF w1)(k:Frame aF w1 aY w2):Frame γ w aY w2:=
 ⟨h.toFrame0.trans k.toFrame0,fun i hi=>(k.gk i hi).trans (h.gk i hi)⟩
structure fx(U U':Nat→Prop)(γ:Gh D)(w:World)(γ':Gh D)(w':World):Prop where
 u:∀i,U i→U' i
 g:∀i,U i→γ'.g i=γ.g i
 v:∀i,U i→γ'.v i=γ.v i
 ro:∀b,b<w.heap.size→γ.o b<2→γ'.o b=γ.o b∧w'.heap[b]? =w.heap[b]?
section
variable {U U':Nat→Prop} {γ γ':Gh D} {w w':World}
theorem fx.refl:fx U U γ w γ w:=⟨fun _ h=>h,fun _ _=>rfl,fun _ _=>rfl,fun _ _ _=>⟨rfl,rfl⟩⟩
theorem fx.mem(k:fx U U' γ w γ' w'){K:List Nat}(hK:cU K):∀b,In γ.o K b→b<w.heap.size→In γ'.o K b∧w'.heap[b]? =w.heap[b]? :=fun b hb aQ=>by
 obtain⟨h1,h2⟩:=k.ro b aQ (hK _ hb)
 exact⟨by unfold In;rw[h1];exact hb,h2⟩
theorem named.cp(k:fx U U' γ w γ' w'){t:Nat}{d:DV D}(h:named U γ t d):named U' γ' t d:=by
 rcases h with h|⟨h1,h2⟩
 · exact .inl h
 · exact .inr ⟨k.u _ h1,by rw[k.v _ h1];exact h2⟩
theorem mY.cp(k:fx U U' γ w γ' w'):∀{a:A0 D} {v:Value},mY U γ w a v→mY U' γ' w' a v
 | .ptr i off,v,⟨h,b,h1,h2⟩=>⟨k.u _ h,b,by rw[k.g _ h];exact h1,h2⟩
 | .rp n x off K,v,⟨pa,h1,h2,h3⟩=>⟨pa,h1,h2.mono (k.mem h3),h3⟩
theorem jG.cp(k:fx U U' γ w γ' w'):∀{as:List (A0 D)} {vs:List Value},jG U γ w as vs→jG U' γ' w' as vs
 |[],[],_=>trivial
 |a::as,v::vs,h=>⟨h.1.cp k,jG.cp k h.2⟩
 |[],_::_,h=>h.elim
 |_::_,[],h=>h.elim
theorem dK.cp(k:fx U U' γ w γ' w'):∀{a:A1 D} {v:Value},dK U γ w a v→dK U' γ' w' a v
 | .v l d K t,v,⟨h1,h2,h3⟩=>⟨h1.mono (k.mem h3),h2.cp k,h3⟩
 | .ptr i off,v,⟨h,b,h1,h2⟩=>⟨k.u _ h,b,by rw[k.g _ h];exact h1,h2⟩
 | .el i n j y off tc tj,v,⟨h1,h2,⟨xs,h3,h4⟩,h5,b,len,cap,h6,h7⟩=>⟨k.u _ h1,⟨h2.1,k.u _ h2.2⟩,⟨xs,by rw[k.v _ h2.2];exact h3,h4⟩,h5.cp k,b,len,cap,by rw[k.g _ h1];exact h6,h7⟩
 | .rp n x off K,v,⟨pa,h1,h2,h3⟩=>⟨pa,h1,h2.mono (k.mem h3),h3⟩
 | .vb n xs K t b,v,⟨⟨h1,h2,h3⟩,h4⟩=>⟨⟨cL.mono (d:=⟨.sl n,xs⟩) (k.mem h3) h1,h2.cp k,h3⟩,h4⟩
 | .own i,v,⟨h,h1,h2⟩=>⟨k.u _ h,by rw[k.g _ h];exact h1,h2⟩
 | .fn f fI,v,⟨cs,h1,h2⟩=>⟨cs,h1,h2.cp k⟩
 | .ch i n j off ct m d,v,⟨h1,h2,⟨xs,y,h3,h4⟩,⟨b,len,cap,cells,h5,h6,h7⟩,h8⟩=>⟨k.u _ h1,⟨h2.1,k.u _ h2.2⟩,⟨xs,y,by rw[k.v _ h2.2];exact h3,h4⟩,⟨b,len,cap,cells,by rw[k.g _ h1];exact h5,by rw[k.g _ h2.2];exact h6,h7⟩,h8⟩
 | .sM i t,v,⟨h1,h2,h3,h4⟩=>⟨k.u _ h1,k.u _ h2,by rw[k.g _ h2];exact h3,h4⟩
 | .tail i n j,v,⟨h1,h2⟩=>⟨k.u _ h1,by rw[k.g _ h1];exact h2⟩
 | .pre i n j,v,⟨h1,h2⟩=>⟨k.u _ h1,by rw[k.g _ h1];exact h2⟩
 | .nM n xs K,v,⟨⟨aw,h1,h2⟩,h3⟩=>⟨⟨aw,h1,h2.mono fun _ _=>ad.mono (k.mem h3)⟩,h3⟩
 | .bn,v,h=>h
 | .np,v,h=>h
 | .w7,v,h=>h
 | .undef,v,h=>h
 | .vP,v,h=>h
 | .qB,v,h=>h
theorem cd.cp(k:fx U U' γ w γ' w'):∀{as:List (A1 D)} {vs:List Value},cd U γ w as vs→cd U' γ' w' as vs
 |[],[],_=>trivial
 |a::as,v::vs,h=>⟨h.1.cp k,cd.cp k h.2⟩
 |[],_::_,h=>h.elim
 |_::_,[],h=>h.elim
theorem j6.cp(k:fx U U' γ w γ' w'):∀{a:AC D} {v:Value},j6 U γ w a v→j6 U' γ' w' a v
 | .one a,v,h=>dK.cp k h
 | .agg l,v,⟨us,h1,h2⟩=>⟨us,h1,h2.cp k⟩
theorem gJ.cp(k:fx U U' γ w γ' w'):∀{as:List (AC D)} {vs:List Value},gJ U γ w as vs→gJ U' γ' w' as vs
 |[],[],_=>trivial
 |a::as,v::vs,h=>⟨h.1.cp k,gJ.cp k h.2⟩
 |[],_::_,h=>h.elim
 |_::_,[],h=>h.elim
theorem eP.cp(k:fx U U' γ w γ' w'):∀{a:AV D} {v:Value},eP U γ w a v→eP U' γ' w' a v
 | .c x,v,h=>j6.cp k h
 | .cP l,v,⟨us,h1,h2⟩=>⟨us,h1,h2.cp k⟩
theorem SR.cp(k:fx U U' γ w γ' w'){sl:List (Nat×AV D)}{L:List (Nat×Value)}(h:SR U γ w sl L):SR U' γ' w' sl L:=fun t a e=>by
 obtain⟨v,h1,h2⟩:=h t a e
 exact⟨v,h1,h2.cp k⟩
theorem xj{o:bF}{i:Nat}{v:Value}{b:Nat}(h:iu o i v b=0):o b=i∧qO v b=true:=by
 unfold iu at h
 split at h
 · rename_i ho
   split at h
   · rename_i hh;exact⟨ho,hh⟩
   · cases h
 · cases h
theorem xi{o:bF}{i:Nat}{v:Value}{b:Nat}(h:iu o i v b=1):o b=i∧qO v b=false:=by
 unfold iu at h
 split at h
 · rename_i ho
   split at h
   · cases h
   · rename_i hh;exact⟨ho,by simpa using hh⟩
 · cases h
theorem J8{o:bF}{i:Nat}{v:Value}{b:Nat}(h:o b=i)(hh:qO v b=true):iu o i v b=0:=by unfold iu;rw[if_pos h,if_pos hh]
theorem J7{o:bF}{i:Nat}{v:Value}{b:Nat}(h:o b=i)(hh:qO v b=false):iu o i v b=1:=by unfold iu;rw[if_pos h,if_neg (by simp[hh])]
theorem xh{o o':bF}{i i':Nat}{v:Value}{w w':World}(h:∀b,b<w.heap.size→o b=i→o' b=i'∧w'.heap[b]? =w.heap[b]?):
  (∀b,b<w.heap.size→iu o i v b=0→iu o' i' v b=0∧w'.heap[b]? =w.heap[b]?)∧(∀b,b<w.heap.size→iu o i v b=1→iu o' i' v b=1∧w'.heap[b]? =w.heap[b]?):=by
 constructor
 · intro b hb hc
   obtain⟨h1,h2⟩:=xj hc
   exact⟨J8 (h b hb h1).1 h2,(h b hb h1).2⟩
 · intro b hb hc
   obtain⟨h1,h2⟩:=xi hc
   exact⟨J7 (h b hb h1).1 h2,(h b hb h1).2⟩
theorem LA{α:Type}[ad α]{z:Nat}{T Tc:TypeId}{o:bF}{k kc:Nat}{v:Value}{xs:List α}{b len cap:Nat}(h:fX z T Tc o k kc w v xs)(hv:v= .slice (some ⟨b,0,none⟩) len cap):∃aO,o b=k∧w.heap[b]? =some (.cells aO T (0,0)):=by
 rcases h with⟨rfl,_⟩|⟨g,vf,aO,aw,rfl,h2,h3,_⟩
 · cases hv
 · cases hv
   exact⟨aO,h2,h3⟩
theorem HR.mono{γ γ':Gh D}{w w':World}{i i' h h':Nat}(hg:γ'.g i'=γ.g i)(hh:γ'.g h'=γ.g h)(hb:∀b n c,γ.g i= .slice (some ⟨b,0,none⟩) n c→w'.heap[b]? =w.heap[b]?)(k:HR γ w i h):HR γ' w' i' h':=by
 obtain⟨cells,h1,h2⟩:=k
 refine⟨cells,by rw[hh];exact h1,fun b n c q e=> ?_⟩
 rw[hg] at e
 rw[←h2 b n c q e]
 exact World.cell?_of_block (hb b n c e)
theorem OR.cp(k:fx U U' γ w γ' w'){i:Nat}(hU:U i)(hb:∀b,b<w.heap.size→γ.o b=i→γ'.o b=γ.o b∧w'.heap[b]? =w.heap[b]?):∀{x:AO D},OR U γ w i x→OR U' γ' w' i x
 | .box cs,⟨b,us,t,h1,h2,h3,h4,h5⟩=>by
   have aQ:b<w.heap.size:=(Array.getElem?_eq_some_iff.1 h3).1
   obtain⟨e1,e2⟩:=hb b aQ h2
   exact⟨b,us,t,by rw[k.g _ hU];exact h1,by rw[e1];exact h2,by rw[e2];exact h3,h4.cp k,h5⟩
 | .sl n t xs K g,⟨h1,h2,h3⟩=>by
   refine⟨?_,h2,h3.cp k⟩
   rw[k.g _ hU]
   rcases h1 with h1|⟨g,cap,aO,aw,e1,e2,e3,e4,e5,e6,e7,e8⟩
   · exact .inl h1
   · have aQ:g<w.heap.size:=(Array.getElem?_eq_some_iff.1 e3).1
     obtain⟨f1,f2⟩:=hb g aQ e2
     exact .inr ⟨g,cap,aO,aw,e1,by rw[f1];exact e2,by rw[f2];exact e3,e4,e5,e6,e7.mono fun _ _=>ad.mono (k.mem h2),e8⟩
 | .bY n t tc m xs g h,⟨h1,h2,h3⟩=>by
   obtain⟨m0,m1⟩:=xh (v:=γ.g i) (o:=γ.o) (o':=γ'.o) (i:=i) (i':=i) (w:=w) (w':=w') fun b dS ho=>by
    obtain⟨f1,f2⟩:=hb b dS ho
    exact⟨by rw[f1];exact ho,f2⟩
   have hg:=k.g _ hU
   refine⟨by rw[hg];exact h1.mono m0 m1,h2.cp k, ?_⟩
   rcases h3 with h3|⟨h3,h4,h5⟩
   · exact .inl h3
   · refine .inr ⟨k.u _ h3,by rw[k.v _ h3];exact h4,h5.mono hg (k.g _ h3) fun b n c e=> ?_⟩
     obtain⟨aO,e1,e2⟩:=LA h1 e
     exact(hb b (Array.getElem?_eq_some_iff.1 e2).1 (xj e1).1).2
 | .ff n t tc m xs j off s g,⟨h1,h2,b,len,cap,h3,h4⟩=>by
   obtain⟨m0,m1⟩:=xh (v:=γ.g i) (o:=γ.o) (o':=γ'.o) (i:=i) (i':=i) (w:=w) (w':=w') fun b dS ho=>by
    obtain⟨f1,f2⟩:=hb b dS ho
    exact⟨by rw[f1];exact ho,f2⟩
   have hg:=k.g _ hU
   exact⟨h1.cp k,k.u _ h2,b,len,cap,by rw[hg];exact h3,by rw[hg,k.g _ h2];exact h4.mono m0 m1⟩
 | .fz n xs K,⟨h1,h2⟩=>⟨by rw[k.g _ hU];exact cL.mono (d:=⟨.sl n,xs⟩) (k.mem h2) h1,h2⟩
 | .mp n xs,h=>by
   show m8 γ'.o i w' (γ'.g i) xs
   rw[k.g _ hU]
   exact m8.mono h fun b dS ho=>by
    obtain⟨f1,f2⟩:=hb b dS ho
    exact⟨by rw[f1];exact ho,f2⟩
theorem SR.look{sl:List (Nat×AV D)}{L:List (Nat×Value)}(h:SR U γ w sl L){t:Nat}{a:AV D}(e:aq sl t=some a):∃v,Dp.look L t=some v∧eP U γ w a v:=h t a e
theorem SR.cons{sl:List (Nat×AV D)}{L:List (Nat×Value)}{d:Nat}{a:AV D}{v:Value}(h:SR U γ w sl L)(hv:eP U γ w a v):SR U γ w ((d,a)::sl) ((d,v)::L):=fun t b e=>by
 unfold aq at e
 unfold Dp.look
 cases hb:Nat.beq d t with
 |true=>
  simp only[hb,cond_true,Option.some.injEq] at e⊢
  subst e
  exact⟨v,rfl,hv⟩
 |false=>
  simp only[hb,cond_false] at e⊢
  exact h t b e
end
end
end Rx
end Go.Proofs.YtaneejpkncdodaaGreat
namespace Go.Proofs.YtaneejpkncdodaaGreat
open Go Go.RowKit Dp
namespace Rx
section
variable {D:Nat→Type}
def Q.R{α:Type}(ob:List (Nat×Option (AO D))):Q D α→List Nat→α→Prop
 | .ret b,l,a=>l=[]∧a=b
 | .fail,_,_=>False
 | .obj i f,l,a=>∃x l',cz ob i=some x∧l=i::l'∧Q.R ob (f x) l' a
 | .part o f,l,a=>∃y,o=some y∧Q.R ob (f y) l a
theorem Q.FX{ρ α:Type}{ob:List (Nat×Option (AO D))}{r:ρ}:∀{q:Q D α} {lg:List Nat} {k:α→List Nat→Option ρ},q.go ob lg k=some r→∃l a,Q.R ob q l a∧k a (l.reverse++lg)=some r:=by
 intro q
 induction q with
 |ret b=>intro lg k h;exact⟨[],b,⟨rfl,rfl⟩,h⟩
 |fail=>intro lg k h;cases h
 |obj i f ih=>
  intro lg k h
  simp only[Q.go] at h
  split at h
  · rename_i x hx
    obtain⟨l,a,h1,h2⟩:=ih x h
    exact⟨i::l,a,⟨x,l,hx,rfl,h1⟩,by simpa using h2⟩
  · cases h
 |part o f ih=>
  intro lg k h
  simp only[Q.go,rI] at h
  obtain⟨y,hy,h⟩:=p_ h
  obtain⟨l,a,h1,h2⟩:=ih y h
  exact⟨l,a,⟨y,hy,h1⟩,h2⟩
theorem Q.dV{α β:Type}{ob:List (Nat×Option (AO D))}{f:α→Q D β}{b:β}:∀{q:Q D α} {l:List Nat},Q.R ob (q.bind f) l b→∃l1 l2 a,l=l1++l2∧Q.R ob q l1 a∧Q.R ob (f a) l2 b:=by
 intro q
 induction q with
 |ret c=>intro l h;exact⟨[],l,c,rfl,⟨rfl,rfl⟩,h⟩
 |fail=>intro l h;exact h.elim
 |obj i g ih=>
  intro l h
  obtain⟨x,l',h1,rfl,h2⟩:=h
  obtain⟨l1,l2,a,rfl,h3,h4⟩:=ih x h2
  exact⟨i::l1,l2,a,rfl,⟨x,l1,h1,rfl,h3⟩,h4⟩
 |part o g ih=>
  intro l h
  obtain⟨y,hy,h2⟩:=h
  obtain⟨l1,l2,a,rfl,h3,h4⟩:=ih y h2
  exact⟨l1,l2,a,rfl,⟨y,hy,h3⟩,h4⟩
end
section
variable {D:Nat→Type} [∀n,ad (D n)]
def fW(U:Nat→Prop)(aj:Nat):Nat→Prop:=fun i=>U i∨(aj≤i∧i<aj+64)
structure cO(U:Nat→Prop)(aj:Nat)(γ:Gh D)(w:World)(ob:List (Nat×Option (AO D)))(e:bX D)(γ':Gh D)(v:Value)(w':World):Prop where
 fr:Frame γ w γ' w'
 kp:fx U (fW U aj) γ w γ' w'
 dst:eP (fW U aj) γ' w' e.dst v
 ob:OB (fW U aj) γ' w' (e.fz.map (fun i=>(i,none))++e.nh++ob)
structure Cx(U:Nat→Prop)(aj:Nat)(γ:Gh D)(w:World)(sl:List (Nat×AV D))(L:List (Nat×Value))(ob:List (Nat×Option (AO D))):Prop where
 sr:SR U γ w sl L
 ob:OB U γ w ob
 fresh:∀i,aj≤i→i<aj+64→¬U i
 bS:1000≤aj
def rel(ps:List (Nat×Nat))(x:Nat):Nat:=match aq ps x with
 |some y=>y
 |none=>x
theorem cA{α:Type}:∀{l:List (Nat×α)} {t:Nat} {a:α},aq l t=some a→(t,a)∈l
 |[],t,a,h=>by simp[aq] at h
 |p::r,t,a,h=>by
  unfold aq at h
  cases hb:Nat.beq p.1 t with
  |true=>
   simp only[hb,cond_true,Option.some.injEq] at h
   have:=Nat.eq_of_beq_eq_true hb
   subst this;subst h
   simp
  |false=>
   simp only[hb,cond_false] at h
   exact List.mem_cons_of_mem _ (cA h)
theorem rN{α:Type}:∀{l:List (Nat×α)} {t:Nat},aq l t=none→∀a,(t,a)∉l
 |[],t,h,a=>by simp
 |p::r,t,h,a=>by
  unfold aq at h
  cases hb:Nat.beq p.1 t with
  |true=>simp[hb] at h
  |false=>
   simp only[hb,cond_false] at h
   intro hm
   rcases List.mem_cons.1 hm with rfl|hm
   · simp at hb
   · exact rN h a hm
theorem gU{α:Type}:∀(l l':List (Nat×α)) (t:Nat),aq (l++l') t=match aq l t with
  |some a=>some a
  |none=>aq l' t
 |[],l',t=>by simp[aq]
 |p::r,l',t=>by
  simp only[List.cons_append,aq]
  cases hb:Nat.beq p.1 t with
  |true=>simp
  |false=>simp only[cond_false];exact gU r l' t
theorem lP{α:Type}:∀{l:List (Nat×α)} {t:Nat},aq l t=none↔t∉l.map Prod.fst
 |[],t=>by simp[aq]
 |p::r,t=>by
  simp only[aq,List.map_cons,List.mem_cons,not_or]
  cases hb:Nat.beq p.1 t with
  |true=>
   have:=Nat.eq_of_beq_eq_true hb
   simp[this]
  |false=>
   have be:¬t=p.1:=fun e=>by subst e;simp at hb
   simp only[cond_false,be,not_false_eq_true,true_and]
   exact lP
section
variable {U:Nat→Prop} {γ:Gh D} {w w':World} {ob:List (Nat×Option (AO D))} {aj:Nat} {e:bX D} {v:Value}
theorem aa2{ps:List (Nat×Nat)}(mK:∀p∈ps,1000≤p.1){x:Nat}(hx:x<1000):rel ps x=x:=by
 unfold rel
 split
 · rename_i y hy
   have:=mK _ (cA hy)
   simp only at this
   omega
 · rfl
theorem Q2{M N:List Nat}{ps:List (Nat×Nat)}{o':bF}{g':Nat→Value}{v':Nat→DV D}(ev:ba M N γ.o w o' w')(hM:∀x∈M,1000≤x)(mK:∀p∈ps,1000≤p.1)(hg:∀i,U i→g' i=γ.g i)(hv:∀i,U i→v' i=γ.v i):
  fx U (fW U aj) γ w ⟨fun b=>rel ps (o' b),g',v'⟩ w':=
 ⟨fun i h=> .inl h,hg,hv,fun b hb hc=>⟨by simp only;rw[ev.dO b hb];exact aa2 mK (by omega),ev.jE b hb fun hm=>by
   have:=hM _ hm
   omega⟩⟩
theorem jP{α:Type}{i j:Nat}{a x:α}(h:aq [(i,a)] j=some x):i=j∧x=a:=by
 have:=cA h
 simp only[List.mem_singleton,Prod.mk.injEq] at this
 exact⟨this.1.symm,this.2⟩
theorem mkPost{M N:List Nat}{ps:List (Nat×Nat)}{o':bF}{g':Nat→Value}{v':Nat→DV D}(bb:OB U γ w ob)(ev:ba M N γ.o w o' w')
  (hM:∀x∈M,1000≤x∧U x∧x∈e.wr) (hN:∀x∈N,x∈M∨(aj≤x∧x<aj+64)) (mK:∀p∈ps,1000≤p.1∧(U p.1→p.1∈e.wr)∧(p.2=1∨(aj≤p.2∧p.2<aj+64)))
  (l7:1000≤aj) (hg:∀i,U i→g' i=γ.g i) (hv:∀i,U i→v' i=γ.v i)
  (uN:eP (fW U aj) ⟨fun b=>rel ps (o' b),g',v'⟩ w' e.dst v)
  (KA:∀i x,aq e.nh i=some (some x)→i∉e.fz→1000≤i∧fW U aj i∧OR (fW U aj) ⟨fun b=>rel ps (o' b),g',v'⟩ w' i x):
  cO U aj γ w ob e ⟨fun b=>rel ps (o' b),g',v'⟩ v w':=by
 have um:∀x,x<1000→rel ps x=x:=fun x hx=>by
  unfold rel
  split
  · rename_i y hy
    have:=(mK _ (cA hy)).1
    simp only at this
    omega
  · rfl
 have aex:∀x,rel ps x<1000→rel ps x=x∨rel ps x=1:=fun x hx=>by
  unfold rel at hx⊢
  split
  · rename_i y hy
    rw[hy] at hx
    rcases(mK _ (cA hy)).2.2 with h|h
    · exact .inr h
    · simp only at h hx;omega
  · exact .inl rfl
 have hold:∀b,b<w.heap.size→γ.o b<4→rel ps (o' b)=γ.o b∧w'.heap[b]? =w.heap[b]? :=fun b hb h4=>by
  have h1:=ev.dO b hb
  refine⟨by rw[h1];exact um _ (by omega),ev.jE b hb fun hm=> ?_⟩
  have:=(hM _ hm).1
  omega
 have cJ:Frame γ w ⟨fun b=>rel ps (o' b),g',v'⟩ w':=by
  refine⟨⟨ev.os,ev.tape,ev.output,ev.size,fun b hb hc=>hold b hb (by omega),fun b hb hc=> ?_⟩,fun i hi=>hg i (bb.ro i hi)⟩
  simp only at hc⊢
  have h1:rel ps (o' b)=o' b:=by
   rcases aex (o' b) (by omega) with h|h
   · exact h
   · omega
  rw[h1] at hc
  by_cases aQ:b<w.heap.size
  · exact⟨aQ,by rw[h1,ev.dO b aQ]⟩
  · have h2:=ev.new b (by omega) hb
    rcases hN _ h2 with h|h
    · have:=(hM _ h).1;omega
    · omega
 have dY:fx U (fW U aj) γ w ⟨fun b=>rel ps (o' b),g',v'⟩ w':=
  ⟨fun i h=> .inl h,hg,hv,fun b hb hc=>hold b hb (by omega)⟩
 refine⟨cJ,dY,uN,fun i x hx=> ?_,fun b hb=> ?_,fun x hx=> .inl (bb.ro x hx)⟩
 · by_cases gW:i∈e.fz
   · exfalso
     unfold cz at hx
     rw[List.append_assoc,gU] at hx
     have:aq (e.fz.map fun i=>(i,(none:Option (AO D)))) i=some none:=by
      have h1:¬aq (e.fz.map fun i=>(i,(none:Option (AO D)))) i=none:=by
       rw[lP]
       simpa using gW
      cases hl:aq (e.fz.map fun i=>(i,(none:Option (AO D)))) i with
      |none=>exact(h1 hl).elim
      |some y=>
       have:=cA hl
       simp only[List.mem_map] at this
       obtain⟨_,_,h3⟩:=this
       cases h3
       rfl
     rw[this] at hx
     cases hx
   · have h0:aq (e.fz.map fun i=>(i,(none:Option (AO D)))) i=none:=by
      rw[lP]
      simpa using gW
     unfold cz at hx
     rw[List.append_assoc,gU,h0] at hx
     simp only at hx
     rw[gU] at hx
     cases hu:aq e.nh i with
     |some y=>
      rw[hu] at hx
      cases y with
      |none=>cases hx
      |some y=>
       cases hx
       exact KA i x hu gW
     |none=>
      rw[hu] at hx
      simp only at hx
      obtain⟨h1,h2,h3⟩:=bb.ob i x hx
      have mL:i∉e.wr:=by
       unfold bX.wr
       rw[List.mem_append,not_or]
       exact⟨lP.1 hu,gW⟩
      refine⟨h1,.inl h2,h3.cp dY h2 fun b hb hc=> ?_⟩
      have hM':i∉M:=fun hm=>mL (hM _ hm).2.2
      have hr:rel ps i=i:=by
       unfold rel
       split
       · rename_i y hy
         exact(mL ((mK _ (cA hy)).2.1 h2)).elim
       · rfl
      exact⟨by simp only;rw[ev.dO b hb,hc,hr],ev.jE b hb (by rw[hc];exact hM')⟩
 · simp only
   have h1:U (o' b)∨(aj≤o' b∧o' b<aj+64):=by
    by_cases aQ:b<w.heap.size
    · rw[ev.dO b aQ];exact .inl (bb.cl b aQ)
    · rcases hN _ (ev.new b (by omega) hb) with h|h
      · exact .inl (hM _ h).2.1
      · exact .inr h
   unfold rel
   split
   · rename_i y hy
     rcases(mK _ (cA hy)).2.2 with h|h
     · simp only at h;subst h;exact .inl (bb.ro 1 (by omega))
     · exact .inr h
   · exact h1
end
theorem acb{U U':Nat→Prop}{γ γ':Gh D}{w w':World}{ob:List (Nat×Option (AO D))}{e:bX D}(bb:OB U γ w ob)(k:fx U U' γ w γ' w')(hun:∀i,U i→1000≤i→i∉e.wr→∀b,b<w.heap.size→γ.o b=i→γ'.o b=γ.o b∧w'.heap[b]? =w.heap[b]?)
  (cg:∀b,b<w'.heap.size→U' (γ'.o b)) (KA:∀i x,aq e.nh i=some (some x)→i∉e.fz→1000≤i∧U' i∧OR U' γ' w' i x):OB U' γ' w' (e.fz.map (fun i=>(i,none))++e.nh++ob):=by
 refine⟨fun i x hx=> ?_,cg,fun x hx=>k.u _ (bb.ro x hx)⟩
 by_cases gW:i∈e.fz
 · exfalso
   unfold cz at hx
   rw[List.append_assoc,gU] at hx
   have:aq (e.fz.map fun i=>(i,(none:Option (AO D)))) i=some none:=by
    have h1:¬aq (e.fz.map fun i=>(i,(none:Option (AO D)))) i=none:=by
     rw[lP]
     simpa using gW
    cases hl:aq (e.fz.map fun i=>(i,(none:Option (AO D)))) i with
    |none=>exact(h1 hl).elim
    |some y=>
     have:=cA hl
     simp only[List.mem_map] at this
     obtain⟨_,_,h3⟩:=this
     cases h3
     rfl
   rw[this] at hx
   cases hx
 · have h0:aq (e.fz.map fun i=>(i,(none:Option (AO D)))) i=none:=by
    rw[lP]
    simpa using gW
   unfold cz at hx
   rw[List.append_assoc,gU,h0] at hx
   simp only at hx
   rw[gU] at hx
   cases hu:aq e.nh i with
   |some y=>
    rw[hu] at hx
    cases y with
    |none=>cases hx
    |some y=>
     cases hx
     exact KA i x hu gW
   |none=>
    rw[hu] at hx
    simp only at hx
    obtain⟨h1,h2,h3⟩:=bb.ob i x hx
    have mL:i∉e.wr:=by
     unfold bX.wr
     rw[List.mem_append,not_or]
     exact⟨lP.1 hu,gW⟩
    exact⟨h1,k.u _ h2,h3.cp k h2 (hun i h2 h1 mL)⟩
structure bH(P:Program)(t:TypeId)(g:Bool)(z:List Value):Prop where
 agg:∃d,P.underlying t=some d∧Kd d=g
 ju:∃i,P.info? t=some i∧i.size=z.length∧i.zero=some (pack g z)
section
variable {P:Program} {Qx:Exit→Act→World→Prop} {L:List (Nat×Value)} {w:World} {d:Option Tmp} {ty:TypeId} {pos:String} {af:Array Edge} {g:Option (Nat×Bool)} {t:TypeId} {x u:Operand} {a:Bool} {z:List Value} {o:bF}
theorem bH.isAgg(h:bH P t a z)(w:World):(isAgg t).run P w= .ok a w:=by
 obtain⟨d,h1,h2⟩:=h.agg
 unfold Go.isAgg
 rw[Sem.run_bind,run_underlying h1 w]
 simp only[Result.andThen_ok]
 rw[←h2]
 cases d<;>rfl
theorem bH.sizeOf(h:bH P t a z)(w:World):(sizeOf t).run P w= .ok z.length w:=by
 obtain⟨i,h1,h2,_⟩:=h.ju
 simp[Go.sizeOf,typeInfo,h1,h2]
theorem bH.zero(h:bH P t a z)(w:World):(zeroValue t).run P w= .ok (pack a z) w:=by
 obtain⟨i,h1,_,h4⟩:=h.ju
 simp[zeroValue,typeInfo,h1,h4]
theorem OW.tW [Rd]{pa:Addr}{cs:List Value}(hT:bH P t a z)(hz:a=false→z.length=1)(hx:ev L x=some (.pointer (some pa)))(hc:gm w pa cs)(hl:cs.length=z.length):
  OW P Qx L ⟨d,.load t x,ty,pos,af,g⟩ w (fun v' w'=>v'=pack a cs∧w'=w):=by
 refine OW.run fun b hb=>⟨pack a cs,w, ?_,rfl,rfl⟩
 have fc:(loadVar t pa).run P w= .ok (pack a cs) w:=by
  simp only[loadVar,Sem.run_bind,hT.isAgg,Result.andThen_ok]
  cases a with
  |true=>
   have:=run_loadCells_list (P:=P) w pa cs hc
   rw[hl] at this
   simp[hT.sizeOf,this,pack]
  |false=>
   rw[hz rfl] at hl
   match cs,hl,hc with
   |[u],_,hc=>
    have:=hc 0 u rfl
    have hu:w.cell? pa=some u:=by simpa[Addr.add] using this
    simp[pack,hu]
 simp[execOp,hb _ _ hx,Instr.loadAt,Instr.sureAddr,fc]
theorem OW.aae [Rd]{b off:Nat}{cs vs:List Value}{T':TypeId}{v:Value}{c:Nat}(hT:bH P t a z)(hx:ev L x=some (.pointer (some ⟨b,off,none⟩)))(hu:ev L u=some v)(hb:w.heap[b]? =some (.cells cs.toArray T' (0,0)))(ho:o b=c)
  (hv:v.cells=vs.toArray) (h1:∀u∈vs,u.oneCell'=true) (hl:vs.length=z.length) (hle:off+vs.length≤cs.length):
  OW P Qx L ⟨d,.store t x u,ty,pos,af,g⟩ w (fun v' w'=>v'=undef∧ba [c] [] o w o w'∧w'.heap[b]? =some (.cells (cs.take off++vs++cs.drop (off+vs.length)).toArray T' (0,0))):=by
 have bN:=run_storeCells_at P b off T' vs 0 cs.toArray w hb (by simp;omega) h1
 simp only[Nat.add_zero] at bN
 have bh:ba [c] [] o w o (w.setRow b (cs.take off++vs++cs.drop (off+vs.length)).toArray):=ba.row _ ho
 refine OW.D1 fun a ha=>⟨_, ?_,rfl,bh,setRow_heap w b _ _ T' _ hb⟩
 simp[execOp,ha _ _ hx,ha _ _ hu,Instr.storeAt,Instr.sureAddr,storeVar,hT.sizeOf,hv,hl,bN]
theorem OW.alp [Rd](c:Nat)(hT:bH P t a z)(hz:a=false→∃u,z=[u]∧u.oneCell'=true):
  OW P Qx L ⟨d,.alloc t,ty,pos,af,g⟩ w (fun v' w'=>∃b,v'=dD b 0∧w.heap.size≤b∧ba [] [c] o w (grow o w c) w'∧w'.heap[b]? =some (.cells z.toArray t (0,0))):=by
 refine OW.run fun b ha=>⟨_,w.alloc (.cells z.toArray t), ?_,w.heap.size,rfl,Nat.le_refl _,ba.alloc o w _ c,heap_alloc_new w _⟩
 have k_:(pack a z).cells=z.toArray:=by
  cases a with
  |true=>rfl
  |false=>
   obtain⟨u,rfl,h1⟩:=hz rfl
   exact GC h1
 simp[execOp,Instr.alloc,hT.zero,newVar,newRow,k_,newObj]
 rfl
theorem OW.ala [Rd]{v:Value}(c:Nat)(cs:List Value)(hx:ev L u=some v)(hv:v.cells=cs.toArray):
  OW P Qx L ⟨d,.box t u,ty,pos,af,g⟩ w (fun v' w'=>∃b,v'=dD b 0∧w.heap.size≤b∧ba [] [c] o w (grow o w c) w'∧w'.heap[b]? =some (.cells cs.toArray t (0,0))):=by
 refine OW.run fun a ha=>⟨_,w.alloc (.cells cs.toArray t), ?_,w.heap.size,rfl,Nat.le_refl _,ba.alloc o w _ c,heap_alloc_new w _⟩
 simp[execOp,ha _ _ hx,Instr.box,newVar,newRow,hv,newObj]
 rfl
theorem OW.akW [Rd]{parts:List (Nat×Operand)}{vs:List (Nat×Value)}{pl:List (Nat×Nat)}(ng:List (Nat×List Value))(fH:List Value)(bN:gZ P t pl)(hT:bH P t true z)(hp:uY L parts=some vs)(hc:HN vs ng)(hf:uX pl z ng=some fH):
  OW P Qx L ⟨d,.build t parts.toArray,ty,pos,af,g⟩ w (fun v' w'=>v'= .agg fH.toArray∧w'=w):=by
 obtain⟨fs,h1,h2⟩:=bN.fs
 obtain⟨i,dR,cI,jf⟩:=hT.ju
 have h3:=T4 hc hf
 refine OW.run fun a ha=>⟨.agg fH.toArray,w, ?_,rfl,rfl⟩
 have ur:(parts.toArray.map fun(x:Nat×Operand)=>(x.1,a.eval x.2)).toList=vs:=by
  rw[←T9 ha hp];simp
 have KQ:(pack true z).cells=z.toArray:=rfl
 have hb:P.built t (parts.toArray.map fun(x:Nat×Operand)=>(x.1,a.eval x.2)).toList=some fH.toArray:=by
  simp only[Program.built,dR,h1,jf,h2,KQ,ur,h3]
 have hr:=run_build (P:=P) w t _ _ hb
 simp only[execOp,Sem.run_bind]
 rw[hr]
 rfl
end
end
end Rx
end Go.Proofs.YtaneejpkncdodaaGreat
namespace Go.Proofs.YtaneejpkncdodaaGreat
open Go Go.RowKit Dp
namespace Rx
section
variable {D:Nat→Type} [∀n,ad (D n)]
def vH(T:aV D):gY→List Value
 | .one (.int k)=>[.int k 0]
 | .one .bool=>[.bool false]
 | .one .str=>[.string ByteArray.empty]
 | .one (.sl _)=>[.slice none 0 0]
 | .st n=>qg (T.lv n)
 | .ptr=>[.pointer none]
 | .fn=>[.nilFunc]
def da(P:Program)(T:aV D)(t:TypeId)(d:gY):Prop:=
 bH P t d.agg (vH T d)∧match d with
  | .one (.int k)=>P.underlying t=some (.int k)
  | .one .bool=>P.underlying t=some .bool
  | .one .str=>P.underlying t=some .string
  |_=>True
structure CD(P:Program)(D:Nat→Type)[∀n,ad (D n)](n tc m:Nat):Prop where
 one:jK (D n)
 flat:Flat (D m)
 ty:bJ P tc (D m)
 zc:HZ (ad.zc (D n))=true
structure HW(P:Program)(D:Nat→Type)[∀n,ad (D n)](t m e n:Nat):Prop where
 qo:P.underlying t=some (.array m e)
 el:bJ P e (D n)
 z:∃i z,P.info? t=some i∧i.zero=some z∧z.cells.size=m*ad.sz (D n)
def eQ:List Lf→List Value→Prop
 |[],[]=>True
 |l::r,v::vs=>(match l with| .int k=>∃a,v= .int k a| .bool=>∃b,v= .bool b| .str=>∃s,v= .string s| .sl _=>False)∧eQ r vs
 |_,_=>False
def fy(P:Program)(t:TypeId)(g:Bool)(ls:List Lf)(k:Nat):Prop:=∀(d:Nat) (w:World) (us vs:List Value),eQ ls us→eQ ls vs→∃r:Bool,(Op.equalIn (d+k) t (pack g us) (pack g vs)).run P w= .ok r w∧(r=true↔us=vs)
structure yS(P:Program)(t:TypeId)(ls:List Lf):Prop where
 eq:∃k,k≤10000∧fy P t true ls k
 guard:P.eqGuardType P.depth t=false
structure oX(P:Program)(kt:TypeId)(ls:List Lf):Prop where
 check:∀(w:World) (em:Bool) (ks:List Value),eQ ls ks→(Instr.checkKey em 10000 kt (eh ks)).run P w= .ok () w
 find:∀(w:World) (ks:List Value),eQ ls ks→∀es:List MapEntry,(∀e∈es,∃us,eQ ls us∧e.key=eh us)→
  ((Instr.findKey kt (eh ks) es).run P w= .ok none w∧∀e∈es,e.key≠eh ks)∨∃j e,(Instr.findKey kt (eh ks) es).run P w= .ok (some (j,e.val)) w∧es[j]? =some e∧e.key=eh ks
 stays:∀(w:World) (ks:List Value),eQ ls ks→(Instr.keyThatStays (eh ks) (eh ks)).run P w= .ok (eh ks) w
structure N_(P:Program)(T:aV D)(t kt vt n:Nat):Prop where
 qo:P.underlying t=some (.map kt vt)
 key:oX P kt (T.lv n).dropLast
 flat:(T.lv n).all ji=true
 val:∃l,rO (T.lv n)=some l∧bH P vt false (qg [l])
structure dg(P:Program)(T:aV D):Prop where
 ty:∀t d,aq T.ty t=some d→da P T t d
 bV:∀t e n,aq T.bV t=some (e,n)→P.underlying t=some (.slice e)∧bJ P e (D n)
 oJ:∀t l,aq T.oJ t=some l→gZ P t l∧∀i off sz,l[i]? =some (off,sz)→g9 P t i off
 uZ:∀t ls,aq T.uZ t=some ls→yS P t ls∧ls.all ji=true
 kd:∀n tc m,aq T.kd n=some (tc,m)→CD P D n tc m
 mi:∀t m e n,aq T.mi t=some (m,e,n)→HW P D t m e n
 oe:∀t kt vt n,aq T.oe t=some (kt,vt,n)→N_ P T t kt vt n
variable {P:Program} {T:aV D} {Qx:Exit→Act→World→Prop} {U:Nat→Prop} {aj:Nat} {γ:Gh D} {w:World} {sl:List (Nat×AV D)} {L:List (Nat×Value)} {ob:List (Nat×Option (AO D))}
 {d:Option Tmp} {ty:TypeId} {pos:String} {af:Array Edge} {gd:Option (Nat×Bool)} {e:bX D} {l:List Nat}
theorem Oh:∀ls:List Lf,(qg ls).length=ls.length
 |[]=>rfl
 |l::r=>by simp[qg,Oh r]
theorem vG(T:aV D):∀ty:gY,(vH T ty).length=ty.n T
 | .one (.int k)=>rfl
 | .one .bool=>rfl
 | .one .str=>rfl
 | .one (.sl _)=>rfl
 | .st n=>Oh _
 | .ptr=>rfl
 | .fn=>rfl
theorem CJ(T:aV D):∀ty:gY,ty.agg=false→(vH T ty).length=1
 | .one (.int k),_=>rfl
 | .one .bool,_=>rfl
 | .one .str,_=>rfl
 | .one (.sl _),_=>rfl
 | .st n,h=>by cases h
 | .ptr,_=>rfl
 | .fn,_=>rfl
theorem w5:∀(ts:List Lf) (h:HL D ts),(od ts h).map DV.l=ts
 |[],_=>rfl
 |[l],x=>rfl
 |l::m::r,x=>by simp[od,w5 (m::r) x.2]
theorem C6:∀{ts:List Lf} {ds:List (DV D)},ds.map DV.l=ts→∃h,toHL ts ds=some h
 |[],[],_=>⟨(),rfl⟩
 |[],_::_,h=>by simp at h
 |[l],[⟨l',d⟩],h=>by
  simp at h
  subst h
  exact⟨d,by simp[toHL]⟩
 |[l],[],h=>by simp at h
 |[l],_::_::_,h=>by simp at h
 |l::m::r,[],h=>by simp at h
 |l::m::r,⟨l',d⟩::ds,h=>by
  simp only[List.map_cons,List.cons.injEq] at h
  obtain⟨rfl,h⟩:=h
  obtain⟨x,hx⟩:=C6 h
  exact⟨(d,x),by simp only[toHL,hx,dif_pos]⟩
def AG(T:aV D)(n off m:Nat)(x:D n):List (D m):=match(T.out n x)[off]? with
 |some ⟨.sl m',d⟩=>if h:m'=m then h▸d else []
 |_=>[]
def t_(T:aV D)(n off m:Nat)(x:D n)(l:List (D m)):D n:=match T.ga n ((T.out n x).set off ⟨.sl m,l⟩) with
 |some y=>y
 |none=>x
theorem Ru{n off m:Nat}{x:D n}{d:List (D m)}(h:(T.out n x)[off]? =some ⟨.sl m,d⟩):AG T n off m x=d:=by
 unfold AG
 rw[h]
 simp
theorem Rw{n off m:Nat}(x:D n)(h:(T.lv n)[off]? =some (.sl m)):(T.out n x)[off]? =some ⟨.sl m,AG T n off m x⟩:=by
 have hk:((T.out n x).map DV.l)[off]? =some (.sl m):=by rw[aV.out,w5];exact h
 rw[List.getElem?_map] at hk
 cases hd:(T.out n x)[off]? with
 |none=>rw[hd] at hk;cases hk
 |some y=>
  obtain⟨l,d⟩:=y
  rw[hd] at hk
  simp only[Option.map_some,Option.some.injEq] at hk
  subst hk
  rw[Ru hd]
theorem J3(hR:bR T){n off m:Nat}{x:D n}{l:List (D m)}(h:(T.lv n)[off]? =some (.sl m)):T.out n (t_ T n off m x l)=(T.out n x).set off ⟨.sl m,l⟩:=by
 have hk:((T.out n x).set off ⟨.sl m,l⟩).map DV.l=T.lv n:=by
  rw[List.map_set,aV.out,w5]
  apply List.ext_getElem?
  intro i
  rw[List.getElem?_set]
  by_cases hi:off=i
  · subst hi
    rw[if_pos rfl,h]
    simp[(List.getElem?_eq_some_iff.1 h).1]
  · rw[if_neg hi]
 obtain⟨y,hy⟩:=C6 hk
 have hm:T.ga n ((T.out n x).set off ⟨.sl m,l⟩)=some (T.tS n y):=by unfold aV.ga;rw[hy]
 unfold t_
 rw[hm]
 exact hR.ga hm
theorem bE.at{S:Nat→Prop}{w:World}:∀{vs:List Value} {ds:List (DV D)},bE S w vs ds→∀{i:Nat} {d:DV D},ds[i]? =some d→∃u,vs[i]? =some u∧cL S w u d
 |[],[],_,i,d,h=>by simp at h
 |v::vs,e::ds,hl,0,d,h=>by cases h;exact⟨v,rfl,hl.1⟩
 |v::vs,e::ds,hl,i+1,d,h=>by
  obtain⟨u,h1,h2⟩:=bE.at hl.2 (i:=i) (by simpa using h)
  exact⟨u,by simpa using h1,h2⟩
 |[],_::_,hl,_,_,_=>hl.elim
 |_::_,[],hl,_,_,_=>hl.elim
theorem bE.setAt{S:Nat→Prop}{w:World}{u:Value}{d:DV D}(hu:cL S w u d):∀{vs:List Value} {ds:List (DV D)},bE S w vs ds→∀(i:Nat),bE S w (vs.set i u) (ds.set i d)
 |[],[],_,_=>trivial
 |v::vs,e::ds,hl,0=>⟨hu,hl.2⟩
 |v::vs,e::ds,hl,i+1=>⟨hl.1,bE.setAt hu hl.2 i⟩
 |[],_::_,hl,_=>hl.elim
 |_::_,[],hl,_=>hl.elim
theorem ac'(hR:bR T){n off m:Nat}(h:(T.lv n)[off]? =some (.sl m)):N9 off (AG T n off m) (t_ T n off m):=by
 refine⟨?_, ?_, ?_⟩
 · intro S w cs x hr
   rw[hR.rd] at hr
   obtain⟨u,h1,h2⟩:=bE.at hr (Rw x h)
   have aQ:=(List.getElem?_eq_some_iff.1 h1).1
   refine⟨cs.take off,[u],cs.drop (off+1), ?_,by simp;omega,Rv.Jo h2 rfl⟩
   have:=tI (x:=u) aQ
   rw[this]
   apply List.ext_getElem?
   intro i
   rw[List.getElem?_set]
   by_cases hi:off=i
   · subst hi;rw[if_pos rfl,if_pos aQ,h1]
   · rw[if_neg hi]
 · intro S w cs x c' y hr hy
   rw[hR.rd] at hr⊢
   rw[J3 hR h]
   have hl:=ad.len hy
   have mM:c'.length=1:=hl
   match c',mM with
   |[u],_=>
    have ux:off<cs.length:=by
     obtain⟨u',h1,_⟩:=bE.at hr (Rw x h)
     exact(List.getElem?_eq_some_iff.1 h1).1
    show bE _ _ (cs.take off++[u]++cs.drop (off+1)) _
    rw[tI ux]
    exact bE.setAt (d:=⟨.sl m,y⟩) ⟨[u],rfl,hy⟩ hr off
 · intro x a b
   unfold t_
   have e:=J3 hR (x:=x) (l:=a) h
   unfold t_ at e
   rw[e,List.set_set]
   have hk:=J3 hR (x:=x) (l:=b) h
   cases hm:T.ga n ((T.out n x).set off ⟨.sl m,b⟩) with
   |some y=>rfl
   |none=>
    exfalso
    unfold aV.ga at hm
    split at hm
    · cases hm
    · rename_i hn
      obtain⟨z,hz⟩:=C6 (ts:=T.lv n) (ds:=(T.out n x).set off ⟨.sl m,b⟩) (by
       rw[←hk,aV.out,w5])
      rw[hz] at hn
      cases hn
theorem EC(d:DV D):named U γ 0 d:= .inl rfl
theorem iZ:cU []:=fun x h=>by cases h
theorem aia{v:Value}{a:AV D}(h:MU v=some a):eP U γ w a v:=by
 unfold MU at h
 split at h<;>first
  |(cases h;exact⟨rfl,EC _,iZ⟩)
  |(cases h;rfl)
  |cases h
theorem bQ(hs:SR U γ w sl L){x:Operand}{a:AV D}(h:eb sl x=some a):∃v,ev L x=some v∧eP U γ w a v:=by
 cases x with
 |tmp t=>exact hs.look h
 |const v=>exact⟨v,rfl,aia h⟩
 |func f=>
  simp only[eb] at h
  split at h
  · rename_i hf
    cases h
    exact⟨_,rfl,[],by unfold pT;rw[if_pos hf],trivial⟩
  · cases h
 |global g=>cases h
theorem Ua(hs:SR U γ w sl L):∀{xs:List Operand} {as:List (AV D)},dt sl xs=some as→∃vs,lu L xs=some vs∧jF U γ w as vs
 |[],as,h=>by
  simp only[dt,Option.some.injEq] at h
  subst h
  exact⟨[],rfl,trivial⟩
 |x::r,as,h=>by
  unfold dt at h
  split at h
  · rename_i a b ha hb
    cases h
    obtain⟨v,h1,h2⟩:=bQ hs ha
    obtain⟨vs,h3,h4⟩:=Ua hs hb
    exact⟨v::vs,by simp[lu,h1,h3],h2,h4⟩
  · cases h
theorem oL{xs:List Operand}{a:AV D}{as:List (AV D)}{x:Operand}(h:dt sl (x::xs)=some (a::as)):eb sl x=some a∧dt sl xs=some as:=by
 unfold dt at h
 split at h
 · rename_i a' b ha hb
   cases h
   exact⟨ha,hb⟩
 · cases h
theorem kI{a:AV D}{x:Operand}(h:dt sl [x]=some [a]):eb sl x=some a:=(oL h).1
theorem nG{a b:AV D}{x y:Operand}(h:dt sl [x,y]=some [a,b]):eb sl x=some a∧eb sl y=some b:=⟨(oL h).1,kI (oL h).2⟩
theorem T_{a b c:AV D}{x y z:Operand}(h:dt sl [x,y,z]=some [a,b,c]):eb sl x=some a∧eb sl y=some b∧eb sl z=some c:=⟨(oL h).1,nG (oL h).2⟩
theorem pW:∀{xs:List Operand} {as:List (AV D)},dt sl xs=some as→xs.length=as.length
 |[],as,h=>by simp only[dt,Option.some.injEq] at h;subst h;rfl
 |x::r,as,h=>by
  unfold dt at h
  split at h
  · rename_i a b ha hb
    cases h
    simp[pW hb]
  · cases h
theorem kU(hx:Cx U aj γ w sl L ob){a:AV D}{v:Value}(h:eP U γ w a v):cO U aj γ w ob ⟨a,[],[]⟩ γ v w:=by
 have k:fx U (fW U aj) γ w γ w:=⟨fun i h=> .inl h,fun _ _=>rfl,fun _ _=>rfl,fun _ _ _=>⟨rfl,rfl⟩⟩
 have:=mkPost (e:=⟨a,[],[]⟩) (v:=v) (M:=[]) (N:=[]) (ps:=[]) (g':=γ.g) (v':=γ.v) hx.ob (ba.refl [] [] γ.o w) (by simp) (by simp) (by simp) hx.bS (fun _ _=>rfl) (fun _ _=>rfl) (h.cp k) (fun i x hx=>by simp[aq] at hx)
 exact this
def ed(f:Nat→DV D)(g:Nat)(ds:List (DV D)):Nat→DV D:=fun i=>if g≤i then(match ds[i-g]? with|some d=>d|none=>f i) else f i
theorem Av{f:Nat→DV D}{g i:Nat}{ds:List (DV D)}{d:DV D}(h:ds[i]? =some d):ed f g ds (g+i)=d:=by
 unfold ed
 rw[if_pos (by omega),Nat.add_sub_cancel_left,h]
theorem JF{f:Nat→DV D}{g i:Nat}{ds:List (DV D)}(h:i<g∨g+ds.length≤i):ed f g ds i=f i:=by
 unfold ed
 split
 · rename_i hg
   rw[List.getElem?_eq_none (by omega)]
 · rfl
theorem Cx.dO(hx:Cx U aj γ w sl L ob){i:Nat}(h:U i):i<aj∨aj+64≤i:=by
 rcases Nat.lt_or_ge i aj with h1|h1
 · exact .inl h1
 · rcases Nat.lt_or_ge i (aj+64) with h2|h2
   · exact(hx.fresh i h1 h2 h).elim
   · exact .inr h2
theorem nl(hx:Cx U aj γ w sl L ob){ds:List (DV D)}(hl:ds.length≤48){i:Nat}(h:U i):ed γ.v (aj+16) ds i=γ.v i:=by
 rcases hx.dO h with h1|h1
 · exact JF (.inl (by omega))
 · exact JF (.inr (by omega))
theorem wR(hx:Cx U aj γ w sl L ob)(ds:List (DV D))(hl:ds.length≤48){a:AV D}{v:Value}(h:eP (fW U aj) ⟨γ.o,γ.g,ed γ.v (aj+16) ds⟩ w a v):cO U aj γ w ob ⟨a,[],[]⟩ ⟨γ.o,γ.g,ed γ.v (aj+16) ds⟩ v w:=by
 have:=mkPost (e:=⟨a,[],[]⟩) (v:=v) (M:=[]) (N:=[]) (ps:=[]) (g':=γ.g) (v':=ed γ.v (aj+16) ds) hx.ob (ba.refl [] [] γ.o w) (by simp) (by simp) (by simp) hx.bS (fun _ _=>rfl) (fun i hi=>nl hx hl hi) h (fun i x hx=>by simp[aq] at hx)
 exact this
theorem jN{γ':Gh D}{ds:List (DV D)}{i:Nat}{x:DV D}(hv:γ'.v=ed γ.v (aj+16) ds)(hi:i<48)(h:ds[i]? =some x):named (fW U aj) γ' (aj+16+i) x:=
 .inr ⟨.inr ⟨by omega,by omega⟩,by rw[hv];exact Av h⟩
theorem cY(hx:Cx U aj γ w sl L ob){lf:Lf}{x:lf.den D}{v:Value}(hf:cL (In γ.o []) w v ⟨lf,x⟩):cO U aj γ w ob ⟨.c (.one (.v lf x [] (aj+16))),[],[]⟩ ⟨γ.o,γ.g,ed γ.v (aj+16) [⟨lf,x⟩]⟩ v w:=
 wR hx [⟨lf,x⟩] (by simp) ⟨hf,jN (γ:=γ) (i:=0) rfl (by omega) rfl,iZ⟩
theorem OW.mono [Rd]{o:Oper}{R R':Value→World→Prop}(h:OW P Qx L o w R)(hr:∀v w',R v w'→R' v w'):OW P Qx L o w R':=fun a K ha hK=>h a K ha fun v w' r=>hK v w' (hr v w' r)
theorem cm [Rd]{o:Oper}{v:Value}{γ':Gh D}(h:OW P Qx L o w (fun v' w'=>v'=v∧w'=w))(hp:cO U aj γ w ob e γ' v w):OW P Qx L o w (fun v' w'=>∃γ',cO U aj γ w ob e γ' v' w'):=
 OW.mono h fun v' w' ⟨h1,h2⟩=>by subst h1;subst h2;exact⟨γ',hp⟩
theorem OW.shr [Rd]{k k':IntKind}{x y:Operand}{t t2:TypeId}{p q c:Int}(h1:ev L x=some (.int k p))(h2:ev L y=some (.int k' q))(hc:nY k.bits p q=some c):
  OW P Qx L ⟨d,.binOp .shr t x y t2,ty,pos,af,gd⟩ w (fun v w'=>v= .int k c∧w'=w):=by
 refine OW.run fun a ha=>⟨_,w, ?_,rfl,rfl⟩
 unfold nY at hc
 split at hc
 · cases hc
 · rename_i hq
   cases hc
   simp[execOp,ha _ _ h1,ha _ _ h2,eqGuard,binOp,Op.shift,hq]
theorem OW.Xq [Rd]{op:BinOp}{x y:Operand}{t t2:TypeId}{p q:Bool}{v:Bool}(ht:P.underlying t=some .bool)(hv:(op= .eql∧v=(p==q))∨(op= .neq∧v= !(p==q)))(h1:ev L x=some (.bool p))(h2:ev L y=some (.bool q)):
  OW P Qx L ⟨d,.binOp op t x y t2,ty,pos,af,gd⟩ w (fun v' w'=>v'= .bool v∧w'=w):=by
 have hE:=Ob.bool ht
 have:=hE.run (S:=fun _=>True) (S':=fun _=>True) (w:=w) (v1:= .bool p) (v2:= .bool q) (x:=p) (y:=q) x y ⟨[.bool p],rfl,rfl⟩ ⟨[.bool q],rfl,rfl⟩
 refine OW.run fun a ha=>⟨_,w, ?_,rfl,rfl⟩
 rcases hv with⟨rfl,rfl⟩|⟨rfl,rfl⟩
 · simp[execOp,ha _ _ h1,ha _ _ h2,this.1.1,this.1.2]
   cases p<;>cases q<;>rfl
 · simp[execOp,ha _ _ h1,ha _ _ h2,this.2.1,this.2.2]
   cases p<;>cases q<;>rfl
theorem OW.lz [Rd]{op:BinOp}{x y:Operand}{a b v:Value}{t t2:TypeId}(h1:ev L x=some a)(h2:ev L y=some b)(hg:(eqGuard op t x y a b).run P w= .ok () w)(hr:(binOp op t a b).run P w= .ok v w):
  OW P Qx L ⟨d,.binOp op t x y t2,ty,pos,af,gd⟩ w (fun v' w'=>v'=v∧w'=w):=
 OW.run fun c hc=>⟨_,w,by simp[execOp,hc _ _ h1,hc _ _ h2,hg,hr],rfl,rfl⟩
theorem Ct [Rd](hP:dg P T)(hx:Cx U aj γ w sl L ob){op:BinOp}{x y:Operand}{p q:Bool}{K K':List Nat}{g g':Nat}{t t2:TypeId}(ht:aq T.ty t=some (.one .bool))(ha:eb sl x=some (.c (.one (.v .bool p K g))))(hb:eb sl y=some (.c (.one (.v .bool q K' g'))))(h:Q.R ob (NO op (aj+16) p q) l e):
  OW P Qx L ⟨d,.binOp op t x y t2,ty,pos,af,gd⟩ w (fun v w'=>∃γ',cO U aj γ w ob e γ' v w'):=by
 obtain⟨u,h1,h2⟩:=bQ hx.sr ha
 obtain⟨v,h3,h4⟩:=bQ hx.sr hb
 have e1:u= .bool p:=h2.1
 have e2:v= .bool q:=h4.1
 subst e1 e2
 have hu:P.underlying t=some .bool:=(hP.ty _ _ ht).2
 unfold NO at h
 split at h
 · obtain⟨_,rfl⟩:=h
   exact cm (OW.Xq (v:=p==q) hu (.inl ⟨rfl,rfl⟩) h1 h3) (cY hx rfl)
 · obtain⟨_,rfl⟩:=h
   exact cm (OW.Xq (v:= !(p==q)) hu (.inr ⟨rfl,rfl⟩) h1 h3) (cY hx rfl)
 · exact h.elim
theorem ale [Rd](hx:Cx U aj γ w sl L ob){op:BinOp}{x y:Operand}{k k':IntKind}{p q:Int}{t t2:TypeId}(h1:ev L x=some (.int k p))(h3:ev L y=some (.int k' q))(h:Q.R ob (NN op (aj+16) k k' p q) l e):
  OW P Qx L ⟨d,.binOp op t x y t2,ty,pos,af,gd⟩ w (fun v w'=>∃γ',cO U aj γ w ob e γ' v w'):=by
 unfold NN at h
 split at h
 · obtain⟨c,hc,_,rfl⟩:=h
   exact cm (OW.shr h1 h3 hc) (cY hx rfl)
 · split at h
   case isFalse=>exact h.elim
   rename_i hk
   subst hk
   split at h
   · obtain⟨_,rfl⟩:=h
     exact cm (OW.lz (v:= .int k (k.wrap (p+q))) h1 h3 (by simp[eqGuard]) (by simp[binOp,Op.intArith])) (cY hx rfl)
   · obtain⟨_,rfl⟩:=h
     exact cm (OW.lz (v:= .int k (k.wrap (p-q))) h1 h3 (by simp[eqGuard]) (by simp[binOp,Op.intArith])) (cY hx rfl)
   · obtain⟨_,rfl⟩:=h
     exact cm (OW.lz (v:= .int k (k.wrap (p*q))) h1 h3 (by simp[eqGuard]) (by simp[binOp,Op.intArith])) (cY hx rfl)
   · obtain⟨_,rfl⟩:=h
     exact cm (OW.lz (v:= .int k (qF k p q)) h1 h3 (by simp[eqGuard]) (by simp[binOp,Op.intBits,qF])) (cY hx rfl)
   · obtain⟨_,rfl⟩:=h
     exact cm (OW.lz (v:= .bool (p==q)) h1 h3 (by simp[eqGuard]) (by simp[binOp,Op.intCmp])) (cY hx rfl)
   · obtain⟨_,rfl⟩:=h
     exact cm (OW.lz (v:= .bool (p !=q)) h1 h3 (by simp[eqGuard]) (by simp[binOp,Op.intCmp])) (cY hx rfl)
   · obtain⟨_,rfl⟩:=h
     exact cm (OW.lz (v:= .bool (decide (p<q))) h1 h3 (by simp[eqGuard]) (by simp[binOp,Op.intCmp])) (cY hx rfl)
   · obtain⟨_,rfl⟩:=h
     exact cm (OW.lz (v:= .bool (decide (p≤q))) h1 h3 (by simp[eqGuard]) (by simp[binOp,Op.intCmp])) (cY hx rfl)
   · obtain⟨_,rfl⟩:=h
     exact cm (OW.lz (v:= .bool (decide (p>q))) h1 h3 (by simp[eqGuard]) (by simp[binOp,Op.intCmp])) (cY hx rfl)
   · obtain⟨_,rfl⟩:=h
     exact cm (OW.lz (v:= .bool (decide (p≥q))) h1 h3 (by simp[eqGuard]) (by simp[binOp,Op.intCmp])) (cY hx rfl)
   · exact h.elim
theorem PR(a b:ByteArray):(a.toList==b.toList)=wy a b:=by
 rw[Bool.eq_iff_iff]
 show(a.toList==b.toList)=true↔(a==b)=true
 have hb:∀p q:ByteArray,(p==q)=true↔p=q:=fun⟨a⟩ ⟨b⟩=>by
  show(a==b)=true↔_
  simp
 rw[beq_iff_eq,hb,ByteArray.toList_eq,ByteArray.toList_eq]
 constructor
 · intro h
   exact ByteArray.ext (Array.toList_inj.mp h)
 · rintro rfl
   rfl
theorem aab [Rd](hx:Cx U aj γ w sl L ob){op:BinOp}{x y:Operand}{p q:ByteArray}{t t2:TypeId}(h1:ev L x=some (.string p))(h3:ev L y=some (.string q))(h:Q.R ob (Iz op (aj+16) p q) l e):
  OW P Qx L ⟨d,.binOp op t x y t2,ty,pos,af,gd⟩ w (fun v w'=>∃γ',cO U aj γ w ob e γ' v w'):=by
 unfold Iz at h
 split at h
 · obtain⟨c,hc,_,rfl⟩:=h
   unfold PS at hc
   split at hc
   case isFalse=>cases hc
   rename_i hs
   cases hc
   have h':¬(9223372036854775807<((p.size:Int)+(q.size:Int))):=by omega
   exact cm (OW.lz (v:= .string (p++q)) h1 h3 (by simp[eqGuard]) (by simp[binOp,Op.stringOp,h'])) (cY hx rfl)
 · obtain⟨_,rfl⟩:=h
   exact cm (OW.lz (v:= .bool (wy p q)) h1 h3 (by simp[eqGuard]) (by rw[←PR];simp[binOp,Op.stringOp])) (cY hx rfl)
 · obtain⟨_,rfl⟩:=h
   exact cm (OW.lz (v:= .bool (!(wy p q))) h1 h3 (by simp[eqGuard]) (by rw[←PR];simp[binOp,Op.stringOp];try rfl)) (cY hx rfl)
 · exact h.elim
theorem ald [Rd](hx:Cx U aj γ w sl L ob){op:BinOp}{x y:Operand}{a b:AV D}{t t2:TypeId}(ha:eb sl x=some a)(hb:eb sl y=some b)(h:Q.R ob (NM op (aj+16) a b) l e):
  OW P Qx L ⟨d,.binOp op t x y t2,ty,pos,af,gd⟩ w (fun v w'=>∃γ',cO U aj γ w ob e γ' v w'):=by
 unfold NM at h
 split at h
 · rename_i k p K g k' q K' g'
   obtain⟨u,h1,h2⟩:=bQ hx.sr ha
   obtain⟨v,h3,h4⟩:=bQ hx.sr hb
   have e1:u= .int k p:=h2.1
   have e2:v= .int k' q:=h4.1
   subst e1 e2
   split at h
   · split at h
     case h_4=>
      obtain⟨c,hc,_,rfl⟩:=h
      exact cm (OW.quo h1 h3 hc) (cY hx rfl)
     case h_5=>
      obtain⟨c,hc,_,rfl⟩:=h
      exact cm (OW.rem h1 h3 hc) (cY hx rfl)
     case h_12=>
      obtain⟨c,hc,_,rfl⟩:=h
      exact cm (OW.shr h1 h3 hc) (cY hx rfl)
     all_goals first
      |exact h.elim
      |(obtain⟨_,rfl⟩:=h
        refine cm (OW.pv (v:= ?_) ?_) (cY hx ?_)
        rotate_left
        · simp only[Dp.pv,h1,h3,bin]
          rfl
        · rfl)
   · exact ale hx h1 h3 h
 · rename_i p K g q K' g'
   obtain⟨u,h1,h2⟩:=bQ hx.sr ha
   obtain⟨v,h3,h4⟩:=bQ hx.sr hb
   have e1:u= .string p:=h2.1
   have e2:v= .string q:=h4.1
   subst e1 e2
   exact aab hx h1 h3 h
 · exact h.elim
theorem Gm:∀{cs:List (A1 D)} {us:List Value} {ks:List (DV D)},yd cs=some ks→cd U γ w cs us→bE (fun _=>True) w us ks
 |[],us,ks,h,hv=>by
  cases h
  cases us with
  |nil=>trivial
  |cons _ _=>exact hv.elim
 |a::cs,us,ks,h,hv=>by
  cases us with
  |nil=>exact hv.elim
  |cons u us=>
   unfold yd at h
   split at h
   · rename_i gX;cases gX
   · rename_i lf x K g r gX
     cases gX
     split at h
     case h_2=>cases h
     rename_i ks' fE
     cases h
     exact⟨hv.1.1.mono fun _ _ _=>⟨trivial,rfl⟩,Gm fE hv.2⟩
   · cases h
theorem CE{S:Nat→Prop}:∀{vs:List Value} {ks:List (DV D)},bE S w vs ks→(ks.map DV.l).all ji=true→eQ (ks.map DV.l) vs
 |[],[],_,_=>trivial
 |v::vs,⟨l,x⟩::ks,h,hf=>by
  simp only[List.map_cons,List.all_cons,Bool.and_eq_true] at hf
  refine⟨?_,CE h.2 hf.2⟩
  cases l with
  |int k=>exact⟨x,h.1⟩
  |bool=>exact⟨x,h.1⟩
  |str=>exact⟨x,h.1⟩
  |sl n=>cases hf.1
 |[],_::_,h,_=>h.elim
 |_::_,[],h,_=>h.elim
theorem Ui{S S':Nat→Prop}{w':World}{u v:Value}{x y:DV D}(hu:cL S w u x)(hv:cL S' w' v y)(hl:x.l=y.l)(hf:ji x.l=true):u9 x y=true↔u=v:=by
 obtain⟨l,x⟩:=x
 obtain⟨l',y⟩:=y
 dsimp only at hl
 subst hl
 cases l with
 |int k=>
  have e1:u= .int k x:=hu
  have e2:v= .int k y:=hv
  subst e1 e2
  simp[u9,E5]
 |bool=>
  have e1:u= .bool x:=hu
  have e2:v= .bool y:=hv
  subst e1 e2
  simp[u9,beq']
 |str=>
  have e1:u= .string x:=hu
  have e2:v= .string y:=hv
  subst e1 e2
  show(x==y)=true↔_
  rw[show(Value.string x=Value.string y)=(x=y) from by simp]
  clear hu hv hf
  have:∀p q:ByteArray,(p==q)=true↔p=q:=fun⟨a⟩ ⟨b⟩=>by
   show(a==b)=true↔_
   simp
  exact this x y
 |sl n=>cases hf
theorem Uh{S S':Nat→Prop}{w':World}:∀{us vs:List Value} {xs ys:List (DV D)},bE S w us xs→bE S' w' vs ys→xs.map DV.l=ys.map DV.l→(xs.map DV.l).all ji=true→(oP xs ys=true↔us=vs)
 |[],[],[],[],_,_,_,_=>by simp[oP]
 |u::us,v::vs,x::xs,y::ys,h,h',hk,hf=>by
  simp only[List.map_cons,List.cons.injEq] at hk
  simp only[List.map_cons,List.all_cons,Bool.and_eq_true] at hf
  have e1:=Ui h.1 h'.1 hk.1 hf.1
  have ih:=Uh h.2 h'.2 hk.2 hf.2
  cases xs with
  |nil=>
   have hy:ys=[]:=by
    have:=hk.2
    cases ys with
    |nil=>rfl
    |cons _ _=>simp at this
   subst hy
   have h1:us=[]:=by cases us with|nil=>rfl|cons _ _=>exact h.2.elim
   have h2:vs=[]:=by cases vs with|nil=>rfl|cons _ _=>exact h'.2.elim
   subst h1 h2
   simp only[oP,e1]
   simp
  |cons x' xs=>
   simp only[oP,Hr,Bool.and_eq_true,e1]
   rw[ih]
   simp
 |[],_::_,[],[],_,h',_,_=>h'.elim
 |[],_,_::_,_,h,_,_,_=>h.elim
 |_::_,_,[],_,h,_,_,_=>h.elim
 |_,[],_,_::_,_,h',_,_=>h'.elim
 |_,_::_,_,[],_,h',_,_=>h'.elim
theorem ahN{t:TypeId}{ls:List Lf}{us vs:List Value}{xs ys:List (DV D)}(hE:yS P t ls)(hf:ls.all ji=true)(hx:bE (fun _=>True) w us xs)(hy:bE (fun _=>True) w vs ys)(h1:xs.map DV.l=ls)(h2:ys.map DV.l=ls):(Op.equal t (.agg us.toArray) (.agg vs.toArray)).run P w= .ok (oP xs ys) w:=by
 obtain⟨k,hk,hE⟩:=hE.eq
 have c1:=CE hx (by rw[h1];exact hf)
 have c2:=CE hy (by rw[h2];exact hf)
 rw[h1] at c1
 rw[h2] at c2
 obtain⟨r,e1,e2⟩:=hE (10000-k) w us vs c1 c2
 rw[show 10000-k+k=10000 by omega] at e1
 have e3:oP xs ys=r:=Bool.eq_iff_iff.2 ((Uh hx hy (h1.trans h2.symm) (by rw[h1];exact hf)).trans e2.symm)
 rw[e3]
 exact e1
theorem ahO [Rd](hP:dg P T)(hx:Cx U aj γ w sl L ob){op:BinOp}{x y:Operand}{p q:List (A1 D)}{t t2:TypeId}{n:List Lf}(ht:aq T.uZ t=some n)(ha:eb sl x=some (.c (.agg p)))(hb:eb sl y=some (.c (.agg q)))(h:Q.R ob (MA op (aj+16) n p q) l e):
  OW P Qx L ⟨d,.binOp op t x y t2,ty,pos,af,gd⟩ w (fun v w'=>∃γ',cO U aj γ w ob e γ' v w'):=by
 unfold MA at h
 split at h
 case h_2=>exact h.elim
 rename_i xs ys dx pz
 split at h
 case isFalse=>exact h.elim
 rename_i hc
 obtain⟨u,h1,us,rfl,h2⟩:=bQ hx.sr ha
 obtain⟨v,h3,vs,rfl,h4⟩:=bQ hx.sr hb
 have e1:=Gm dx h2
 have e2:=Gm pz h4
 obtain⟨hE,hf⟩:=hP.uZ t n ht
 have fc:=ahN hE hf e1 e2 hc.1 hc.2
 split at h
 · obtain⟨_,rfl⟩:=h
   refine cm (v:= .bool (oP xs ys)) (OW.run fun a ha=>⟨_,w, ?_,rfl,rfl⟩) (cY hx rfl)
   simp[execOp,ha _ _ h1,ha _ _ h3,eqGuard,hE.guard,binOp,fc]
 · obtain⟨_,rfl⟩:=h
   refine cm (v:= .bool (!(oP xs ys))) (OW.run fun a ha=>⟨_,w, ?_,rfl,rfl⟩) (cY hx rfl)
   simp[execOp,ha _ _ h1,ha _ _ h3,eqGuard,hE.guard,binOp,fc]
 · exact h.elim
end
end Rx
end Go.Proofs.YtaneejpkncdodaaGreat
