import Derived.RangeFuncSeq
import Derived.RangeFuncRecord
import Derived.Test.YtmngjhagbjgmfaaGreatRo
set_option linter.all false
open Array renaming getElem?_eq_some_iff->jB,getElem?_setIfInBounds->FC
open Bool renaming and_eq_true->bt,false->ai,false_eq_true->aE,true->ab
open Go renaming Code->bM,Oper->aT,Operand->a_,Program->cQ,ResultVar->li,TypeId->aY,Value->ah,World->ay
open List renaming all_eq_true->dU,getElem?_eq_some_iff->gK,map_cons->gz,mem_append->bA,mem_cons->cu,mem_map->dE,not_mem_nil->jQ
open Nat renaming beq->aU,ble->eh,blt->dz,eq_of_beq_eq_true->bB,le_of_ble_eq_true->dp,le_refl->bx,le_trans->lN,lt_of_lt_of_le->Fw
open Option renaming none->ak,some->aa
open Option.some renaming inj->jP
open Prod renaming fst->bT
noncomputable section
namespace Go.Proofs.YtmngjhagbjgmfaaGreat
open Go Go.RowKit Dp
namespace Rx
section
variable {P:cQ} {Q:Exit->Act->ay->Prop} {L:List (Nat×ah)} {w:ay} {n:Nat}
def OW.round [I:Rd]{o:aT}{R:ah->ay->Prop}(h:∀a,Reads L a->∃l f tmps assign body,(execOp a.eval o).run P w= .ok (.round l f tmps assign body) w∧RoundIn Fence.wide 0 P l f tmps assign body w (mg R)):OW P Q L o w R:=by intro a K ha hK;obtain⟨l,f,tmps,assign,body,h1,h2⟩:=h a ha;unfold aT.wpIn;rw[KN h1 (λ_ h=>by cases h),aT.uponIn_round];refine⟨λf _=>trivial,λh=>by simp[Rd.F,Fence.wide]at h,?_⟩;refine(h2:RoundIn Fence.wide 0 P l f tmps assign body w (mg R)).mono ?_;rintro e w' ⟨v,rfl,hr⟩;exact hK v w' hr
def OW.yield [I:Rd]{x:a_}{args:List a_}{vs:List ah}{l:Nat}{ats:Array aY}{d:Option Tmp}{ty:aY}{pos:String}{af:Array Edge}{g:Option (Nat×Bool)}{R:ah->ay->Prop}(hx:ev L x=aa (.func (.yield l) #[] #[]))(ha:oK L args=aa vs)
  (hy:YieldAt Fence.wide 0 P l vs.toArray w (mg R)):OW P Q L ⟨d,.call {callee:= .value x,args:=args.toArray,argTypes:=ats},ty,pos,af,g⟩ w R:=by
 obtain⟨fn,tmps,assign,body,h1,h2⟩:=hy
 refine OW.round λa hr=>⟨l,fn,tmps,assign,body,?_,h2⟩
 have h3:args.toArray.map a.eval=vs.toArray:=by rw[<-Eb hr _ ha];simp
 simp[execOp,resolve,invoke,Deferred.ofValue,hr _ _ hx]at h3⊢
 rw[h3,h1]
def aCd [I:Rd]{fn:Func}{R:ah->ay->Prop}(sE:fn.results= #[]){L:List (Nat×ah)}(hI:I.ds=[]){w:ay}(hR:∀v,R v w):NK n (bodyPost P fn (mg R) .ret) L w∧NK n (bodyPost P fn (mg R) .normal) L w:=by
 constructor
 ·exactλa ha=>bodyPost_ret (zN (rs:=[]) (vs:=[]) (λ_ _ hx=>ha.ev hx) (by rw[sE]) trivial) (ha.defers.trans hI) ⟨_,rfl,hR _⟩
 ·exactλa ha=>bodyPost_end (zN (rs:=[]) (vs:=[]) (λ_ _ hx=>ha.ev hx) (by rw[sE]) trivial) (ha.defers.trans hI) ⟨_,rfl,hR _⟩
def WL.stepG [I:Rd]{ops:Array aT}{rest:List aT}{d gi gs:Nat}{op:Op}{ty:aY}{pos:String}{af:Array Edge}{b:Bool}{og:aT}{R:ah->ay->Prop}(ho:ops[gi]? =aa og)(w5:og.dst=aa gs)(hg:Dp.look L gs=aa (.bool b))(h:OW P Q L ⟨aa d,op,ty,pos,af,aa (gi,b)⟩ w R)(hd:I.eZ n d=ab)
  (hk:∀v w',R v w'->WL P n ops Q rest ((d,v)::L) w'):WL P n ops Q (⟨aa d,op,ty,pos,af,aa (gi,b)⟩::rest) L w:=by
 intro a ha
 simp only[wpListIn]
 rw[aH (by simp[Region.wanted,yielded,ho,w5,ha.get gs _ hg])]
 exact h a _ (λx v hx=>ha.ev hx) λv w' hr=>hk v w' hr _ (ha.put hd v)
def WL.Z_ [I:Rd]{ops:Array aT}{rest:List aT}{d gi gs:Nat}{op:Op}{ty:aY}{pos:String}{af:Array Edge}{b:Bool}{og:aT}(ho:ops[gi]? =aa og)(w5:og.dst=aa gs)(hg:Dp.look L gs=aa (.bool (!b)))(hd:I.eZ n d=ab)
  (hk:WL P n ops Q rest ((d,undef)::L) w):WL P n ops Q (⟨aa d,op,ty,pos,af,aa (gi,b)⟩::rest) L w:=by
 intro a ha
 simp only[wpListIn]
 rw[aL (by cases b<;>simp[Region.wanted,yielded,ho,w5,ha.get gs _ hg])]
 exact⟨λ_ _=>trivial,hk _ (ha.put hd undef)⟩
end
section
variable {D:Nat->Type} [∀n,ad (D n)]
variable {P:cQ} {T:bc D} {Φ:List (aA D)} {n:Nat}
variable {γ γ' B_:Gh D} {w w' uU:ay} {Z:Nat->Prop}
structure fY(Z:Nat->Prop)(γ:Gh D)(w:ay)(γ':Gh D)(w':ay):Prop where
 os:w'.os=w.os
 tape:w'.tape=w.tape
 output:w'.output=w.output
 size:w.heap.size<=w'.heap.size
 ro:∀b,¬Z b->b<w.heap.size->(γ.o b=0∨γ.o b=3)->γ'.o b=γ.o b∧w'.heap[b]? =w.heap[b]?
 back:∀b,¬Z b->b<w'.heap.size->(γ'.o b=0∨γ'.o b=3)->b<w.heap.size∧γ.o b=γ'.o b
 gk:∀i,i<2000->γ'.g i=γ.g i
def fY.of(h:Rx.Frame γ w γ' w'):fY Z γ w γ' w':=⟨h.os,h.tape,h.output,h.size,λb _=>h.ro b,λb _=>h.back b,h.gk⟩
def fY.trans(h:fY Z γ w γ' w')(k:fY Z γ' w' B_ uU):fY Z γ w B_ uU:=by
 refine⟨k.os.trans h.os,k.tape.trans h.tape,k.output.trans h.output,lN h.size k.size,λb hz hb hc=>?_,λb hz hb hc=>?_,λi hi=>(k.gk i hi).trans (h.gk i hi)⟩
 ·obtain⟨h1,h2⟩:=h.ro b hz hb hc;obtain⟨k1,k2⟩:=k.ro b hz (Fw hb h.size) (by rw[h1];exact hc);exact⟨k1.trans h1,k2.trans h2⟩
 ·obtain⟨k1,k2⟩:=k.back b hz hb hc;obtain⟨h1,h2⟩:=h.back b hz k1 (by rw[k2];exact hc);exact⟨h1,h2.trans k2⟩
def fY.frame(h:fY Z γ w γ' w')(h1:∀b,Z b->w.heap.size<=b∨(γ.o b≠0∧γ.o b≠3))(h2:∀b,Z b->γ'.o b=2):Rx.Frame γ w γ' w':=⟨⟨h.os,h.tape,h.output,h.size,λb hb hc=>h.ro b (λhz=>by have:=h1 b hz;omega) hb hc,λb hb hc=>h.back b (λhz=>by rw[h2 b hz]at hc;omega) hb hc⟩,h.gk⟩
open Classical in
def eK(γ:Gh D)(Z:Nat->Prop)(c:Nat):Gh D:=⟨λb=>if Z b then c else γ.o b,γ.g,γ.v⟩
def gP{c b:Nat}(h:Z b):(eK γ Z c).o b=c:=by simp[eK,h]
def mu{c b:Nat}(h:¬Z b):(eK γ Z c).o b=γ.o b:=by simp[eK,h]
structure WZ(Z:Nat->Prop)(w w':ay):Prop where
 os:w'.os=w.os
 tape:w'.tape=w.tape
 output:w'.output=w.output
 size:w.heap.size<=w'.heap.size
 same:∀b,¬Z b->b<w.heap.size->w'.heap[b]? =w.heap[b]?
 new:∀b,b<w'.heap.size->b<w.heap.size∨Z b
def WZ.mono{Z':Nat->Prop}(h:WZ Z w w')(hs:∀b,Z b->Z' b):WZ Z' w w':=⟨h.os,h.tape,h.output,h.size,λb hb=>h.same b λhz=>hb (hs b hz),λb hb=>(h.new b hb).imp id (hs b)⟩
def fY.mono{Z':Nat->Prop}(h:fY Z γ w γ' w')(hs:∀b,Z b->Z' b):fY Z' γ w γ' w':=⟨h.os,h.tape,h.output,h.size,λb hb=>h.ro b λhz=>hb (hs b hz),λb hb=>h.back b λhz=>hb (hs b hz),h.gk⟩
def WZ.refl(Z:Nat->Prop)(w:ay):WZ Z w w:=⟨rfl,rfl,rfl,bx _,λ_ _ _=>rfl,λ_ h=> .inl h⟩
def WZ.put{l:Nat}{o:Obj}(h:Z l):WZ Z w (w.putObj l o):=⟨rfl,rfl,rfl,by simp,λb hb _=>ay.putObj_heap_other λe=>hb (e▸h),λb hb=> .inl (by simpa using hb)⟩
def fY.wz{c:Nat}(h:WZ Z w w'):fY Z γ w (eK γ Z c) w':=⟨h.os,h.tape,h.output,h.size,λb hz hb _=>⟨mu hz,h.same b hz hb⟩,λb hz hb _=>⟨(h.new b hb).resolve_right hz,(mu hz).symm⟩,λ_ _=>rfl⟩
def Kn.wz{σ:S D}{L:List (Nat×ah)}{c:Nat}(hk:Kn σ γ w L)(hc:c=2∨c=3)(hZ:∀b,Z b->b<w.heap.size->γ.o b=2∨γ.o b=3)(h:WZ Z w w'):Kn σ (eK γ Z c) w' L:=by
 have fA:jj (λi=>i<σ.nx) (λi=>i<σ.nx) γ w (eK γ Z c) w':=⟨λ_ h=>h,λ_ _=>rfl,λ_ _=>rfl,λb hb aV=>by
  have hz:¬Z b:=λhz=>by have:=hZ b hz hb;omega
  exact⟨mu hz,h.same b hz hb⟩⟩
 refine⟨hk.sr.df fA,⟨λi x hx=>?_,λb hb=>?_,hk.ob.ro⟩,hk.cJ⟩
 ·obtain⟨h1,h2,h3⟩:=hk.ob.ob i x hx;refine⟨h1,h2,h3.df fA h2 λb hb M3=>?_⟩;have hz:¬Z b:=λhz=>by have:=hZ b hz hb;omega
  exact⟨mu hz,h.same b hz hb⟩
 ·have:=hk.cJ;by_cases hz:Z b
  ·rw[gP hz];show c<σ.nx;omega
  ·rw[mu hz];exact hk.ob.cl b ((h.new b hb).resolve_right hz)
def uA(wr:List Nat)(σ:S D):S D:={σ with sl:=σ.sl.filter λp=> !(bN wr p.1)}
def By{wr:List Nat}{σ:S D}{t:Nat}:aF (uA wr σ).sl t=if t∈wr then ak else aF σ.sl t:=by
 have:=Al (f:=λt=> !(bN wr t)) (l:=σ.sl) (t:=t);unfold uA;simp only;rw[this];by_cases h:t∈wr
 ·rw[ew.2 h];simp[h]
 ·have:bN wr t=ai:=by
   cases hm:bN wr t with
   |true=>exact(h (ew.1 hm)).elim
   |false=>rfl
  rw[this];simp[h]
def Kn.drop{σ:S D}{L:List (Nat×ah)}(h:Kn σ γ w L)(wr:List Nat):Kn (uA wr σ) γ w L:=
 ⟨λt x hx=>by
   rw[By]at hx;split at hx
   ·cases hx
   ·exact h.sr t x hx,h.ob,h.cJ⟩
def Kn.C9{σ:S D}{L L':List (Nat×ah)}(h:Kn σ γ w L)(hs:∀t x v,aF σ.sl t=aa x->Dp.look L t=aa v->Dp.look L' t=aa v):Kn σ γ w L':=
 ⟨λt x hx=>by obtain⟨v,h1,h2⟩:=h.sr t x hx;exact⟨v,hs t x v hx h1,h2⟩,h.ob,h.cJ⟩
def GZ{σ ρ:Type}{step:σ->Option (σ⊕ρ)}{N:Nat}{s:σ}{r:ρ}(h:nE step N s=aa r):∃N' y,N=N'+1∧step s=aa y∧((∃s',y= .inl s'∧nE step N' s'=aa r)∨y= .inr r):=by
 cases N with
 |zero=>cases h
 |succ N'=>
  rw[Me]at h;cases hs:step s with
  |none=>rw[hs]at h;cases h
  |some y=>
   rw[hs]at h;cases y with
   |inl s'=>exact⟨N',_,rfl,rfl,.inl ⟨s',rfl,h⟩⟩
   |inr r'=>cases h;exact⟨N',_,rfl,rfl,.inr rfl⟩
def aeo(Z:Nat->Prop)(W W':ay):Nat->Prop:=λb=>Z b∨(W.heap.size<=b∧b<W'.heap.size)
structure PN(Z:Nat->Prop)(W:ay)(Z':Nat->Prop)(W':ay):Prop where
 wz:WZ Z' W W'
 sub:∀b,Z b->Z' b
 new:∀b,Z' b->Z b∨(W.heap.size<=b∧b<W'.heap.size)
structure Xv(Z:Nat->Prop)(W W':ay):Prop where
 os:W'.os=W.os
 tape:W'.tape=W.tape
 output:W'.output=W.output
 size:W.heap.size<=W'.heap.size
 same:∀b,Z b->b<W.heap.size->W'.heap[b]? =W.heap[b]?
def tr(ff:Gh D)(w0:ay)(Z:Nat->Prop)(γ:Gh D)(W:ay):Prop:=(∀b,Z b->b<W.heap.size∧γ.o b≠0∧γ.o b≠3)∧∀b,b<W.heap.size->¬Z b->γ.o b=3∨(γ.o b=0∧b<w0.heap.size∧ff.o b=0)
def tr.step{ff aQ bg:Gh D}{w0 W1 W2:ay}(h:tr ff w0 Z aQ W1)(hf:Rx.Frame aQ W1 bg W2):tr ff w0 (aeo Z W1 W2) bg W2∧PN Z W1 (aeo Z W1 W2) W2:=by
 have hs:=hf.size;refine⟨⟨λb hb=>?_,λb hb hz=>?_⟩,⟨⟨hf.os,hf.tape,hf.output,hf.size,λb hz hb=>?_,λb hb=>?_⟩,λb hb=> .inl hb,λb hb=>hb⟩⟩
 ·rcases hb with hb|⟨h1,h2⟩
  ·obtain⟨k1,k2,k3⟩:=h.1 b hb;have hn:¬(bg.o b=0∨bg.o b=3):=λhc=>by have:=(hf.back b (by omega) hc).2;omega
   exact⟨by omega,λe=>hn (.inl e),λe=>hn (.inr e)⟩
  ·have hn:¬(bg.o b=0∨bg.o b=3):=λhc=>by
    have:=(hf.back b h2 hc).1;omega
   exact⟨h2,λe=>hn (.inl e),λe=>hn (.inr e)⟩
 ·have Bc:b<W1.heap.size:=by
   rcases Nat.lt_or_ge b W1.heap.size with h1|h1
   ·exact h1
   ·exact(hz (.inr ⟨h1,hb⟩)).elim
  have wT:¬Z b:=λh=>hz (.inl h);rcases h.2 b Bc wT with h1|⟨h1,h2,h3⟩
  ·exact .inl ((hf.ro b Bc (.inr h1)).1.trans h1)
  ·exact .inr ⟨(hf.ro b Bc (.inl h1)).1.trans h1,h2,h3⟩
 ·have wT:¬Z b:=λh=>hz (.inl h);rcases h.2 b hb wT with h1|⟨h1,_⟩
  ·exact(hf.ro b hb (.inr h1)).2
  ·exact(hf.ro b hb (.inl h1)).2
 ·rcases Nat.lt_or_ge b W1.heap.size with h1|h1
  ·exact .inl h1
  ·exact .inr (.inr ⟨h1,hb⟩)
def tr.other{ff aQ:Gh D}{w0 W W':ay}{σ:S D}{L:List (Nat×ah)}(h:tr ff w0 Z aQ W)(hk:Kn σ aQ W L)(hy:Xv (λb=>Z b∨(b<w0.heap.size∧ff.o b=0)) W W'):∃bg,Kn σ bg W' L∧tr ff w0 Z bg W'∧bg.g=aQ.g:=by
 obtain⟨Zn,HT⟩:∃Zn:Nat->Prop,Zn=λb=>¬Z b∧¬(b<W.heap.size∧aQ.o b=0):=⟨_,rfl⟩;have eM:=hy.size;refine⟨eK aQ Zn 3,hk.wz (.inr rfl) (λb hz hb=>?_) ⟨hy.os,hy.tape,hy.output,hy.size,λb hz hb=>?_,λb hb=>?_⟩,⟨λb hb=>?_,λb hb hz=>?_⟩,rfl⟩
 ·rw[HT]at hz;rcases h.2 b hb hz.1 with h1|⟨h1,_⟩
  ·exact .inr h1
  ·exact(hz.2 ⟨hb,h1⟩).elim
 ·refine hy.same b ?_ hb;rw[HT]at hz;by_cases h1:Z b
  ·exact .inl h1
  ·rcases h.2 b hb h1 with h2|⟨h2,h3,h4⟩
   ·exact(hz ⟨h1,λh3=>by omega⟩).elim
   ·exact .inr ⟨h3,h4⟩
 ·rcases Nat.lt_or_ge b W.heap.size with h1|h1
  ·exact .inl h1
  ·refine .inr ?_;rw[HT];exact⟨λhz=>by have:=(h.1 b hz).1;omega,λh2=>by omega⟩
 ·obtain⟨k1,k2,k3⟩:=h.1 b hb;have hn:¬Zn b:=by rw[HT];exactλh=>h.1 hb
  rw[mu hn];exact⟨by omega,k2,k3⟩
 ·by_cases hn:Zn b
  ·exact .inl (gP hn)
  ·rw[mu hn];rw[HT]at hn;by_cases h1:b<W.heap.size∧aQ.o b=0
   ·exact h.2 b h1.1 hz
   ·exact(hn ⟨hz,h1⟩).elim
structure It(D:Nat->Type)where
 f:Nat
 ins:List Ht
 args:List PC
 el:Nat
 fn:HH D ins->Option (List (D el))
def ny(l:Nat):ah:= .func (.yield l) #[] #[]
structure BZ(P:cQ)(T:bc D)(c:It D):Prop where
 Vp:∀(args:Array ah) (w:ay),(callFunc c.f args).run P w= .ok (.enter c.f args) w
 lt:dz c.f 1000000=ab
 flat:(T.lv c.el).all jJ=ab
 run:∀(h:HH D c.ins) (xs:List (D c.el)),c.fn h=aa xs->∀as,g9 T (dH T c.ins h) aa id 1100 c.args=aa as->
  ∀(γ:Gh D) (w:ay) (l:Nat) (vs:List ah),ji U0 γ w as vs->OB U0 γ w []->(∀b,b<w.heap.size->γ.o b=0∨γ.o b=3)->
  ∀(Inv:Nat->(Nat->Prop)->ay->Prop) (R:(Nat->Prop)->ay->Prop),Inv 0 (λ_=>False) w->
   (∀m Z W Z' W',Inv m Z W->PN Z W Z' W'->Inv m Z' W')->(∀Z W Z' W',R Z W->PN Z W Z' W'->R Z' W')->(∀Z W,Inv xs.length Z W->R Z W)->
   (∀m Z W y cs,Inv m Z W->xs[m]? =aa y->(∀S w',ad.rd S w' cs y)->YieldAt Fence.wide 0 P l #[pack (ad.agg (D c.el)) cs] W (mg λv W'=>Xv (λb=>Z b∨(b<w.heap.size∧γ.o b=0)) W W'∧((v= .bool ab∧Inv (m+1) Z W')∨(v= .bool ai∧R Z W'))))->
   Calls P c.f (ny l::vs).toArray w (mg λ_ w'=>∃Z,R Z w')
def S9(R0 R1:bM)(b0 b1 r2 r3 r4 r5 tc d3:Nat)(o2 o3 o4 o5:List aT):bM:=.seq R0 (.seq R1 (.block b0 (.loop (.seq (.region r2 o2.toArray ai) (.seq (.cond (.tmp tc) .skip (.exit b0)) (.seq (.block b1 (.seq (.region r3 o3.toArray ai) (.seq (.region r4 o4.toArray ab) (.cond (.tmp d3) .ret .skip)))) (.region r5 o5.toArray ai)))))))
def G3(fs ys d1 d2 d3 gi gs:Nat)(ats:Array aY)(tb:aY)(pos:String)(a1 a2 a3:Array Edge):List aT:=[⟨aa d1,.call {callee:= .value (.tmp fs),args:= #[.tmp ys],argTypes:=ats},tb,pos,a1,aa (gi,ab)⟩,⟨aa d2,.unOp .not tb (.tmp d1),tb,pos,a2,aa (gi,ab)⟩,⟨aa d3,.pick (.tmp gs) (.tmp d2) (.const (.bool ai)),tb,pos,a3,ak⟩]
def ft:List (A1 D)->Option (List (DV D))
 |[]=>aa []
 | .v l d _ _::r=>match ft r with
   |some x=>aa (⟨l,d⟩::x)
   |none=>ak
 |_=>ak
def Vq(T:bc D)(n:Nat):AC D->Option (D n)
 | .agg l=>if T.ag n then(match ft l with
   |some ds=>T.iX n ds
   |none=>ak)else ak
 |_=>ak
@[reducible] def snoc {α:Type} (xs:List α) (y:α):List α:=xs++[y]
def oA(σ:S D)(j:J):List Nat:=(kept σ j.mv).map bT++σ.lk
def Av(T:bc D)(Φ:List (aA D))(o5:List aT)(dr:List Nat)(j:J){n:Nat}(acc:List (D n))(σ:S D):Option ((HH D j.cM×List (D n))⊕List (D n)):=je T Φ o5 o5 0 (uA dr σ) [] λq_ _=>qH T j q_ λh'=>aa (.inl (h',acc))
def Dx(T:bc D)(Φ:List (aA D))(n:Nat)(o2 o3 pre o5:List aT)(tc fs ys gs:Nat)(wr dr:List Nat)(j:J)(aN:S D)(s:HH D j.cM×List (D n)):Option ((HH D j.cM×List (D n))⊕List (D n)):=match lB T j wr j.mv aN s.1 with
 |none=>ak
 |some cj=>je T Φ o2 o2 0 {cj with lk:=oA aN j} [] λbI _=>match aF bI.sl tc with
  |some (.c (.one (.v .bool d _ _)))=>Ez d (je T Φ o3 o3 0 bI [] λo7 _=>je T Φ pre pre 0 o7 [] λod lg=>match yj (jh pre []) lg with
   |true=>match aF od.sl gs with
    |some (.c (.one (.v .bool d _ _)))=>Ez d (match aF od.sl fs,aF od.sl ys with
      |some (.c (.one (.own i))),aa (.c a)=>if aU i 1999 then(match Vq T n a with
       |some y=>Av T Φ o5 dr j (snoc s.2 y) od
       |none=>ak)else ak
      |_,_=>ak) (Av T Φ o5 dr j s.2 od)
    |_=>ak
   |false=>ak) (aa (.inr s.2))
  |_=>ak
def S7(T:bc D)(Φ:List (aA D))(c:It D)(R0 R1:bM)(o2 o3 pre o5:List aT)(tc fs ys gs:Nat)(wr dr:List Nat)(j:J)(a0 a1:An)(h:HH D c.ins):Option (List (D c.el)):=
 match g9 T (dH T c.ins h) aa id 1100 c.args with
 |none=>ak
 |some as=>fS T Φ R0 a0 ⟨(0,.c (.one (.own 1999)))::E0 1 as,[],2000,[]⟩ λo fe=>match o with
  | .normal=>fS T Φ R1 a1 fe λo aN=>match o with
    | .normal=>qH T j {aN with lk:=oA aN j} λh0=>aJ (Dx T Φ c.el o2 o3 pre o5 tc fs ys gs wr dr j aN) (h0,[])
    |_=>ak
  |_=>ak
def S8{o5:List aT}{dr:List Nat}{j:J}{n:Nat}{acc:List (D n)}{σ:S D}{x:(HH D j.cM×List (D n))⊕List (D n)}(h:Av T Φ o5 dr j acc σ=aa x):∃h',x= .inl (h',acc):=by unfold Av at h;obtain⟨_,kH,_,_,h1⟩:=trace h (pP.mk (λ_=>rfl) rfl rfl rfl);obtain⟨h',_,h2⟩:=sU h1;exact⟨h',(jP h2).symm⟩
def ab9{n:Nat}{o2 o3 pre o5:List aT}{tc fs ys gs:Nat}{wr dr:List Nat}{j:J}{aN:S D}{s:HH D j.cM×List (D n)}{x:(HH D j.cM×List (D n))⊕List (D n)}(h:Dx T Φ n o2 o3 pre o5 tc fs ys gs wr dr j aN s=aa x):
  (∃h',x= .inl (h',s.2))∨(∃h' y,x= .inl (h',s.2++[y]))∨x= .inr s.2:=by
 unfold Dx at h
 split at h
 case h_1=>cases h
 obtain⟨_,bI,_,_,h1⟩:=trace h (pP.mk (λ_=>rfl) rfl rfl rfl)
 split at h1
 case h_2=>cases h1
 rcases yV h1 with⟨_,h1⟩|⟨_,h1⟩
 ·obtain⟨_,o7,_,_,h2⟩:=trace h1 (pP.mk (λ_=>rfl) rfl rfl rfl);obtain⟨_,od,_,_,h3⟩:=trace h2 (pP.mk (λ_=>rfl) rfl rfl rfl);split at h3
  case h_2=>cases h3
  split at h3
  case h_2=>cases h3
  rcases yV h3 with⟨_,h3⟩|⟨_,h3⟩
  ·split at h3
   case h_2=>cases h3
   split at h3
   case isFalse=>cases h3
   split at h3
   case h_2=>cases h3
   rename_i y _;obtain⟨h',e⟩:=S8 h3;exact .inr (.inl ⟨h',y,e⟩)
  ·obtain⟨h',e⟩:=S8 h3;exact .inl ⟨h',e⟩
 ·exact .inr (.inr (jP h1).symm)
def arY{n:Nat}{o2 o3 pre o5:List aT}{tc fs ys gs:Nat}{wr dr:List Nat}{j:J}{aN:S D}{xs:List (D n)}:∀{N:Nat} {s:HH D j.cM×List (D n)},nE (Dx T Φ n o2 o3 pre o5 tc fs ys gs wr dr j aN) N s=aa xs->∃t,xs=s.2++t:=by
 intro N;induction N with
 |zero=>intro s h;cases h
 |succ N ih=>
  intro s h;rw[Me]at h;split at h
  ·rename_i s' hs;obtain⟨t,ht⟩:=ih h;rcases ab9 hs with⟨h',e⟩|⟨h',y,e⟩|e
   ·cases e;exact⟨t,ht⟩
   ·cases e;exact⟨y::t,by rw[ht];simp⟩
   ·cases e
  ·rename_i r hs;cases h;rcases ab9 hs with⟨h',e⟩|⟨h',y,e⟩|e
   ·cases e
   ·cases e
   ·cases e;exact⟨[],by simp⟩
  ·cases h
def Mp:PC->Bool
 | .one (.rp _ _ _)=>ab
 |_=>ai
def aau{γ γ':Gh D}{w:ay}{U U':Nat->Prop}(ho:γ'.o=γ.o){fl:List (DV D)}{tg:Nat}:∀{ps:List PC} {as:List (AC D)} {vs:List ah},ps.all Mp=ab->g9 T fl aa id tg ps=aa as->ji U γ w as vs->ji U' γ' w as vs
 |[],as,vs,_,h,hv=>by
  cases h;cases vs with
  |nil=>trivial
  |cons _ _=>exact hv.elim
 |p::ps,as,vs,hp,h,hv=>by
  simp only[List.all_cons,bt]at hp;simp only[g9]at h;split at h
  case h_2=>cases h
  rename_i a1 a2 g1 g2;cases h;cases vs with
  |nil=>exact hv.elim
  |cons v vs=>
   refine⟨?_,aau ho hp.2 g2 hv.2⟩;have vr:=hv.1;have yz:=hp.1;unfold Mp at yz;split at yz
   case h_2=>cases yz
   simp only[vo,iY]at g1;split at g1
   case h_2=>cases g1
   rename_i a3 h0;cases g1;split at h0
   case h_2=>cases h0
   cases h0;obtain⟨pa,e1,e2,e3⟩:=vr;exact⟨pa,e1,by rw[ho];exact e2,e3⟩
def aeQ{U:Nat->Prop}:∀{l:List (A1 D)} {us:List ah} {ds:List (DV D)},ft l=aa ds->db U γ w l us->(ds.map DV.l).all jJ=ab->∀(S:Nat->Prop) (w':ay),cn S w' us ds
 |[],us,ds,h,hv,_,S,w'=>by
  cases h;cases us with
  |nil=>trivial
  |cons _ _=>exact hv.elim
 |a::l,us,ds,h,hv,eJ,S,w'=>by
  cases us with
  |nil=>cases a<;>exact hv.elim
  |cons u us=>
   unfold ft at h;split at h
   case h_1 e=>cases e
   case h_3=>cases h
   rename_i lf d K g r e;cases e;split at h
   case h_2=>cases h
   rename_i x hx;cases h;simp only[gz,List.all_cons,bt]at eJ;exact⟨dD.flat eJ.1 hv.1.1,aeQ hx hv.2 eJ.2 S w'⟩
def axB(hR:cF T){U:Nat->Prop}{n:Nat}{a:AC D}{y:D n}{v:ah}(h:Vq T n a=aa y)(eJ:(T.lv n).all jJ=ab)(hv:nq U γ w a v):∃us,v=pack (ad.agg (D n)) us∧∀S w',ad.rd S w' us y:=by
 unfold Vq at h;split at h
 case h_2=>cases h
 split at h
 case isFalse=>cases h
 rename_i HS;split at h
 case h_2=>cases h
 rename_i ds hds;obtain⟨us,rfl,h2⟩:=hv;refine⟨us,by unfold pack;rw[hR.ag,aH HS],λS w'=>(hR.rd n S w' us y).2 ?_⟩;have e:=hR.iX h;rw[e];refine aeQ hds h2 ?_ S w';rw[<-e];unfold bc.out;rw[Ss];exact eJ
def arW(hP:dS P T)(hR:cF T)(cL:∀c∈Φ,fM P T c)(hm:P.follows .mixedOrders=ab){c:It D}{fn:Func}{R0 R1:bM}{b0 b1 r2 r3 r4 r5 tc d1 d2 d3 fs ys gi gs:Nat}{o2 o3 pre o5:List aT}{ats:Array aY}{tb:aY}{pos:String}{e1 e2 e3:Array Edge}{wr:List Nat}{j:J}{a0 a1:An}
  (jW:∀(args:Array ah) (w:ay),(callFunc c.f args).run P w= .ok (.enter c.f args) w)
  (hf:P.funcs[c.f]? =aa fn) (hb:fn.body=aa (S9 R0 R1 b0 b1 r2 r3 r4 r5 tc d3 o2 o3 (pre++G3 fs ys d1 d2 d3 gi gs ats tb pos e1 e2 e3) o5)) (sE:fn.results= #[])
  (bV:(dz c.f 1000000&&(T.lv c.el).all jJ&&c.args.all Mp&&eh (c.args.length+1) fn.ntmps&&gE R0&&iW R0&&gE R1&&iW R1&&(writes R0++writes R1++wr).all (λt=>dz t fn.ntmps)&&
    (d1::d2::d3::(dstsOf o2++dstsOf o3++dstsOf pre++dstsOf o5)).all (bN wr)&&ED pre (G3 fs ys d1 d2 d3 gi gs ats tb pos e1 e2 e3)&&xM pre (jh pre []) 0 pre []&&
    (match pre[gi]? with|some o=>(match o.dst with|some d=>aU d gs|none=>ai)|none=>ai)&& !(aU d1 gs)&& !(aU d2 gs))=ab)
  (rG:∀h,S7 T Φ c R0 R1 o2 o3 pre o5 tc fs ys gs wr [d1,d2,d3] j a0 a1 h=c.fn h):BZ P T c:=by
 simp only[bt,Bool.not_eq_true']at bV
 obtain⟨⟨⟨⟨⟨⟨⟨⟨⟨⟨⟨⟨⟨⟨s1,s2⟩,s3⟩,s4⟩,s5⟩,s6⟩,s7⟩,s8⟩,s9⟩,s10⟩,s11⟩,s12⟩,Gv⟩,s14⟩,s15⟩:=bV
 refine⟨jW,s1,s2,λh xs hx as has γ w l vs hv bH c_ Inv R D5 Be aDs auG hstep=>?_⟩
 rw[<-rG]at hx
 unfold S7 at hx
 rw[has]at hx
 dsimp only at hx
 obtain⟨og,Ho,w5⟩:∃og,(pre++G3 fs ys d1 d2 d3 gi gs ats tb pos e1 e2 e3).toArray[gi]? =aa og∧og.dst=aa gs:=by
  split at Gv
  case h_2=>cases Gv
  rename_i o ho;split at Gv
  case h_2=>cases Gv
  rename_i d hd;have:=bB Gv;subst this;have aV:=(gK.1 ho).1;refine⟨o,?_,hd⟩;rw[List.getElem?_toArray,List.getElem?_append_left aV];exact ho
 have adj:d1≠gs:=λe=>by subst e;simp at s14
 have T0:d2≠gs:=λe=>by subst e;simp at s15
 have aV:∀t∈writes R0++writes R1++wr,dz t fn.ntmps=ab:=λt ht=>dU.1 s9 t ht
 have atA:∀t∈writes R0,Rd.eZ Rd.plain fn.ntmps t=ab:=λt ht=>by unfold Rd.eZ;rw[aV t (by simp[ht])];rfl
 have atz:∀t∈writes R1,Rd.eZ Rd.plain fn.ntmps t=ab:=λt ht=>by unfold Rd.eZ;rw[aV t (by simp[ht])];rfl
 have sI:∀t,bN wr t=ab->Rd.eZ Rd.plain fn.ntmps t=ab:=λt ht=>by unfold Rd.eZ;rw[aV t (bA.2 (.inr (ew.1 ht)))];rfl
 have gG:∀t∈d1::d2::d3::(dstsOf o2++dstsOf o3++dstsOf pre++dstsOf o5),bN wr t=ab:=λt ht=>dU.1 s10 t ht
 have fR:∀t∈dstsOf o2,bN wr t=ab:=λt ht=>gG t (by simp[ht])
 have t_:∀t∈dstsOf o3,bN wr t=ab:=λt ht=>gG t (by simp[ht])
 have hw4:∀t∈dstsOf pre,bN wr t=ab:=λt ht=>gG t (by simp[ht])
 have hw5:∀t∈dstsOf o5,bN wr t=ab:=λt ht=>gG t (by simp[ht])
 have Tw:=gG d1 (by simp)
 have My:=gG d2 (by simp)
 have Mw:=gG d3 (by simp)
 obtain⟨B9,acA⟩:∃B9:Gh D,B9=⟨γ.o,λi=>if i=1999 then ny l else γ.g i,γ.v⟩:=⟨_,rfl⟩
 have hgy:B9.g 1999=ny l:=by rw[acA];show(if 1999=1999 then ny l else γ.g 1999)=ny l;exact aH rfl
 have MK:B9.o=γ.o:=by rw[acA]
 have mG:Kn ⟨(0,.c (.one (.own 1999)))::E0 1 as,[],2000,[]⟩ B9 w (tp 0 (ny l::vs)):=by refine⟨SR.cons (O8 (k:=1) (aau MK s3 has hv)) ⟨by show 1999<2000;omega,hgy.symm,rfl⟩,⟨λi x hx=>by simp[dw,aF]at hx,λb hb=>by rw[MK];exact bH.cl b hb,bH.ro⟩,bx _⟩
 have abb:tr γ w (λ_=>False) B9 w:=⟨λb h=>h.elim,λb hb _=>by rw[MK];exact(c_ b hb).elim (λh=> .inr ⟨h,hb,h⟩) .inl⟩
 have adQ:∀{Z:Nat->Prop} {W:ay} {L:List (Nat×ah)},R Z W->NK fn.ntmps (bodyPost P fn (mg λ_ w'=>∃Z,R Z w') .ret) L W∧NK fn.ntmps (bodyPost P fn (mg λ_ w'=>∃Z,R Z w') .normal) L W:=λhr=>aCd sE rfl λ_=>⟨_,hr⟩
 refine enter (n:=fn.ntmps) (l:=ny l::vs) hf hb rfl ?_ ?_
 ·rw[List.length_cons,hv.len,Dz has];exact s4
 unfold S9
 refine CW.seq λKa hKa=>?_
 refine sZ hP hR cL hm R0 a0 s5 (.inl rfl) (Lb.none s6) hx atA mG λo fe ff w0 L0 m1 m2 m3 m4=>?_
 cases o with
 |exit id=>cases m4
 |goto l=>cases m4
 |ret=>cases m4
 |normal=>
 obtain⟨aba,ZT⟩:=abb.step m2
 have hI1:=Be _ _ _ _ _ D5 ZT
 have yE:=(m2.gk 1999 (by omega)).trans hgy
 refine hKa _ _ ?_
 dsimp only at m4
 refine CW.seq λKb hKb=>?_
 refine sZ hP hR cL hm R1 a1 s7 (.inl rfl) (Lb.none s8) m4 atz m1 λo aN aQ w1 L1 n1 n2 n3 n4=>?_
 cases o with
 |exit id=>cases n4
 |goto l=>cases n4
 |ret=>cases n4
 |normal=>
 obtain⟨ap_,ZS⟩:=aba.step n2
 have hI2:=Be _ _ _ _ _ hI1 ZS
 have hg2:=(n2.gk 1999 (by omega)).trans yE
 refine hKb _ _ ?_
 dsimp only at n4
 clear m1 m2 m3 m4 hKa hKb abb aba D5 hI1 yE ZT ZS n2 n3
 obtain⟨h0,pz,yB⟩:=sU n4
 refine CW.block ?_
 obtain⟨step,TH⟩:∃step,step=Dx T Φ c.el o2 o3 pre o5 tc fs ys gs wr [d1,d2,d3] j aN:=⟨_,rfl⟩
 rw[<-TH]at yB
 have head:∀{s:HH D j.cM×List (D c.el)} {q_:S D} {jm:Gh D} {W:ay} {L5:List (Nat×ah)} {Z:Nat->Prop},Kn q_ jm W L5->ci wr {aN with lk:=oA aN j} q_->zl T j q_ s.1->tr γ w Z jm W->Inv s.2.length Z W->jm.g 1999=ny l->∀cj,lB T j wr j.mv aN s.1=aa cj->
   ∃gD Z,Kn cj gD W L5∧tr γ w Z gD W∧Inv s.2.length Z W∧gD.g 1999=ny l∧ci wr {aN with lk:=oA aN j} {cj with lk:=oA aN j}:=by
  intro s q_ jm W L5 Z k1 k2 k3 k4 k5 k6 cj hi
  obtain⟨bg,q1,q2,q3,_⟩:=Au hR rfl n1 k1 k2 k3 hi
  obtain⟨t1,t2⟩:=k4.step q2
  exact⟨bg,_,q1,t1,Be _ _ _ _ _ k5 t2,(q2.gk 1999 (by omega)).trans k6,q3⟩
 refine CW.loop step (λs L W=>(∃N,nE step N s=aa xs)∧∀cj,lB T j wr j.mv aN s.1=aa cj->∃gD Z,Kn cj gD W L∧tr γ w Z gD W∧Inv s.2.length Z W∧gD.g 1999=ny l∧ci wr {aN with lk:=oA aN j} {cj with lk:=oA aN j}) (abO yB) ⟨⟨_,yB⟩,head (n1.lk _) (ci.refl _ _) pz ap_ hI2 hg2⟩ ?_
 rintro K s L' W ⟨⟨N,hN⟩,hinv⟩ x AH DG yx
 obtain⟨N',y',_,wX,ud⟩:=GZ hN
 rw[AH]at wX
 cases wX
 have aC8:=AH
 rw[TH]at AH
 unfold Dx at AH
 split at AH
 case h_1=>cases AH
 rename_i cj mX
 obtain⟨gD,Z,k1,k2,k3,k4,k5⟩:=hinv cj mX
 have tail:∀{Q':Exit->Act->ay->Prop} {acc:List (D c.el)} {od:S D} {jm:Gh D} {W5:ay} {L4:List (Nat×ah)} {Z:Nat->Prop} {v1 v2 v3:ah},Av T Φ o5 [d1,d2,d3] j acc od=aa x->Kn od jm W5 L4->tr γ w Z jm W5->Inv acc.length Z W5->jm.g 1999=ny l->ci wr {aN with lk:=oA aN j} od->
   CW P fn.ntmps (.region r5 o5.toArray ai) (Exit.then K Q') ((d3,v3)::(d2,v2)::(d1,v1)::L4) W5:=by
  intro Q' acc od jm W5 L4 Z v1 v2 v3 hi t1 t2 t3 t4 t5
  have vC:Kn (uA [d1,d2,d3] od) jm W5 ((d3,v3)::(d2,v2)::(d1,v1)::L4):=(t1.drop _).C9 λt y v hy hv=>by
   rw[By]at hy;split at hy
   case isTrue=>cases hy
   rename_i hn;simp only[cu,jQ,kE,not_or]at hn;rw[gZ _ _ (Ne.symm hn.2.2),gZ _ _ (Ne.symm hn.2.1),gZ _ _ (Ne.symm hn.1)];exact hv
  have hed:ci wr {aN with lk:=oA aN j} (uA [d1,d2,d3] od):=t5.trans ⟨λt ht=>by
   rw[By,aL];intro hm;simp only[cu,jQ,kE]at hm;rcases hm with rfl|rfl|rfl
   ·exact ht (ew.1 Tw)
   ·exact ht (ew.1 My)
   ·exact ht (ew.1 Mw),rfl,λ_ _=>rfl,bx _⟩
  unfold Av at hi
  refine CW.region (s_ hP hR cL hi (λt ht=>sI t (hw5 t ht)) vC λq_ _ γ6 w6 L6 u1 u2 u3 u4=>?_)
  obtain⟨h',dZ,e⟩:=sU u4
  have e:=(jP e).symm
  obtain⟨t6,t7⟩:=t2.step u2
  refine yx (h',acc) L6 w6 e ⟨⟨N',?_⟩,head u1 (hed.trans (u3.mono λt ht=>ew.1 (hw5 t ht))) dZ t6 (Be _ _ _ _ _ t3 t7) ((u2.gk 1999 (by omega)).trans t4)⟩
  rcases ud with⟨s',q1,q2⟩|q1
  ·rw[e]at q1;cases q1;exact q2
  ·rw[e]at q1;cases q1
 refine CW.seq λK2 iD=>?_
 refine CW.region (s_ hP hR cL AH (λt ht=>sI t (fR t ht)) (k1.lk _) λbI lg2 bg w2 L2 m1 m2 m3 m4=>?_)
 refine iD _ _ ?_
 split at m4
 case h_2=>cases m4
 rename_i d _ _ AG
 obtain⟨vd,f1,f2⟩:=m1.sr _ _ AG
 have f2:vd= .bool d:=f2.1
 subst f2
 obtain⟨p1,p2⟩:=k2.step m2
 have rJ:=Be _ _ _ _ _ k3 p2
 have HK:=(m2.gk 1999 (by omega)).trans k4
 have hea:=k5.trans (m3.mono λt ht=>ew.1 (fR t ht))
 refine CW.seq λK3 mb=>?_
 refine CW.cond f1 (λhd=>CW.skip (mb _ _ ?_)) (λhd=>CW.exit ?_)
 ·subst hd;rcases yV m4 with⟨_,m4⟩|⟨h,_⟩
  case inr=>cases h
  refine CW.seq λK4 nQ=>?_;refine CW.block ?_;refine CW.seq λK5 lE=>?_;refine CW.region (s_ hP hR cL m4 (λt ht=>sI t (t_ t ht)) m1 λo7 lg3 jS w3 L3 n1 n2 n3 n4=>lE _ _ ?_);obtain⟨p3,p4⟩:=p1.step n2;have H4:=Be _ _ _ _ _ rJ p4;have MT:=(n2.gk 1999 (by omega)).trans HK;have heb:=hea.trans (n3.mono λt ht=>ew.1 (t_ t ht));refine CW.seq λK6 D4=>?_;refine ajE hP hR cL hm s11 s12 n4 (λt ht=>sI t (hw4 t ht)) n1 λod γ4 w4 L4 q1 q2 q3 q4=>?_;obtain⟨p5,p6⟩:=p3.step q2;have hIc:=Be _ _ _ _ _ H4 p6;have HJ:=(q2.gk 1999 (by omega)).trans MT;have hec:=heb.trans (q3.mono λt ht=>ew.1 (hw4 t ht));split at q4
  case h_2=>cases q4
  rename_i dg _ _ DS;obtain⟨vg,g1,g2⟩:=q1.sr _ _ DS;have g2:vg= .bool dg:=g2.1;subst g2;have go:∀{v1 v2:ah} {jm:Gh D} {W5:ay} {Z:Nat->Prop} {acc:List (D c.el)},Av T Φ o5 [d1,d2,d3] j acc od=aa x->Kn od jm W5 L4->tr γ w Z jm W5->Inv acc.length Z W5->jm.g 1999=ny l->∀{Lx:List (Nat×ah)},Lx=(d3,.bool ai)::(d2,v2)::(d1,v1)::L4->NK fn.ntmps K6 Lx W5:=by intro v1 v2 jm W5 Z acc h1 h2 h3 h4 h5 Lx e;subst e;refine D4 _ _ (CW.cond (iK _ _ _) (λh=>by cases h) λ_=>CW.skip (nQ _ _ (tail h1 h2 h3 h4 h5 hec)))
  rcases yV q4 with⟨vJ,q4⟩|⟨vJ,q4⟩
  ·subst vJ;split at q4
   case h_2=>cases q4
   rename_i i a hfs nH;split at q4
   case isFalse=>cases q4
   rename_i hi;have hi:=bB hi;subst hi;split at q4
   case h_2=>cases q4
   rename_i y w_;obtain⟨h',Hb⟩:=S8 q4;obtain⟨ve,f3,f4⟩:=q1.sr _ _ nH;obtain⟨us,rfl,sF⟩:=axB hR w_ s2 f4;obtain⟨vf,f5,f6⟩:=q1.sr _ _ hfs;have f6:vf=ny l:=f6.2.1.trans HJ;subst f6;have atH:xs[s.2.length]? =aa y:=by
    rcases ud with⟨s',t1,t2⟩|t1
    ·rw[Hb]at t1;cases t1;rw[TH]at t2;obtain⟨t,ht⟩:=arY t2;rw[ht];simp
    ·rw[Hb]at t1;cases t1
   refine WL.stepG Ho w5 g1 (OW.yield (args:=[.tmp ys]) f5 (by simp[Dp.oK,Dp.ev,f3]) (hstep _ _ _ _ _ hIc atH sF)) (sI _ Tw) ?_;rintro v W5 ⟨nH,wZ⟩;obtain⟨jm,t1,t2,t3⟩:=p5.other q1 nH;have hg5:jm.g 1999=ny l:=by rw[t3];exact HJ
   have lg:Dp.look ((d1,v)::L4) gs=aa (.bool ab):=by rw[gZ _ _ adj];exact g1
   rcases wZ with⟨rfl,hI5⟩|⟨rfl,hR5⟩
   ·refine WL.stepG Ho w5 lg (OW.pv (v:= .bool ai) (by simp[Dp.pv,Dp.ev,iK])) (sI _ My) ?_;rintro _ _ ⟨rfl,rfl⟩;refine WL.v (v:= .bool ai) (by simp[Dp.pv,Dp.ev,iK,gZ _ _ T0,lg]) (sI _ Mw) ?_;exact WL.nil (go q4 t1 t2 (by rw[List.length_append];exact hI5) hg5 rfl)
   ·refine WL.stepG Ho w5 lg (OW.pv (v:= .bool ab) (by simp[Dp.pv,Dp.ev,iK])) (sI _ My) ?_;rintro _ _ ⟨rfl,rfl⟩;refine WL.v (v:= .bool ab) (by simp[Dp.pv,Dp.ev,iK,gZ _ _ T0,lg]) (sI _ Mw) ?_;refine WL.nil (D4 _ _ (CW.cond (iK _ _ _) (λ_=>?_) λh=>by cases h));intro a' jY;exact wpIn_ret ((adQ hR5).1 a' jY)
  ·subst vJ;refine WL.Z_ Ho w5 g1 (sI _ Tw) ?_;have lg:Dp.look ((d1,undef)::L4) gs=aa (.bool ai):=by rw[gZ _ _ adj];exact g1
   refine WL.Z_ Ho w5 lg (sI _ My) ?_;refine WL.v (v:= .bool ai) (by simp[Dp.pv,Dp.ev,iK,gZ _ _ T0,lg]) (sI _ Mw) ?_;exact WL.nil (go q4 q1 p5 hIc HJ rfl)
 ·subst hd;rcases yV m4 with⟨h,_⟩|⟨_,m4⟩
  case inl=>cases h
  have e:=jP m4;have e2:=DG s.2 e.symm;have hIe:R _ w2:=auG _ _ (by rw[<-e2];exact rJ);intro a' jY;show(if b0=b0 then bodyPost P fn (mg λ_ w'=>∃Z,R Z w') .normal a' w2 else bodyPost P fn (mg λ_ w'=>∃Z,R Z w') (.exit b0) a' w2);rw[aH rfl];exact(adQ hIe).2 a' jY
structure ld where
 R0:bM
 R1:bM
 b0:Nat
 b1:Nat
 r2:Nat
 r3:Nat
 r4:Nat
 r5:Nat
 tc:Nat
 o2:List aT
 o3:List aT
 pre:List aT
 post:List aT
 o5:List aT
def Sj:a_->Nat
 | .tmp t=>t
 |_=>0
def kX(l:List aT)(k:Nat):Nat:=match l[k]? with
 |some o=>match o.dst with
  |some d=>d
  |none=>0
 |none=>0
def arZ:bM->ld
 | .seq R0 (.seq R1 (.block b0 (.loop (.seq (.region r2 o2 _) (.seq (.cond x _ _) (.seq (.block b1 (.seq (.region r3 o3 _) (.seq (.region r4 o4 _) _))) (.region r5 o5 _)))))))=>
   ⟨R0,R1,b0,b1,r2,r3,r4,r5,Sj x,o2.toList,o3.toList,o4.toList.take (o4.toList.length-3),o4.toList.drop (o4.toList.length-3),o5.toList⟩
 |_=>⟨.skip,.skip,0,0,0,0,0,0,0,[],[],[],[],[]⟩
def Wa(l:List aT):Option Call:=match l[0]? with
 |some o=>match o.op with
  | .call c=>aa c
  |_=>ak
 |none=>ak
def ld.fs(g:ld):Nat:=match Wa g.post with
 |some c=>match c.callee with
  | .value x=>Sj x
  |_=>0
 |none=>0
def ld.ys(g:ld):Nat:=match Wa g.post with
 |some c=>match c.args.toList with
  |[x]=>Sj x
  |_=>0
 |none=>0
def ld.ats(g:ld):Array aY:=match Wa g.post with
 |some c=>c.argTypes
 |none=> #[]
def ld.gi(g:ld):Nat:=match g.post[0]? with
 |some o=>match o.guard with
  |some (i,_)=>i
  |none=>0
 |none=>0
def ld.gs(g:ld):Nat:=kX g.pre g.gi
def ld.tb(g:ld):aY:=match g.post[0]? with
 |some o=>o.type
 |none=>0
def ld.pos(g:ld):String:=match g.post[0]? with
 |some o=>o.pos
 |none=> ""
def ld.e(g:ld)(k:Nat):Array Edge:=match g.post[k]? with
 |some o=>o.after
 |none=> #[]
def ld.code(g:ld):bM:=S9 g.R0 g.R1 g.b0 g.b1 g.r2 g.r3 g.r4 g.r5 g.tc (kX g.post 2) g.o2 g.o3 (g.pre++G3 g.fs g.ys (kX g.post 0) (kX g.post 1) (kX g.post 2) g.gi g.gs g.ats g.tb g.pos (g.e 0) (g.e 1) (g.e 2)) g.o5
def ar1(T:bc D)(Φ:List (aA D))(c:It D)(g:ld)(wr:List Nat)(j:J)(a0 a1:An)(h:HH D c.ins):Option (List (D c.el)):=S7 T Φ c g.R0 g.R1 g.o2 g.o3 g.pre g.o5 g.tc g.fs g.ys g.gs wr [kX g.post 0,kX g.post 1,kX g.post 2] j a0 a1 h
def arX(T:bc D)(c:It D)(fn:Func)(g:ld)(wr:List Nat):Bool:=dz c.f 1000000&&(T.lv c.el).all jJ&&c.args.all Mp&&eh (c.args.length+1) fn.ntmps&&gE g.R0&&iW g.R0&&gE g.R1&&iW g.R1&&(writes g.R0++writes g.R1++wr).all (λt=>dz t fn.ntmps)&&
     (kX g.post 0::kX g.post 1::kX g.post 2::(dstsOf g.o2++dstsOf g.o3++dstsOf g.pre++dstsOf g.o5)).all (bN wr)&&ED g.pre (G3 g.fs g.ys (kX g.post 0) (kX g.post 1) (kX g.post 2) g.gi g.gs g.ats g.tb g.pos (g.e 0) (g.e 1) (g.e 2))&&xM g.pre (jh g.pre []) 0 g.pre []&&
     (match g.pre[g.gi]? with|some o=>(match o.dst with|some d=>aU d g.gs|none=>ai)|none=>ai)&& !(aU (kX g.post 0) g.gs)&& !(aU (kX g.post 1) g.gs)
def ar0(hP:dS P T)(hR:cF T)(cL:∀c∈Φ,fM P T c)(hm:P.follows .mixedOrders=ab){c:It D}{fn:Func}{g:ld}{wr:List Nat}{j:J}{a0 a1:An}
 (jW:∀(args:Array ah) (w:ay),(callFunc c.f args).run P w= .ok (.enter c.f args) w)
 (hf:P.funcs[c.f]? =aa fn) (hb:fn.body=aa g.code) (sE:fn.results= #[]) (bV:arX T c fn g wr=ab)
 (rG:∀h,ar1 T Φ c g wr j a0 a1 h=c.fn h):BZ P T c:=arW hP hR cL hm jW hf hb sE bV rG
def N8(K:List Nat):List (DV D)->List (A1 D)
 |[]=>[]
 |⟨l,d⟩::r=> .v l d (As K l) 0::N8 K r
def RT(c:bM):Bool:=gE c&&iW c&&kS c
def lJ(a:Act):List (Nat×ah):=tp 0 a.tmps.toList
def abS:∀(l:List ah) (k t:Nat) (v:ah),k<=t->l[t-k]? =aa v->Dp.look (tp k l) t=aa v
 |[],k,t,v,_,h=>by simp at h
 |u::r,k,t,v,hk,h=>by
  unfold tp;by_cases hkt:k=t
  ·subst hkt;rw[iK];simpa using h
  ·rw[gZ _ _ hkt];refine abS r (k+1) t v (by omega) ?_;rw[show t-k=(t-(k+1))+1 by omega]at h;simpa using h
def G0{a:Act}{t:Nat}{v:ah}:Dp.look (lJ a) t=aa v↔a.tmps[t]? =aa v:=by
 constructor
 ·intro h;obtain⟨_,h2⟩:=SO _ _ _ _ h;simpa using h2
 ·intro h;exact abS _ _ _ _ (Nat.zero_le _) (by simpa using h)
def Kn.all [Rd]{σ:S D}{L:List (Nat×ah)}{a:Act}(h:Kn σ γ w L)(ha:Fr n L a):Kn σ γ w (lJ a):=
 ⟨λt x hx=>by obtain⟨v,h1,h2⟩:=h.sr t x hx;exact⟨v,G0.2 (ha.get t v h1),h2⟩,h.ob,h.cJ⟩
def awh [Rd]{L:List (Nat×ah)}{a:Act}(ha:Fr n L a):Fr n (lJ a) a:=⟨ha.size,ha.defers,λt v h=>G0.1 h,ha.fix⟩
def Th{j:J}{wr mv:List Nat}{σ bI:S D}{h:HH D j.cM}(hi:lB T j wr mv σ h=aa bI){t:Nat}{a:AV D}(ht:aF bI.sl t=aa a):(t∈j.sl.map bT∧t∈wr)∨t∉wr:=by
 unfold lB at hi;dsimp only at hi;split at hi
 case isFalse=>cases hi
 rename_i hc;split at hi
 case h_2=>cases hi
 rename_i sa sb rC TI;cases hi;simp only[bt,dU]at hc;simp only at ht;rw[km]at ht;cases hl:aF sa t with
 |some x=>
  unfold qj at rC;split at rC
  case h_2=>cases rC
  cases rC;have hk:=PW hl;obtain⟨q,hq,e⟩:=dE.1 hk;exact .inl ⟨hk,e▸ew.1 (hc.1.2 q hq)⟩
 |none=>rw[hl]at ht;right;intro hw;have:=Al (f:=λt=> !(bN wr t)) (l:=σ.sl) (t:=t);rw[ew.2 hw]at this;simp only[Bool.not_true,aE,aD]at this;simp only at ht;rw[this]at ht;cases ht
def axl{j:J}{σ:S D}{h:HH D j.cM}(hx:zl T j σ h){t:Nat}(ht:t∈j.sl.map bT):∃a,aF σ.sl t=aa a:=by
 obtain⟨fm,l,m,ha,_⟩:=hx.ex;have key:∀{js:List (Nat×PC)} {fm:List (AV D)},BM σ.sl js=aa fm->t∈js.map bT->∃a,aF σ.sl t=aa a:=by
  intro js;induction js with
  |nil=>intro fm _ h;simp at h
  |cons q js ih=>
   intro fm h hm;obtain⟨t0,p⟩:=q;simp only[BM]at h;split at h
   case h_2=>cases h
   rename_i x y h1 h2;simp only[gz,cu]at hm;rcases hm with rfl|hm
   ·exact⟨x,h1⟩
   ·exact ih h2 hm
 exact key ha ht
def V5{U:Nat->Prop}{K:List Nat}(hK:ek K):∀{ds:List (DV D)} {us:List ah},cn (In γ.o K) w us ds->db U γ w (N8 K ds) us
 |[],[],_=>trivial
 |⟨lf,x⟩::ds,u::us,h=>by
  refine⟨⟨?_,.inl rfl,?_⟩,V5 hK h.2⟩
  ·have h1:=h.1;cases lf with
   |sl m=>exact h1
   |_=>exact h1
  ·cases lf with
   |sl m=>exact hK
   |_=>exactλ_ h=>by cases h
 |[],_::_,h=>h.elim
 |_::_,[],h=>h.elim
def aa'{U:Nat->Prop}{g:Bool}{cs:List (A1 D)}{us:List ah}{x:AV D}(h:db U γ w cs us)(hx:vh g cs=aa x):gI U γ w x (pack g us):=by
 unfold vh at hx;cases g with
 |true=>cases hx;exact⟨us,rfl,h⟩
 |false=>
  simp only[aE,aD]at hx;match cs,us,h,hx with
  |[c],[u],h,hx=>cases hx;exact h.1
  |[],[],_,hx=>cases hx
  |c::c'::r,_,_,hx=>cases hx
def mark(b:Nat):Deferred:={target:= .collected b,args:= #[]}
@[reducible] def Rd.qQ (b:Nat):Rd:=⟨ak,[mark b],λ_=>ak⟩
def xR(p1:Nat)(assign body:bM):List Nat:=p1::(writes assign++writes body)
def Mo:List (It D)->Nat->Option (It D)
 |[],_=>ak
 |c::r,f=>if aU c.f f then aa c else Mo r f
def ab_:∀{l:List (It D)} {f:Nat} {c:It D},Mo l f=aa c->c∈l∧c.f=f
 |[],f,c,h=>by cases h
 |c0::r,f,c,h=>by
  unfold Mo at h;split at h
  ·rename_i hb;cases h;exact⟨by simp,bB hb⟩
  ·obtain⟨h1,h2⟩:=ab_ h;exact⟨by simp[h1],h2⟩
def rN(ku:List Nat)(σ:S D):S D:={σ with ob:=ku.map (λi=>(i,ak))++σ.ob}
def axH{ku:List Nat}{σ:S D}{i:Nat}{x:AO D}(h:dw (rN ku σ).ob i=aa x):i∉ku∧dw σ.ob i=aa x:=by
 induction ku with
 |nil=>exact⟨by simp,h⟩
 |cons q r ih=>
  unfold rN dw at h;simp only[gz,List.cons_append,aF]at h;cases hb:aU q i with
  |true=>simp[hb]at h
  |false=>
   simp only[hb,rZ]at h;obtain⟨h1,h2⟩:=ih h;refine⟨λhm=>?_,h2⟩;rcases cu.1 hm with e|hm
   ·subst e;simp at hb
   ·exact h1 hm
def Kn.rN{σ:S D}{γ:Gh D}{w:ay}{L:List (Nat×ah)}(hk:Kn σ γ w L){ku:List Nat}(w8:∀x∈ku,1000<=x):Kn (rN ku σ) (eK γ (λb=>b<w.heap.size∧γ.o b∈ku) 2) w L:=by
 have fA:jj (λi=>i<σ.nx) (λi=>i<σ.nx) γ w (eK γ (λb=>b<w.heap.size∧γ.o b∈ku) 2) w:=⟨λ_ h=>h,λ_ _=>rfl,λ_ _=>rfl,λb hb aV=>⟨mu (Z:=λb=>b<w.heap.size∧γ.o b∈ku) λhz=>by have:=w8 _ hz.2;omega,rfl⟩⟩;refine⟨hk.sr.df fA,⟨λi x hx=>?_,λb hb=>?_,hk.ob.ro⟩,hk.cJ⟩
 ·obtain⟨hn,hx⟩:=axH hx;obtain⟨h1,h2,h3⟩:=hk.ob.ob i x hx;exact⟨h1,h2,h3.df fA h2 λb hb M3=>⟨mu (Z:=λb=>b<w.heap.size∧γ.o b∈ku) λhz=>hn (M3▸hz.2),rfl⟩⟩
 ·have:=hk.cJ;by_cases hz:b<w.heap.size∧γ.o b∈ku
  ·rw[gP (Z:=λb=>b<w.heap.size∧γ.o b∈ku) hz];show 2<σ.nx;omega
  ·rw[mu (Z:=λb=>b<w.heap.size∧γ.o b∈ku) hz];exact hk.ob.cl b hb
def RR(T:bc D)(Φ:List (aA D)){n:Nat}(y:D n)(wr:List Nat)(p1:Nat)(assign body:bM)(xr mc:An){ρ:Type}(σ:S D)(k:Out->S D->Option ρ):Option ρ:=match vh (T.ag n) (N8 [] (T.out n y))with
 |some a=>fS T Φ assign xr {σ with sl:=(p1,a)::σ.sl} λo aN=>match o with
  | .normal=>fS T Φ body mc aN λo bI=>match o with
    | .normal=>k .normal bI
    | .ret=>k .ret (uA wr bI)
    |_=>ak
  |_=>ak
 |none=>ak
def abP(T:bc D)(Φ:List (aA D)){n:Nat}(xs:List (D n))(wr:List Nat)(p1:Nat)(assign body:bM)(j:J)(pr:Bool)(E:List (Out×J))(xr mc:An){ρ:Type}(σ:S D)(k:Out->S D->Option ρ):Option ρ:=
 qH T j {σ with lk:=(kept σ (j.mv++rn E)).map bT++σ.lk} λh0=>nD (aJ (σ:=HH D j.cM×List (D n)) (ρ:=v7 D pr ρ E) (λs=>match lB T j wr (j.mv++rn E) σ s.1 with
    |some cj=>match s.2 with
     |[]=>(match toE T pr E (.exit 0) (uA wr {cj with lk:=(kept σ (j.mv++rn E)).map bT++σ.lk}) (k .normal {uA wr cj with lk:=σ.lk})with
      |some x=>aa (.inr x)
      |none=>ak)
     |y::ys=>RR T Φ y wr p1 assign body xr mc {cj with lk:=(kept σ (j.mv++rn E)).map bT++σ.lk} λo aN=>match o with
      | .normal=>qH T j aN λh'=>aa (.inl (h',ys))
      | .ret=>(match toE T pr E .ret aN (k .ret {aN with lk:=σ.lk})with
        |some x=>aa (.inr x)
        |none=>ak)
      |_=>ak
    |none=>ak) (h0,xs)) λx=>sS T pr wr (j.mv++rn E) σ (λo aN=>match o with
     | .exit _=>k .normal aN
     | .ret=>k .ret aN
     |_=>ak) E x
def Lp(T:bc D)(Φ:List (aA D))(kC:List (It D))(g p1:Nat)(assign body:bM)(j:J)(pr:Bool)(E:List (Out×J))(xr mc:An){ρ:Type}(σ:S D)(k:Out->S D->Option ρ):Option ρ:=match aF σ.sl g with
 |some (.c (.one (.fn f jf)))=>match Mo kC f with
  |some c=>(Bp T ab 0 c.ins c.args [] [] σ.nx (jf.map Od)).go σ.ob [] λx _=>
    if x.2.kr.all (λq=>aU q 0)&&qK x.2.ku σ.lk&&eh (dH T c.ins x.1).length 900&&(g9 T (dH T c.ins x.1) aa id 1100 c.args).isSome&&j.sl.isEmpty&&RT assign&&RT body then
     nD (c.fn x.1) λxs=>abP T Φ xs (xR p1 assign body) p1 assign body j pr E xr mc (rN x.2.ku σ) k
    else ak
  |none=>ak
 |_=>ak
def aa0(hP:dS P T)(hR:cF T)(cL:∀c∈Φ,fM P T c)(hm:P.follows .mixedOrders=ab){kC:List (It D)}(hB:∀q∈kC,BZ P T q){id g p1:Nat}{assign body:bM}{j:J}{pr:Bool}{E:List (Out×J)}{xr mc:An}{ρ:Type}{σ:S D}{k:Out->S D->Option ρ}{r:ρ}{γ:Gh D}{w:ay}{L:List (Nat×ah)}{Q:Exit->Act->ay->Prop}
  (h:Lp T Φ kC g p1 assign body j pr E xr mc σ k=aa r) (hk:Kn σ γ w L) (hd:∀t∈xR p1 assign body,dz t n=ab)
  (hc:∀b o aN aQ w1 L1,Kn aN aQ w1 L1->Rx.Frame γ w aQ w1->w.heap.size<=b->b<w1.heap.size->aQ.o b=2->w1.heap[b]? =aa (.deferred (aa []))->k o aN=aa r->o= .normal∨o= .ret->∀a1,@Fr (Rd.qQ b) n L1 a1->Q (toX o) a1 w1):
  CW P n (.block id (.rangeFunc (.tmp g) #[p1] assign body)) Q L w:=by
 intro a ha
 refine wpIn_block (wpIn_rangeFunc λaet _=>?_)
 unfold Lp at h
 split at h
 case h_2=>cases h
 rename_i f jf hg
 split at h
 case h_2=>cases h
 rename_i c hit
 obtain⟨xe,rfl⟩:=ab_ hit
 have UU:=hB c xe
 obtain⟨lq,x,hq,h⟩:=Rx.Q.H7 h
 obtain⟨hh,m⟩:=x
 dsimp only at h
 split at h
 case isFalse=>cases h
 rename_i sN
 simp only[bt]at sN
 obtain⟨⟨⟨⟨⟨⟨c1,c2⟩,c3⟩,c4⟩,c5⟩,c7⟩,c8⟩:=sN
 obtain⟨xs,eH,h⟩:=pM h
 obtain⟨wr,Mu⟩:∃wr,wr=xR p1 assign body:=⟨_,rfl⟩
 rw[<-Mu]at h hd
 have yz:p1∈wr:=by rw[Mu];unfold xR;simp
 have auq:=awh ha
 have UN:=ha.size
 obtain⟨rec,yw⟩:∃rec:LoopState->Option bM->Loop,rec=λst pe=>{state:=st,pending:=pe,fn:=aet,tmps:=a.tmps,params:= #[p1],assign,body,defers:=w.heap.size}:=⟨_,rfl⟩
 obtain⟨W1,pH⟩:∃W1,(w.alloc (.deferred (aa []))).alloc (.loop (rec .ready ak))=W1:=⟨_,rfl⟩
 obtain⟨l,hl⟩:∃l,l=w.heap.size+1:=⟨_,rfl⟩
 have H2:W1.heap[l]? =aa (.loop (rec .ready ak)):=by rw[<-pH,hl];have:=ay.alloc_heap_new (w.alloc (.deferred (aa []))) (.loop (rec .ready ak));rwa[ay.size_alloc]at this
 have g_:W1.heap[w.heap.size]? =aa (.deferred (aa [])):=by rw[<-pH];exact(Below.heap_alloc _ _ _ (by simp)).trans (ay.alloc_heap_new w _)
 obtain⟨Zm,Bd⟩:∃Zm:Nat->Prop,Zm=λb=>b=w.heap.size∨b=l:=⟨_,rfl⟩
 have MR:Zm l:=by rw[Bd];exact .inr rfl
 have hDZ:Zm w.heap.size:=by rw[Bd];exact .inl rfl
 have ad3:∀b,Zm b->w.heap.size<=b:=λb hb=>by rw[Bd]at hb;rcases hb with hb|hb<;>omega
 have Na:w.heap.size≠l:=by omega
 have avi:W1.heap.size=w.heap.size+2:=by rw[<-pH];simp
 have HX:WZ Zm w W1:=by
  refine⟨by rw[<-pH];rfl,by rw[<-pH];rfl,by rw[<-pH];rfl,by omega,λb hb aV=>?_,λb hb=>?_⟩
  ·rw[<-pH,Below.heap_alloc _ _ _ (by simp;omega),Below.heap_alloc _ _ _ aV]
  ·rw[Bd];omega
 have HD:Kn σ (eK γ Zm 3) W1 (lJ a):=(hk.all ha).wz (.inr rfl) (λb hb aV=>by have:=ad3 b hb;omega) HX
 obtain⟨jS,wS⟩:∃jS,jS=eK γ Zm 3:=⟨_,rfl⟩
 rw[<-wS]at HD
 obtain⟨gv,hgv,yS,hgf,HJ⟩:=HD.sr g _ hg
 have aul:gv= .func (.func c.f) #[] yS.toArray:=by rw[hgf];unfold xk;rw[aH UU.lt]
 obtain⟨⟨hex,_⟩,vF⟩:=Nq hR HD.ob hq (Oc HJ)
 dsimp only at hex vF
 have adA:∀p i,(p,i)∉m.ids:=λp i hp=>by have:=hex.key p i hp;cases this
 obtain⟨Bg,Bf⟩:=aeO (γ:=jS) (w:=W1) HD.ob hex (λi h1 _ h3=>by have h3:i<σ.nx:=h3;omega) rfl (dp c3)
 obtain⟨as,has⟩:=Option.isSome_iff_exists.1 c4
 have AF:=(vF Bg Bf).1 as has
 obtain⟨uN,acB⟩:∃uN:Gh D,uN=⟨λb=>jp m (jS.o b),qE jS m,gh jS.v 1100 (dH T c.ins hh)⟩:=⟨_,rfl⟩
 rw[<-acB]at AF
 have MG:∀b,(uN.o b=0∧(jS.o b=0∨jS.o b∈m.ku))∨uN.o b=3:=λb=>by
  rw[acB];rcases C4 m (jS.o b)with⟨p,h1,_⟩|⟨_,h1⟩
  ·exact(adA _ _ h1).elim
  ·rcases h1 with⟨h1,h2⟩|⟨h1,_⟩
   ·refine .inl ⟨h1,h2.imp (λh3=>?_) λh=>h⟩;exact bB (dU.1 c1 _ h3)
   ·exact .inr h1
 have atF:OB U0 uN W1 []:=⟨λi x hx=>by simp[dw,aF]at hx,λb hb=>by show uN.o b<2000;rcases MG b with⟨h1,_⟩|h1<;>omega,λx hx=>hx⟩
 have w8:∀x∈m.ku,1000<=x:=λx hx=>(hex.ku x hx).1
 obtain⟨Bx,xi⟩:∃Bx:Nat->Prop,Bx=λb=>b<W1.heap.size∧jS.o b∈m.ku:=⟨_,rfl⟩
 obtain⟨gp,Az⟩:∃gp,gp=rN m.ku σ:=⟨_,rfl⟩
 have vC:Kn gp (eK jS Bx 2) W1 (lJ a):=by rw[Az,xi];exact HD.rN w8
 rw[<-Az]at h
 have UX:∀b,Bx b->¬Zm b∧γ.o b≠0∧γ.o b≠3∧jS.o b≠0:=λb hb=>by
  rw[xi]at hb;have:=w8 _ hb.2;by_cases hz:Zm b
  ·rw[wS,gP hz]at this;omega
  ·have e:jS.o b=γ.o b:=by rw[wS,mu hz]
   exact⟨hz,by omega,by omega,by omega⟩
 obtain⟨ZA,kw⟩:∃ZA:(Nat->Prop)->Nat->Prop,ZA=λZ b=>Zm b∨Bx b∨Z b:=⟨_,rfl⟩
 have Up:∀Z,fY (ZA Z) γ w (eK jS Bx 2) W1:=λZ=>by
  have f1:fY Zm γ w jS W1:=by rw[wS];exact .wz HX
  have f2:fY Bx jS W1 (eK jS Bx 2) W1:= .wz (.refl Bx W1);exact(f1.mono λb hb=>by rw[kw];exact .inl hb).trans (f2.mono λb hb=>by rw[kw];exact .inr (.inl hb))
 unfold abP at h
 obtain⟨h0,pz,h⟩:=sU h
 obtain⟨x,hx,hf⟩:=pM h
 clear h
 obtain⟨mv,DN⟩:∃mv,mv=j.mv++rn E:=⟨_,rfl⟩
 rw[<-DN]at hx hf pz
 obtain⟨lk,oF⟩:∃lk,lk=(kept gp mv).map bT++gp.lk:=⟨_,rfl⟩
 rw[<-oF]at hx pz
 obtain⟨yo,HB⟩:∃yo:Out->S D->Option ρ,yo=λo aN=>match o with
  | .exit _=>k .normal aN
  | .ret=>k .ret aN
  |_=>ak:=⟨_,rfl⟩
 rw[<-HB]at hf
 obtain⟨step,hstep,hx⟩:∃step:HH D j.cM×List (D c.el)->Option ((HH D j.cM×List (D c.el))⊕v7 D pr ρ E),(∀s y,step s=aa y->∃cj,lB T j wr mv gp s.1=aa cj∧
   ((s.2=[]∧(match toE T pr E (.exit 0) (uA wr {cj with lk:=lk}) (yo (.exit 0) {uA wr cj with lk:=gp.lk})with
       |some x=>aa (Sum.inr x)
       |none=>ak)=aa y)∨
     ∃z zs,s.2=z::zs∧∃kk:Out->S D->Option ((HH D j.cM×List (D c.el))⊕v7 D pr ρ E),(∀aN,kk .normal aN=qH T j aN λh'=>aa (.inl (h',zs)))∧
      (∀aN,kk .ret aN=match toE T pr E .ret aN (yo .ret {aN with lk:=gp.lk})with
        |some x=>aa (.inr x)
        |none=>ak)∧RR T Φ z wr p1 assign body xr mc {cj with lk:=lk} kk=aa y))∧aJ step (h0,xs)=aa x:=by
  refine⟨_,λs y hy=>?_,hx⟩
  dsimp only at hy
  split at hy
  case h_2=>cases hy
  rename_i cj mX
  refine⟨cj,mX,?_⟩
  split at hy
  ·rename_i he;exact .inl ⟨he,by rw[HB];exact hy⟩
  ·rename_i z zs he;exact .inr ⟨z,zs,he,_,λ_=>rfl,λ_=>by rw[HB],hy⟩
 have T6:l<W1.heap.size:=by omega
 have hDs:w.heap.size<W1.heap.size:=by omega
 obtain⟨R,M6⟩:∃R:(Nat->Prop)->ay->Prop,R=λZ W=>∃st jump o aN aQ,st≠.busy∧W.heap[l]? =aa (.loop (rec st jump))∧W.heap[w.heap.size]? =aa (.deferred (aa []))∧Kn aN aQ W (lJ a)∧fY (ZA Z) γ w aQ W∧(∀b,ZA Z b->aQ.o b=2)∧(∀b,Z b->W1.heap.size<=b∧b<W.heap.size)∧k o aN=aa r∧((jump=ak∧o= .normal)∨(jump=aa .ret∧o= .ret)):=⟨_,rfl⟩
 obtain⟨Inv,M8⟩:∃Inv:Nat->(Nat->Prop)->ay->Prop,Inv=λm Z W=>∃N h' cj gD,nE step N (h',xs.drop m)=aa x∧lB T j wr mv gp h'=aa cj∧Kn cj gD W (lJ a)∧fY (ZA Z) γ w gD W∧ci wr {gp with lk:=lk} {cj with lk:=lk}∧(∀b,ZA Z b->gD.o b=2)∧(∀b,Z b->W1.heap.size<=b∧b<W.heap.size)∧W.heap[l]? =aa (.loop (rec .ready ak))∧W.heap[w.heap.size]? =aa (.deferred (aa [])):=⟨_,rfl⟩
 have ist:∀{Z:Nat->Prop} {W:ay} {Z':Nat->Prop} {W':ay} {aN:S D} {aQ:Gh D},PN Z W Z' W'->Kn aN aQ W (lJ a)->fY (ZA Z) γ w aQ W->(∀b,ZA Z b->aQ.o b=2)->(∀b,Z b->W1.heap.size<=b∧b<W.heap.size)->W1.heap.size<=W.heap.size->
   Kn aN (eK aQ (ZA Z') 2) W' (lJ a)∧fY (ZA Z') γ w (eK aQ (ZA Z') 2) W'∧(∀b,ZA Z' b->(eK aQ (ZA Z') 2).o b=2)∧(∀b,Z' b->W1.heap.size<=b∧b<W'.heap.size)∧∀b,b<W1.heap.size->W'.heap[b]? =W.heap[b]? :=by
  intro Z W Z' W' aN aQ hi q1 q2 q3 q4 q5
  have MD:∀b,ZA Z b->ZA Z' b:=λb hb=>by rw[kw]at hb⊢;exact hb.imp (λh=>h) λh=>h.imp (λh=>h) (hi.sub b)
  have eM:=hi.wz.size
  have DL:∀b,Z' b->W1.heap.size<=b∧b<W'.heap.size:=λb hb=>by
   rcases hi.new b hb with h1|h1
   ·have:=q4 b h1;omega
   ·omega
  have hw:WZ (ZA Z') W W':=hi.wz.mono λb hb=>by rw[kw];exact .inr (.inr hb)
  refine⟨q1.wz (.inl rfl) (λb hb aV=> .inl (q3 b ?_)) hw,(q2.mono MD).trans (.wz hw),λb hb=>gP hb,DL,λb hb=>hi.wz.same b (λhz=>by have:=(DL b hz).1;omega) (by omega)⟩
  rw[kw]at hb⊢
  rcases hb with hb|hb|hb
  ·exact .inl hb
  ·exact .inr (.inl hb)
  ·rcases hi.new b hb with h1|h1
   ·exact .inr (.inr h1)
   ·omega
 have auS:∀b,b<W1.heap.size->uN.o b=0∨uN.o b=3:=λb _=>(MG b).imp (λh=>h.1) λh=>h
 have cJ:∀{W:ay} {O:Obj},W.heap[l]? =aa O->W1.heap.size<=W.heap.size:=λh=>by have:=(jB.1 h).1;omega
 have head:∀{m N:Nat} {s:HH D j.cM} {Z:Nat->Prop} {aN:S D} {aQ:Gh D} {W:ay} {L1:List (Nat×ah)},nE step N (s,xs.drop m)=aa x->Kn aN aQ W L1->ci wr {gp with lk:=lk} aN->zl T j aN s->fY (ZA Z) γ w aQ W->(∀b,ZA Z b->aQ.o b=3∧b<W.heap.size)->(∀b,Z b->W1.heap.size<=b∧b<W.heap.size)->W.heap[l]? =aa (.loop (rec .ready ak))->W.heap[w.heap.size]? =aa (.deferred (aa []))->
   (∀t v,t∉wr->Dp.look L1 t=aa v->Dp.look (lJ a) t=aa v)->Inv m Z W:=by
  intro m N s Z aN aQ W L1 hN eI he hxr eE c_ hZs Mv hwD AL
  obtain⟨N',y,_,hs,_⟩:=GZ hN
  obtain⟨cj,mX,_⟩:=hstep _ _ hs
  obtain⟨bg,k1,k2,k3,_⟩:=Au hR oF vC eI he hxr mX
  have rI:∀b,ZA Z b->bg.o b=3:=λb hb=>by rw[(k2.ro b (c_ b hb).2 (.inr (c_ b hb).1)).1];exact(c_ b hb).1
  rw[M8]
  refine⟨N,s,cj,eK bg (ZA Z) 2,hN,mX,(k1.wz (.inl rfl) (λb hb _=> .inr (rI b hb)) (.refl _ W)).C9 λt y v hy hv=>AL t v ?_ hv,(eE.trans (.of k2)).trans (.wz (.refl _ W)),k3,λb hb=>gP hb,hZs,Mv,hwD⟩
  rcases Th mX hy with⟨h1,_⟩|h1
  ·rw[List.isEmpty_iff.1 c5]at h1;cases h1
  ·exact h1
 have abZ:∀{o:Out} {s:HH D j.cM×List (D c.el)} {y:(HH D j.cM×List (D c.el))⊕v7 D pr ρ E} {N:Nat} {Z:Nat->Prop} {aN:S D} {aQ:Gh D} {W:ay} {L1:List (Nat×ah)},nE step N s=aa x->step s=aa y->(match toE T pr E o aN (yo o {aN with lk:=gp.lk})with|some x=>aa (.inr x)|none=>ak)=aa y->
   Kn aN aQ W L1->ci wr {gp with lk:=lk} aN->(∀t,t∈wr->aF aN.sl t=ak)->fY (ZA Z) γ w aQ W->(∀b,ZA Z b->aQ.o b=3∧b<W.heap.size)->(∀t v,t∉wr->Dp.look L1 t=aa v->Dp.look (lJ a) t=aa v)->∃bI bg,Kn bI bg W (lJ a)∧fY (ZA Z) γ w bg W∧(∀b,ZA Z b->bg.o b=2)∧yo o bI=aa r:=by
  intro o s y N Z aN aQ W L1 hN hs hz eI he nJ eE c_ AL
  split at hz
  case h_2=>cases hz
  rename_i x' dZ
  have hz:=(jP hz).symm
  subst hz
  obtain⟨N',y',_,wX,gF⟩:=GZ hN
  rw[hs]at wX
  cases wX
  rcases gF with⟨s',h1,_⟩|h1
  ·cases h1
  cases h1
  have fin:∀{bI:S D} {bg:Gh D},Kn bI bg W L1->Rx.Frame aQ W bg W->(∀t x,aF bI.sl t=aa x->t∉wr)->yo o bI=aa r->∃bI bg,Kn bI bg W (lJ a)∧fY (ZA Z) γ w bg W∧(∀b,ZA Z b->bg.o b=2)∧yo o bI=aa r:=by
   intro bI bg k1 k2 k3 k4;have rI:∀b,ZA Z b->bg.o b=3:=λb hb=>by rw[(k2.ro b (c_ b hb).2 (.inr (c_ b hb).1)).1];exact(c_ b hb).1
   exact⟨bI,eK bg (ZA Z) 2,(k1.wz (.inl rfl) (λb hb _=> .inr (rI b hb)) (.refl _ W)).C9 λt y v hy hv=>AL t v (k3 t y hy) hv,(eE.trans (.of k2)).trans (.wz (.refl _ W)),λb hb=>gP hb,k4⟩
  rcases FT dZ hf with⟨j',y2,bI,h1,h2,h3⟩|h1
  ·obtain⟨bg,k1,k2,k3,_⟩:=Au hR oF vC eI he h1 h2;refine fin k1 k2 (λt z ht=>?_) h3;rcases Th h2 ht with⟨m1,m2⟩|m1
   ·obtain⟨z',oD⟩:=axl h1 m1;rw[nJ t m2]at oD;cases oD
   ·exact m1
  ·refine fin (eI.lk _) (Rx.Frame.refl _ _) (λt z ht hw=>?_) h1;have ht:aF aN.sl t=aa z:=ht;rw[nJ t hw]at ht;cases ht
 have HU:∀{Z:Nat->Prop} {W:ay},(∀b,Z b->W1.heap.size<=b∧b<W.heap.size)->W1.heap.size<=W.heap.size->∀b,ZA Z b->b<W.heap.size:=λhz hs b hb=>by
  rw[kw]at hb;rcases hb with hb|hb|hb
  ·rw[Bd]at hb;omega
  ·rw[xi]at hb;have:=hb.1;omega
  ·exact(hz b hb).2
 have auU:Calls P c.f (ny l::yS).toArray W1 (mg λ_ w'=>∃Z,R Z w'):=by
  refine UU.run hh xs eH as has uN W1 l yS AF atF auS Inv R ?_ ?_ ?_ ?_ ?_
  ·unfold aJ at hx;have hZ0:∀b,ZA (λ_=>False) b->(Zm b∨Bx b)∧b<W1.heap.size:=λb hb=>by
    rw[kw]at hb;rcases hb with hb|hb|hb
    ·refine⟨.inl hb,?_⟩;rw[Bd]at hb;omega
    ·refine⟨.inr hb,?_⟩;rw[xi]at hb;exact hb.1
    ·exact hb.elim
   refine head (m:=0) (Z:=λ_=>False) hx ((vC.lk lk).wz (Z:=ZA λ_=>False) (c:=3) (.inr rfl) (λb hb _=>?_) (.refl _ _)) (.refl _ _) pz ((Up _).trans (.wz (.refl _ _))) (λb hb=>⟨gP hb,(hZ0 b hb).2⟩) (λb hb=>hb.elim) H2 g_ λt v _ hv=>hv;by_cases vK:Bx b
   ·exact .inl (gP vK)
   ·rw[mu vK];right;rcases(hZ0 b hb).1 with h1|h1
    ·rw[wS];exact gP h1
    ·exact(vK h1).elim
  ·intro m Z W Z' W' hi hs;rw[M8]at hi⊢;obtain⟨N,h',cj,gD,i1,i2,i3,i4,i5,i6,i7,i8,i9⟩:=hi;obtain⟨q1,q2,q3,q4,q5⟩:=ist hs i3 i4 i6 i7 (cJ i8);exact⟨N,h',cj,_,i1,i2,q1,q2,i5,q3,q4,(q5 l T6).trans i8,(q5 _ hDs).trans i9⟩
  ·intro Z W Z' W' hi hs;rw[M6]at hi⊢;obtain⟨st,jump,o,aN,aQ,i1,i2,i3,i4,i5,i6,i7,i8,i9⟩:=hi;obtain⟨q1,q2,q3,q4,q5⟩:=ist hs i4 i5 i6 i7 (cJ i2);exact⟨st,jump,o,aN,_,i1,(q5 l T6).trans i2,(q5 _ hDs).trans i3,q1,q2,q3,q4,i8,i9⟩
  ·intro Z W hi;rw[M8]at hi;obtain⟨N,h',cj,gD,i1,i2,i3,i4,i5,i6,i7,i8,i9⟩:=hi;obtain⟨N',y,_,hs,_⟩:=GZ i1;obtain⟨akH,mX,hy⟩:=hstep _ _ hs;rw[i2]at mX;cases mX;rcases hy with⟨_,hy⟩|⟨z,zs,he,_⟩
   ·obtain⟨bI,bg,m1,m2,m3,m4⟩:=abZ (Z:=Z) i1 hs hy (((i3.lk lk).drop wr).wz (c:=3) (.inr rfl) (λb hb _=> .inl (i6 b hb)) (.refl (ZA Z) W)) ⟨λt ht=>by rw[By,aL ht];exact i5.sl t ht,rfl,i5.ob,i5.nx⟩ (λt ht=>by rw[By,aH ht]) (i4.trans (.wz (.refl _ W))) (λb hb=>⟨gP hb,HU i7 (cJ i8) b hb⟩) (λt v ht hv=>hv);rw[M6];refine⟨.ready,ak,.normal,bI,bg,by simp,i8,i9,m1,m2,m3,i7,?_,.inl ⟨rfl,rfl⟩⟩;rw[HB]at m4;exact m4
   ·simp at he
  ·intro m' Z W y cs hi hy sF;rw[M8]at hi;obtain⟨N,h',cj,gD,i1,i2,i3,i4,i5,i6,i7,i8,i9⟩:=hi;have hyl:=run_yield (P:=P) (args:= #[pack (ad.agg (D c.el)) cs]) i8 (by rw[yw];rfl);rw[yw]at hyl;refine⟨aet,_,assign,body,hyl,roundIn_of_wpIn trivial ?_⟩;obtain⟨N',yy,hN',hs,DK⟩:=GZ i1;obtain⟨akH,mX,wU⟩:=hstep _ _ hs;rw[i2]at mX;cases mX;have uh:xs.drop m'=y::xs.drop (m'+1):=by obtain⟨aV,e⟩:=gK.1 hy;rw[List.drop_eq_getElem_cons aV,e]
   rcases wU with⟨he,_⟩|⟨z,zs,he,kk,kk1,kk2,wU⟩
   ·rw[uh]at he;cases he
   rw[uh]at he;obtain⟨rfl,rfl⟩:=List.cons.inj he;have MC:=cJ i8;unfold RR at wU;split at wU
   case h_2=>cases wU
   rename_i av hav;obtain⟨I,hI⟩:∃I:Rd,I=⟨aa l,[],λt=>if bN wr t then ak else a.tmps[t]?⟩:=⟨_,rfl⟩;have hIF:I.F=Fence.wide.inRound l:=by rw[hI];rfl
   unfold RT at c7 c8;simp only[bt]at c7 c8;have Hn:∀t∈wr,I.eZ n t=ab:=λt ht=>by unfold Rd.eZ;rw[hd t ht,hI];simp only[ew.2 ht,aI];rfl
   have hwa:∀t∈writes assign,t∈wr:=λt ht=>by rw[Mu];unfold xR;simp[ht]
   have hwb:∀t∈writes body,t∈wr:=λt ht=>by rw[Mu];unfold xR;simp[ht]
   have w9:Kn {cj with lk:=lk,sl:=(p1,av)::cj.sl} (eK gD (ZA Z) 3) W ((p1,pack (ad.agg (D c.el)) cs)::lJ a):=by have h1:Kn {cj with lk:=lk} (eK gD (ZA Z) 3) W (lJ a):=(i3.lk lk).wz (c:=3) (.inr rfl) (λb hb _=> .inl (i6 b hb)) (.refl _ W);refine⟨h1.sr.cons ?_,h1.ob,h1.cJ⟩;rw[hR.ag];exact aa' (V5 (λ_ hx=>by cases hx) ((hR.rd c.el _ _ _ _).1 (sF (In (eK gD (ZA Z) 3).o []) W))) hav
   have aut: @Fr I n ((p1,pack (ad.agg (D c.el)) cs)::lJ a) {tmps:=(#[p1].zip #[pack (ad.agg (D c.el)) cs]).foldl (λtmps (t,a)=>tmps.setIfInBounds t a) a.tmps,defers:=[]}:=by
    have e0:(#[p1].zip #[pack (ad.agg (D c.el)) cs]).foldl (λtmps (t,a)=>tmps.setIfInBounds t a) a.tmps=a.tmps.setIfInBounds p1 (pack (ad.agg (D c.el)) cs):=by simp
    rw[e0];have l1:p1<a.tmps.size:=by rw[UN];exact dp (hd p1 yz)
    refine @Fr.mk I n _ _ (by simp[UN]) (by rw[hI];rfl) (λt v hv=>?_) (λt v hv=>?_)
    ·by_cases h1:p1=t
     ·subst h1;rw[iK]at hv;simp[l1];exact jP hv
     ·rw[gZ _ _ h1]at hv;simp[FC,h1];exact G0.1 hv
    ·rw[hI]at hv;dsimp only at hv;split at hv
     ·cases hv
     ·rename_i hm;have h1:p1≠t:=λe=>hm (ew.2 (e▸yz));simp[FC,h1];exact hv
   rw[<-hIF];refine sZ (I:=I) (n:=n) hP hR cL hm assign xr c7.1.1 (.inr c7.2) (Lb.none c7.1.2) wU (λt ht=>Hn t (hwa t ht)) w9 ?_ _ aut;intro o aN aQ w1 L1 m1 m2 m3 m4;cases o with
   |exit id=>cases m4
   |goto l=>cases m4
   |ret=>cases m4
   |normal=>
   intro a1 M5;have DZ:∀b,ZA Z b->aQ.o b=3∧w1.heap[b]? =W.heap[b]? :=λb hb=>by have:=m2.ro b (HU i7 MC b hb) (.inr (gP hb));exact⟨this.1.trans (gP hb),this.2⟩
   have xj:ZA Z l:=by rw[kw];exact .inl MR
   have Nb:ZA Z w.heap.size:=by rw[kw];exact .inl hDZ
   have nM:w1.heap[l]? =aa (.loop (rec .ready ak)):=(DZ l xj).2.trans i8;have hD1:w1.heap[w.heap.size]? =aa (.deferred (aa [])):=(DZ _ Nb).2.trans i9;refine⟨_,run_beginRound nM (by rw[yw]),?_⟩;obtain⟨w2,fR⟩:∃w2,w2=w1.putObj l (.loop {rec .ready ak with state:= .busy}):=⟨_,rfl⟩;rw[<-fR];have vB:w2.heap[l]? =aa (.loop {rec .ready ak with state:= .busy}):=by rw[fR];exact ay.putObj_heap_same (jB.1 nM).1
   have hD2:w2.heap[w.heap.size]? =aa (.deferred (aa [])):=by rw[fR];exact(ay.putObj_heap_other Na).trans hD1
   have DB:WZ (ZA Z) w1 w2:=by rw[fR];exact .put xj
   have qz:Kn aN (eK aQ (ZA Z) 3) w2 L1:=m1.wz (.inr rfl) (λb hb _=> .inr (DZ b hb).1) DB;refine sZ (I:=I) (n:=n) hP hR cL hm body mc c8.1.1 (.inr c8.2) (Lb.none c8.1.2) m4 (λt ht=>Hn t (hwb t ht)) qz ?_ _ M5;intro o bI bg w3 L2 n1 n2 n3 n4;have sz1:=m2.size;have sz2:=DB.size;have sz3:=n2.size;have rI:∀b,ZA Z b->bg.o b=3∧w3.heap[b]? =w2.heap[b]? :=λb hb=>by have:=n2.ro b (by have:=HU i7 MC b hb;omega) (.inr (gP hb));exact⟨this.1.trans (gP hb),this.2⟩
   have DQ:=(rI l xj).2.trans vB;have hD3:=(rI _ Nb).2.trans hD2;have adH:fY (ZA Z) γ w bg w3:=(((i4.trans (.wz (c:=3) (.refl (ZA Z) W))).trans (.of m2)).trans (.wz (c:=3) DB)).trans (.of n2);have HO:ci wr {gp with lk:=lk} bI:=by
    have e1:ci wr {cj with lk:=lk} {cj with lk:=lk,sl:=(p1,av)::cj.sl}:=⟨λt ht=>by
     have bR:aU p1 t=ai:=by
      cases hb:aU p1 t with
      |true=>have:=bB hb;subst this;exact(ht yz).elim
      |false=>rfl
     simp only[aF,bR,rZ],rfl,λ_ _=>rfl,bx _⟩
    exact((i5.trans e1).trans (m3.mono hwa)).trans (n3.mono hwb)
   have nH:∀O:Obj,Xv (λb=>Z b∨(b<W1.heap.size∧uN.o b=0)) W (w3.putObj l O):=λO=>by
    refine⟨n2.os.trans (DB.os.trans m2.os),n2.tape.trans (DB.tape.trans m2.tape),n2.output.trans (DB.output.trans m2.output),by rw[ay.putObj_size];omega,λb hb aV=>?_⟩;have uo:b≠l:=by
     rintro rfl;rcases hb with hb|⟨_,hb⟩
     ·have:=(i7 _ hb).1;omega
     ·rcases MG b with⟨_,h1|h1⟩|h1
      ·rw[wS,gP MR]at h1;omega
      ·have:=w8 _ h1;rw[wS,gP MR]at this;omega
      ·omega
    rw[ay.putObj_heap_other uo];have Zo:ZA Z b->w3.heap[b]? =W.heap[b]? :=λhA=>by refine(rI b hA).2.trans (Eq.trans ?_ (DZ b hA).2);rw[fR];exact ay.putObj_heap_other uo
    rcases hb with hb|⟨hbs,hb⟩
    ·exact Zo (by rw[kw];exact .inr (.inr hb))
    ·rcases MG b with⟨_,h1|h1⟩|h1
     ·
      have Hr:¬ZA Z b:=λhA=>by
       rw[kw]at hA;rcases hA with hA|hA|hA
       ·rw[wS,gP hA]at h1;omega
       ·exact(UX b hA).2.2.2 h1
       ·have:=(i7 b hA).1;omega
      have hz:¬Zm b:=λh=>Hr (by rw[kw];exact .inl h)
      have Ul:γ.o b=0:=by rw[wS,mu hz]at h1;exact h1
      have UI:b<w.heap.size:=by
       rcases Nat.lt_or_ge b w.heap.size with h2|h2
       ·exact h2
       ·exact(hz (by rw[Bd];omega)).elim
      have t1:=(i4.ro b Hr UI (.inl Ul)).1
      have t2:=m2.ro b aV (.inl (by rw[mu Hr,t1];exact Ul))
      have t3:=n2.ro b (by omega) (.inl (by rw[mu Hr,t2.1,mu Hr,t1];exact Ul))
      rw[t3.2,fR,ay.putObj_heap_other uo,t2.2]
     ·exact Zo (by rw[kw];exact .inr (.inl (by rw[xi];exact⟨hbs,h1⟩)))
     ·omega
   have xg:∀{a2:Act},@Fr I n L2 a2->∀t v,t∉wr->Dp.look L2 t=aa v->Dp.look (lJ a) t=aa v:=by
    intro a2 nc t v ht hv;have g1:=nc.get t v hv;have yr:t<a.tmps.size:=by have:=(jB.1 g1).1;rw[nc.size]at this;rw[UN];exact this
    have g2:a2.tmps[t]? =aa a.tmps[t]:=nc.fix t _ (by
     have hb:bN wr t=ai:=by
      cases hb:bN wr t with
      |true=>exact(ht (ew.1 hb)).elim
      |false=>rfl
     rw[hI];simp[hb,yr])
    rw[g1]at g2;cases g2;exact G0.2 (Array.getElem?_eq_getElem yr)
   have hZ4:∀O:Obj,∀b,Z b->W1.heap.size<=b∧b<(w3.putObj l O).heap.size:=λO b hb=>by have:=i7 b hb;rw[ay.putObj_size];omega
   cases o with
   |exit id=>cases n4
   |goto l=>cases n4
   |normal=>
    intro a2 nc;dsimp only at n4;rw[kk1]at n4;obtain⟨h2,py,e⟩:=sU n4;cases e;obtain⟨W4,uq⟩:∃W4,W4=w3.putObj l (.loop (rec .ready ak)):=⟨_,rfl⟩;have AE:WZ (ZA Z) w3 W4:=by rw[uq];exact .put xj
    have w7:nE step N' (h2,xs.drop (m'+1))=aa x:=by
     rcases DK with⟨s',e,h⟩|e
     ·cases e;exact h
     ·cases e
    have hI4:Inv (m'+1) Z W4:=by
     have Ub:=n1.wz (c:=3) (.inr rfl) (λb hb _=> .inr (rI b hb).1) AE;refine head w7 Ub HO py (adH.trans (.wz AE)) (λb hb=>⟨gP hb,?_⟩) (by rw[uq];exact hZ4 _) ?_ ?_ (xg nc)
     ·have:=HU i7 MC b hb;have:=AE.size;omega
     ·rw[uq];exact ay.putObj_heap_same (jB.1 DQ).1
     ·rw[uq];exact(ay.putObj_heap_other Na).trans hD3
    refine⟨_,_,run_endRound ak DQ,_,rfl,nH _,.inl ⟨rfl,?_⟩⟩;have e4:w3.putObj l (.loop {({rec .ready ak with state:= .busy}:Loop)with state:=if(none:Option bM).isNone then .ready else .done,pending:=ak})=W4:=by rw[uq,yw];rfl
    rw[e4];exact hI4
   |ret=>
    intro a2 nc;dsimp only at n4;rw[kk2]at n4;obtain⟨W4,uq⟩:∃W4,W4=w3.putObj l (.loop (rec .done (aa .ret))):=⟨_,rfl⟩;have AE:WZ (ZA Z) w3 W4:=by rw[uq];exact .put xj
    have Ub:=n1.wz (c:=3) (.inr rfl) (λb hb _=> .inr (rI b hb).1) AE;have hR4:R Z W4:=by
     obtain⟨o7,akJ,q1,q2,q3,q4⟩:=abZ (Z:=Z) i1 hs n4 (Ub.drop wr) (HO.trans ⟨λt ht=>by rw[By,aL ht],rfl,λ_ _=>rfl,bx _⟩) (λt ht=>by rw[By,aH ht]) (adH.trans (.wz AE)) (λb hb=>⟨gP hb,by have:=HU i7 MC b hb;have:=AE.size;omega⟩) (xg nc)
     rw[M6];refine⟨.done,aa .ret,.ret,o7,akJ,by simp,?_,?_,q1,q2,q3,by rw[uq];exact hZ4 _,?_,.inr ⟨rfl,rfl⟩⟩
     ·rw[uq];exact ay.putObj_heap_same (jB.1 DQ).1
     ·rw[uq];exact(ay.putObj_heap_other Na).trans hD3
     ·rw[HB]at q4;exact q4
    refine⟨_,_,run_endRound (aa .ret) DQ,_,rfl,nH _,.inr ⟨rfl,?_⟩⟩;have e4:w3.putObj l (.loop {({rec .ready ak with state:= .busy}:Loop)with state:=if(aa bM.ret).isNone then .ready else .done,pending:=aa .ret})=W4:=by rw[uq,yw];rfl
    rw[e4];exact hR4
 refine⟨l,[mark w.heap.size],W1,{target:= .fn (.func c.f) yS.toArray,args:= #[.func (.yield l) #[] #[]]},W1,c.f, #[.func (.yield l) #[] #[]]++yS.toArray,W1,?_,?_,?_,?_,λh=>by simp[Rd.F,Fence.wide]at h,?_⟩
 ·rw[<-pH,yw,hl];exact run_enterLoop_outer _ _ _ _ _
 ·have:a.eval (.tmp g)= .func (.func c.f) #[] yS.toArray:=by rw[auq.ev (x:= .tmp g) (v:=gv) hgv,aul]
  simp only[resolve,this];simp[go_sem]
 ·intro f' hf';trivial
 ·simp[invoke,go_sem,UU.Vp]
 ·have h3:=(callsIn_wide (n:=0)).2 auU;have e9: #[ah.func (.yield l) #[] #[]]++yS.toArray=(ny l::yS).toArray:=by simp[ny]
  rw[e9];refine(h3:CallsIn Fence.wide 0 P c.f _ W1 _).mono ?_;rintro e w' ⟨v,rfl,Z,hr⟩;rw[M6]at hr;obtain⟨st,jump,o,aN,aQ,r1,r2,r3,r4,r5,r6,r6b,r7,r8⟩:=hr;have auX:(rec st jump).state≠.busy:=by rw[yw];exact r1
  have fy:=run_endLoop (P:=P) r2 auX;have atw:(rec st jump).pending=jump:=by rw[yw]
  rw[atw]at fy;refine⟨jump,_,fy,?_⟩;have xj:ZA Z l:=by rw[kw];exact .inl MR
  have Nb:ZA Z w.heap.size:=by rw[kw];exact .inl hDZ
  have jH:∀(O:Obj) a1,@Fr (Rd.qQ w.heap.size) n (lJ a) a1->Q (toX o) a1 (w'.putObj l O):=by
   intro O;refine hc w.heap.size o aN (eK aQ (ZA Z) 2) _ (lJ a) (r4.wz (.inl rfl) (λb hb _=> .inl (r6 b hb)) (.put xj)) ((r5.trans (fY.wz (.put xj))).frame (λb hb=>?_) λb hb=>gP hb) (bx _) ?_ (gP Nb) ?_ r7 ?_
   ·rw[kw]at hb;rcases hb with hb|hb|hb
    ·exact .inl (ad3 b hb)
    ·exact .inr ⟨(UX b hb).2.1,(UX b hb).2.2.1⟩
    ·have:=(r6b b hb).1;exact .inl (by omega)
   ·rw[ay.putObj_size];exact(jB.1 r3).1
   ·rw[ay.putObj_heap_other Na];exact r3
   ·rcases r8 with⟨_,h⟩|⟨_,h⟩
    ·exact .inl h
    ·exact .inr h
  have hfa: @Fr (Rd.qQ w.heap.size) n (lJ a) {a with defers:=[mark w.heap.size]++a.defers}:=by refine @Fr.mk (Rd.qQ w.heap.size) n (lJ a) _ ha.size ?_ (λt v h=>G0.1 h) (λ_ _ h=>by cases h);show [mark w.heap.size]++a.defers=[mark w.heap.size];rw[ha.defers];rfl
  rcases r8 with⟨rfl,rfl⟩|⟨rfl,rfl⟩
  ·exact jH _ _ hfa
  ·exact wpIn_ret (jH _ _ hfa)
def xS:bM->Option (bM×Nat×Nat×Nat×bM×bM)
 | .seq r (.block id (.rangeFunc (.tmp g) ps assign body))=>match ps.toList with
   |[p1]=>aa (r,id,g,p1,assign,body)
   |_=>ak
 |_=>ak
def aaz:An->Option (J×Bool×List (Out×J)×An)
 | .loop j pr E x=>aa (j,pr,E,x)
 |_=>ak
def Iq(T:bc D)(Φ:List (aA D))(kC:List (It D)):bM->An->∀{ρ:Type},S D->(Out->S D->Option ρ)->Option ρ
 | .seq a b,an,_,σ,k=>match xS (.seq a b)with
   |some (r,id,g,p1,assign,body)=>match aaz an.b with
    |some (j,pr,E,x)=>oJ an.a.fz σ λσ=>fS T Φ r an.a.un σ λo aN=>match o with
     | .normal=>Lp T Φ kC g p1 assign body j pr E x.a x.b aN k
     |o=>k o aN
    |none=>ak
   |none=>match xS a with
   |some (r,id,g,p1,assign,body)=>match aaz an.a.b with
    |some (j,pr,E,x)=>oJ an.a.a.fz σ λσ=>fS T Φ r an.a.a.un σ λo aN=>match o with
     | .normal=>Lp T Φ kC g p1 assign body j pr E x.a x.b aN λo bI=>match o with
       | .normal=>fS T Φ b an.b bI k
       |o=>k o bI
     |o=>k o aN
    |none=>ak
   |none=>oJ an.a.fz σ λσ=>fS T Φ a an.a.un σ λo aN=>match o with
    | .normal=>Iq T Φ kC b an.b aN k
    |o=>k o aN
 |_,_,_,_,_=>ak
def LJ:bM->Bool
 | .seq a b=>(match xS (.seq a b)with
   |some x=>gE x.1&&iW x.1
   |none=>match xS a with
   |some x=>gE x.1&&iW x.1&&gE b&&iW b
   |none=>gE a&&iW a&&LJ b)
 |_=>ab
def RH(T:bc D)(Φ:List (aA D))(kC:List (It D))(c:aA D)(rs:List li)(code:bM)(an:An)(h:HH D c.ins):Option (HH D c.outs):=match LJ code with
 |true=>match yO T c h with
  |some σ=>oJ an.fz σ λσ=>Iq T Φ kC code an.un σ (u6 T c rs)
  |none=>ak
 |false=>ak
def aay{a:bM}{x:bM×Nat×Nat×Nat×bM×bM}(h:xS a=aa x):a= .seq x.1 (.block x.2.1 (.rangeFunc (.tmp x.2.2.1) #[x.2.2.2.1] x.2.2.2.2.1 x.2.2.2.2.2)):=by
 unfold xS at h;split at h
 case h_2=>cases h
 rename_i r id g ps assign body;split at h
 case h_2=>cases h
 rename_i p1 hp;cases h;have:ps= #[p1]:=by apply Array.ext';rw[hp]
 rw[this]
def aCx(hP:dS P T)(hR:cF T)(cL:∀c∈Φ,fM P T c)(hm:P.follows .mixedOrders=ab){b:Nat}{c:bM}{an:An}{ρ:Type}{σ:S D}{k:Out->S D->Option ρ}{r:ρ}{ff:Gh D}{w0:ay}{L:List (Nat×ah)}{Q:Exit->Act->ay->Prop}
  (h:fS T Φ c an σ k=aa r) (hN:gE c=ab) (hS:iW c=ab) (hd:∀t∈writes c,dz t n=ab) (hk:Kn σ γ w L) (eE:Rx.Frame ff w0 γ w) (hb:w0.heap.size<=b) (pG:b<w.heap.size) (c_:γ.o b=2) (bH:w.heap[b]? =aa (.deferred (aa [])))
  (hc:∀o aN aQ w1 L1,Kn aN aQ w1 L1->Rx.Frame ff w0 aQ w1->aQ.o b=2->b<w1.heap.size->w1.heap[b]? =aa (.deferred (aa []))->k o aN=aa r->∀a1,@Fr (Rd.qQ b) n L1 a1->Q (toX o) a1 w1):
  @CW P n (Rd.qQ b) c Q L w:=by
 refine sZ (I:=Rd.qQ b) hP hR cL hm c an hN (.inl rfl) (@Lb.none P (Rd.qQ b) _ _ hS) h (λt ht=>by unfold Rd.eZ;rw[hd t ht];rfl) (hk.wz (Z:=λx=>x=b) (c:=3) (.inr rfl) (λb' iC _=>by subst iC;exact .inl c_) (.refl _ w)) ?_
 intro o aN aQ w1 L1 m1 m2 m3 m4
 obtain⟨q1,q2⟩:=m2.ro b pG (.inr (gP (Z:=λx=>x=b) rfl))
 have q1:aQ.o b=3:=q1.trans (gP (Z:=λx=>x=b) rfl)
 have eM:b<w1.heap.size:=Fw pG m2.size
 refine hc o aN (eK aQ (λx=>x=b) 2) w1 L1 (m1.wz (.inl rfl) (λb' iC _=>by subst iC;exact .inr q1) (.refl _ w1)) ?_ (gP (Z:=λx=>x=b) rfl) eM (q2.trans bH) m4
 refine fY.frame (Z:=λx=>x=b) ((((fY.of eE).trans (.wz (.refl _ w))).trans (.of m2)).trans (.wz (.refl _ w1))) (λb' iC=>?_) (λb' iC=>gP iC)
 subst iC
 exact .inl hb
def axT(hP:dS P T)(hR:cF T)(cL:∀c∈Φ,fM P T c)(hm:P.follows .mixedOrders=ab){kC:List (It D)}(hB:∀q∈kC,BZ P T q):∀(c:bM) (an:An) {ρ:Type} {σ:S D} {k:Out->S D->Option ρ} {r:ρ} {γ:Gh D} {w:ay} {L:List (Nat×ah)} {Q:Exit->Act->ay->Prop},LJ c=ab->Iq T Φ kC c an σ k=aa r->(∀t∈writes c,dz t n=ab)->Kn σ γ w L->
  (∀o aN aQ w1 L1,Kn aN aQ w1 L1->Rx.Frame γ w aQ w1->k o aN=aa r->NK n (Q (toX o)) L1 w1)->
  (∀b o aN aQ w1 L1,Kn aN aQ w1 L1->Rx.Frame γ w aQ w1->aQ.o b=2->w.heap.size<=b->b<w1.heap.size->w1.heap[b]? =aa (.deferred (aa []))->k o aN=aa r->∀a1,@Fr (Rd.qQ b) n L1 a1->Q (toX o) a1 w1)->CW P n c Q L w:=by
 intro c
 induction c with
 |seq a b tX G9=>
  intro an ρ σ k r γ w L Q hN h hd hk ij kq
  unfold LJ at hN
  simp only[Iq]at h
  have uj:∀t∈writes a,dz t n=ab:=λt ht=>hd t (by simp only[writes];exact bA.2 (.inl ht))
  have xd:∀t∈writes b,dz t n=ab:=λt ht=>hd t (by simp only[writes];exact bA.2 (.inr ht))
  cases TL:xS (.seq a b)with
  |some x=>
   obtain⟨r0,id,g,p1,assign,body⟩:=x
   rw[TL]at hN h
   have he:=aay TL
   dsimp only at hN h he
   injection he with HP DX
   subst HP DX
   simp only[bt]at hN
   split at h
   case h_2=>cases h
   rename_i j pr E x hx
   obtain⟨fe,ii,h⟩:=pJ h
   obtain⟨ff,z1,z2,z3⟩:=pI ii hk
   intro a' jY
   refine wpIn_seq ?_
   refine sZ hP hR cL hm a _ hN.1 (.inl rfl) (Lb.none hN.2) h (λt ht=>by unfold Rd.eZ;rw[uj t ht];rfl) z1 (λo aN aQ w1 L1 m1 m2 m3 m4=>?_) a' jY
   have m2:=z2.trans m2
   cases o with
   |normal=>
    refine aa0 hP hR cL hm hB m4 m1 (λt ht=>xd t ?_) ?_
    ·simp only[writes];unfold xR at ht;simp only[cu,bA]at ht⊢;rcases ht with rfl|ht|ht<;>simp[*]
    ·intro b' o bI bg w2 L2 n1 n2 n3 n4 n5 n6 n7 n8;exact kq b' o bI bg w2 L2 n1 (m2.trans n2) n5 (lN m2.size n3) n4 n6 n7
   |exit id=>exact ij (.exit id) aN aQ w1 L1 m1 m2 m4
   |goto l=>exact ij (.goto l) aN aQ w1 L1 m1 m2 m4
   |ret=>exact ij .ret aN aQ w1 L1 m1 m2 m4
  |none=>
  rw[TL]at hN h
  dsimp only at hN h
  cases TN:xS a with
  |none=>
   rw[TN]at hN h
   simp only[bt]at hN
   obtain⟨fe,ii,h⟩:=pJ h
   obtain⟨ff,z1,z2,z3⟩:=pI ii hk
   refine CW.seq λK hK=>?_
   refine sZ hP hR cL hm a _ hN.1.1 (.inl rfl) (Lb.none hN.1.2) h (λt ht=>by unfold Rd.eZ;rw[uj t ht];rfl) z1 λo aN aQ w1 L1 m1 m2 m3 m4=>?_
   have m2:=z2.trans m2
   cases o with
   |normal=>
    refine hK _ _ (G9 _ hN.2 m4 xd m1 (λo bI bg w2 L2 n1 n2 n3=>ij o bI bg w2 L2 n1 (m2.trans n2) n3) λb' o bI bg w2 L2 n1 n2 n3 n4 n5 n6 n7=>kq b' o bI bg w2 L2 n1 (m2.trans n2) n3 (lN m2.size n4) n5 n6 n7)
   |exit id=>exact ij (.exit id) aN aQ w1 L1 m1 m2 m4
   |goto l=>exact ij (.goto l) aN aQ w1 L1 m1 m2 m4
   |ret=>exact ij .ret aN aQ w1 L1 m1 m2 m4
  |some x=>
   obtain⟨r0,id,g,p1,assign,body⟩:=x
   rw[TN]at hN h
   obtain rfl:=aay TN
   dsimp only at hN h uj⊢
   simp only[bt]at hN
   split at h
   case h_2=>cases h
   rename_i j pr E x hx
   obtain⟨fe,ii,h⟩:=pJ h
   obtain⟨ff,z1,z2,z3⟩:=pI ii hk
   intro a' jY
   refine wpIn_seq (wpIn_seq ?_)
   refine sZ hP hR cL hm r0 _ hN.1.1.1 (.inl rfl) (Lb.none hN.1.1.2) h (λt ht=>by unfold Rd.eZ;rw[uj t (by simp only[writes];exact bA.2 (.inl ht))];rfl) z1 (λo aN aQ w1 L1 m1 m2 m3 m4=>?_) a' jY
   have m2:=z2.trans m2
   cases o with
   |normal=>
    refine aa0 hP hR cL hm hB m4 m1 (λt ht=>uj t ?_) ?_
    ·simp only[writes];unfold xR at ht;simp only[cu,bA]at ht⊢;rcases ht with rfl|ht|ht<;>simp[*]
    ·intro b' o bI bg w2 L2 n1 n2 n3 n4 n5 n6 n7 n8;have eE:=m2.trans n2;rcases n8 with rfl|rfl
     ·dsimp only at n7;refine aCx hP hR cL hm n7 hN.1.2 hN.2 xd n1 eE (lN m2.size n3) n4 n5 n6 ?_;intro o o7 jS w3 L3 q1 q2 q3 q4 q5 q6;exact kq b' o o7 jS w3 L3 q1 q2 q3 (lN m2.size n3) q4 q5 q6
     ·exact kq b' .ret bI bg w2 L2 n1 eE n5 (lN m2.size n3) n4 n6 n7
   |exit id=>exact ij (.exit id) aN aQ w1 L1 m1 m2 m4
   |goto l=>exact ij (.goto l) aN aQ w1 L1 m1 m2 m4
   |ret=>exact ij .ret aN aQ w1 L1 m1 m2 m4
 |_=>intro an ρ σ k r γ w L Q hN h;simp[Iq]at h
def axA{f:FuncId}{fn:Func}{c:bM}{l:List ah}{R:Ending->ay->Prop}(hf:P.funcs[f]? =aa fn)(hb:fn.body=aa c)(hn:fn.ntmps=n)(hl:eh l.length n=ab)
  (h:CW P n c (bodyPostM Fence.wide 0 P fn R) (tp 0 l) w):Calls P f l.toArray w R:=by
 have pE:l.length<=n:=by simpa using hl
 refine callsIn_wide.1 (callsIn_of_wp_marks (n:=0) hf hb trivial (h _ ⟨by simp[hn];omega,rfl,λt v hv=>?_,λ_ _ h=>by cases h⟩))
 obtain⟨_,h2⟩:=SO l 0 t v hv
 have ht:t<l.length:=(gK.1 h2).1
 simp only[Nat.sub_zero]at h2
 rw[Array.getElem?_append_left (by simpa using ht)]
 simpa using h2
def aev(hP:dS P T)(hR:cF T)(cL:∀c∈Φ,fM P T c)(hm:P.follows .mixedOrders=ab){kC:List (It D)}(hB:∀q∈kC,BZ P T q){c:aA D}{fn:Func}{code:bM}{rs:List li}{an:An}
  (jW:∀(args:Array ah) (w:ay),(callFunc c.f args).run P w= .ok (.enter c.f args) w)
  (hf:P.funcs[c.f]? =aa fn) (hb:fn.body=aa code) (kU:fn.results=rs.toArray)
  (bV:((writes code).all (λt=>dz t fn.ntmps)&&eh c.args.length fn.ntmps&&sD c.jU c.b8&&mw (c.b8.map bT)&&c.b8.all (λp=>eh 1000 p.1)&&eh c.b8.length 40)=ab)
  (rG:∀h,RH T Φ kC c rs code an h=c.fn h):fM P T c:=by
 simp only[bt]at bV
 obtain⟨⟨⟨⟨⟨hw,hl⟩,jG⟩,A5⟩,qD⟩,yF⟩:=bV
 refine⟨jW,jG,A5,qD,yF,λh r hr as eQ has nI γ w vs hv bH=>?_⟩
 rw[<-rG]at hr
 unfold RH at hr
 split at hr
 case h_2=>cases hr
 rename_i jt
 split at hr
 case h_2=>cases hr
 rename_i σ lC
 unfold yO at lC
 dsimp only at lC
 split at lC
 case isFalse=>cases lC
 rename_i hc
 rw[has,nI]at lC
 have lC:=jP lC
 subst lC
 simp only[bt,dU]at hc qD hw
 have mB:=O8 (k:=0) hv
 have hlen:=hv.len
 have A3:=Dz has
 refine axA hf hb rfl (by rw[hlen,A3];exact hl) ?_
 obtain⟨fe,ii,hr⟩:=pJ hr
 obtain⟨ff,z1,z2,z3⟩:=pI ii (γ:=γ) ⟨mB,bH,bx _⟩
 have fin:∀{be} {γ':Gh D} {w':ay} {L':List (Nat×ah)},Kn be γ' w' L'->Rx.Frame γ w γ' w'->u6.fin T c rs be=aa r->∃vs,zg P L' w' rs vs∧mg (λv w'=>∃U' γ' rs kl,g9 T (dH T c.outs r) aa id 3000 c.jU=aa rs∧jF T (dH T c.outs r) aa id 3000 c.b8=aa kl∧
   vX U' γ' w' rs v∧(∀p x,dw kl p=aa x->OR U' γ' w' p x)∧(∀p,(p,p)∈stay c->γ'.g p=γ.g p)∧Frame0 γ w γ' w') (.returned (xT vs)) w':=by
  intro be γ' w' L' cV eE ho
  obtain⟨vs,h1,bg,u5,kl,h2,h3,h4,h5,h6,h7⟩:=aaA hP hR cV (λq hq=>dp (qD q hq)) (λq hq=>by have:=dp (hc.2 q hq).2;omega) ho
  refine⟨vs,h1,_,rfl,_,bg,u5,kl,h2,h3,h4,h5,λp hp=>?_,eE.toFrame0.trans h7⟩
  rw[h6 p hp]
  refine eE.gk p ?_
  unfold stay at hp
  obtain⟨q,hq,e⟩:=dE.1 hp
  cases e
  obtain⟨q',uc⟩:=sy (List.mem_filter.1 hq).2
  have:=dp (hc.2 _ uc).2
  simp only at this
  omega
 refine axT hP hR cL hm hB code an.un jt hr hw z1 (λo be γ' w' L' cV eE ho=>?_) (λb o be γ' w' L' cV eE c_ UI aDo TY ho a1 M5=>?_)
 ·have eE:=z2.trans eE;have one:u6.fin T c rs be=aa r->∀a,Fr fn.ntmps L' a->LeavesInM Fence.wide 0 P fn a.tmps _ a.defers .returning w':=λho a ha=>by obtain⟨vs,h1,h2⟩:=fin cV eE ho;rw[ha.defers];exact⟨_,zN (λ_ _ hx=>ha.ev hx) kU h1,h2⟩
  cases o with
  |normal=>exact one ho
  |ret=>exact one ho
  |exit id=>cases ho
  |goto l=>cases ho
 ·have eE:=z2.trans eE;obtain⟨w2,fR⟩:∃w2,w2=w'.putObj b (.deferred ak):=⟨_,rfl⟩;have hwz:WZ (λx=>x=b) w' w2:=by rw[fR];exact .put rfl
  have qz:Kn be (eK γ' (λx=>x=b) 2) w2 L':=cV.wz (.inl rfl) (λb' iC _=>by subst iC;exact .inl c_) hwz;have aus:Rx.Frame γ w (eK γ' (λx=>x=b) 2) w2:=by refine fY.frame (Z:=λx=>x=b) ((fY.of eE).trans (.wz hwz)) (λb' iC=>?_) (λb' iC=>gP iC);subst iC;exact .inl UI
  have one:u6.fin T c rs be=aa r->LeavesInM Fence.wide 0 P fn a1.tmps _ a1.defers .returning w':=λho=>by
   obtain⟨vs,h1,h2⟩:=fin qz aus ho;rw[@Fr.defers (Rd.qQ b) _ _ _ M5];refine⟨by simp,.inl ⟨b,w2,rfl,?_,?_⟩⟩
   ·rw[fR];exact run_takeDeferred TY
   ·exact⟨_,zN (L:=L') (λ_ _ hx=> @Fr.ev (Rd.qQ b) _ _ _ M5 _ _ hx) kU h1,h2⟩
  cases o with
  |normal=>exact one ho
  |ret=>exact one ho
  |exit id=>cases ho
  |goto l=>cases ho
abbrev RG(T:bc D)(Φ:List (aA D))(kC:List (It D))(c:aA D)(rs:List li)(code:bM)(an:An):aA D:=⟨c.f,c.ins,c.outs,c.args,c.ob,c.jU,c.b8,RH T Φ kC c rs code an⟩
def aoD(hP:dS P T)(hR:cF T)(cL:∀c∈Φ,fM P T c)(hm:P.follows .mixedOrders=ab){kC:List (It D)}(hB:∀q∈kC,BZ P T q){c:aA D}{fn:Func}{code:bM}{rs:List li}{an:An}
  (jW:∀(args:Array ah) (w:ay),(callFunc c.f args).run P w= .ok (.enter c.f args) w)
  (hf:P.funcs[c.f]? =aa fn) (hb:fn.body=aa code) (kU:fn.results=rs.toArray)
  (bV:((writes code).all (λt=>dz t fn.ntmps)&&eh c.args.length fn.ntmps&&sD c.jU c.b8&&mw (c.b8.map bT)&&c.b8.all (λp=>eh 1000 p.1)&&eh c.b8.length 40)=ab):fM P T (RG T Φ kC c rs code an):=
 aev (c:=RG T Φ kC c rs code an) (an:=an) hP hR cL hm hB jW hf hb kU bV λ_=>rfl
