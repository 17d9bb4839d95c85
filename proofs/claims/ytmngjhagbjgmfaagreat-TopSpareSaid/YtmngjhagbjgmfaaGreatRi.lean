import Derived.RangeFuncSeq
import Derived.RangeFuncRecord
import Derived.Test.YtmngjhagbjgmfaaGreatRo
set_option linter.all false
open Array renaming getElem?_eq_some_iff->jx,getElem?_setIfInBounds->Fy
open Bool renaming and_eq_true->bq,false->ai,false_eq_true->aD,true->ab
open Go renaming Code->bL,Oper->aS,Operand->aZ,Program->cP,ResultVar->lc,TypeId->aX,Value->ah,World->ax
open List renaming all_eq_true->dR,getElem?_eq_some_iff->gH,map_cons->gu,mem_append->bz,mem_cons->cr,mem_map->dC,not_mem_nil->jN
open Nat renaming beq->aT,ble->ef,blt->dx,eq_of_beq_eq_true->bA,le_of_ble_eq_true->dm,le_refl->bw,le_trans->lK,lt_of_lt_of_le->Fs
open Option renaming some->aa
open Option.some renaming inj->jM
open Prod renaming fst->bS
noncomputable section
namespace Go.Proofs.YtmngjhagbjgmfaaGreat
open Go Go.RowKit Dp
namespace Rx
section
variable {P:cP} {Q:Exit->Act->ax->Prop} {L:List (Nat×ah)} {w:ax} {n:Nat}
def OW.round [I:Rd]{o:aS}{R:ah->ax->Prop}(h:∀a,Reads L a->∃l f tmps assign body,(execOp a.eval o).run P w= .ok (.round l f tmps assign body) w∧RoundIn Fence.wide 0 P l f tmps assign body w (mb R)):OW P Q L o w R:=by intro a K ha hK;obtain⟨l,f,tmps,assign,body,h1,h2⟩:=h a ha;unfold aS.wpIn;rw[KJ h1 (λ_ h=>by cases h),aS.uponIn_round];refine⟨λf _=>trivial,λh=>by simp[Rd.F,Fence.wide]at h,?_⟩;refine(h2:RoundIn Fence.wide 0 P l f tmps assign body w (mb R)).mono ?_;rintro e w' ⟨v,rfl,hr⟩;exact hK v w' hr
def OW.yield [I:Rd]{x:aZ}{args:List aZ}{vs:List ah}{l:Nat}{ats:Array aX}{d:Option Tmp}{ty:aX}{pos:String}{af:Array Edge}{g:Option (Nat×Bool)}{R:ah->ax->Prop}(hx:ev L x=aa (.func (.yield l) #[] #[]))(ha:oH L args=aa vs)
  (hy:YieldAt Fence.wide 0 P l vs.toArray w (mb R)):OW P Q L ⟨d,.call {callee:= .value x,args:=args.toArray,argTypes:=ats},ty,pos,af,g⟩ w R:=by
 obtain⟨fn,tmps,assign,body,h1,h2⟩:=hy
 refine OW.round λa hr=>⟨l,fn,tmps,assign,body,?_,h2⟩
 have h3:args.toArray.map a.eval=vs.toArray:=by rw[<-D8 hr _ ha];simp
 simp[execOp,resolve,invoke,Deferred.ofValue,hr _ _ hx]at h3⊢
 rw[h3,h1]
def aB' [I:Rd]{fn:Func}{R:ah->ax->Prop}(sx:fn.results= #[]){L:List (Nat×ah)}(hI:I.ds=[]){w:ax}(hR:∀v,R v w):NK n (bodyPost P fn (mb R) .ret) L w∧NK n (bodyPost P fn (mb R) .normal) L w:=by
 constructor
 ·exactλa ha=>bodyPost_ret (zJ (rs:=[]) (vs:=[]) (λ_ _ hx=>ha.ev hx) (by rw[sx]) trivial) (ha.defers.trans hI) ⟨_,rfl,hR _⟩
 ·exactλa ha=>bodyPost_end (zJ (rs:=[]) (vs:=[]) (λ_ _ hx=>ha.ev hx) (by rw[sx]) trivial) (ha.defers.trans hI) ⟨_,rfl,hR _⟩
def WL.stepG [I:Rd]{ops:Array aS}{rest:List aS}{d gi gs:Nat}{op:Op}{ty:aX}{pos:String}{af:Array Edge}{b:Bool}{og:aS}{R:ah->ax->Prop}(ho:ops[gi]? =aa og)(wW:og.dst=aa gs)(hg:Dp.look L gs=aa (.bool b))(h:OW P Q L ⟨aa d,op,ty,pos,af,aa (gi,b)⟩ w R)(hd:I.eX n d=ab)
  (hk:∀v w',R v w'->WL P n ops Q rest ((d,v)::L) w'):WL P n ops Q (⟨aa d,op,ty,pos,af,aa (gi,b)⟩::rest) L w:=by
 intro a ha
 simp only[wpListIn]
 rw[aG (by simp[Region.wanted,yielded,ho,wW,ha.get gs _ hg])]
 exact h a _ (λx v hx=>ha.ev hx) λv w' hr=>hk v w' hr _ (ha.put hd v)
def WL.Z6 [I:Rd]{ops:Array aS}{rest:List aS}{d gi gs:Nat}{op:Op}{ty:aX}{pos:String}{af:Array Edge}{b:Bool}{og:aS}(ho:ops[gi]? =aa og)(wW:og.dst=aa gs)(hg:Dp.look L gs=aa (.bool (!b)))(hd:I.eX n d=ab)
  (hk:WL P n ops Q rest ((d,undef)::L) w):WL P n ops Q (⟨aa d,op,ty,pos,af,aa (gi,b)⟩::rest) L w:=by
 intro a ha
 simp only[wpListIn]
 rw[aK (by cases b<;>simp[Region.wanted,yielded,ho,wW,ha.get gs _ hg])]
 exact⟨λ_ _=>trivial,hk _ (ha.put hd undef)⟩
end
section
variable {D:Nat->Type} [∀n,ad (D n)]
variable {P:cP} {T:bb D} {Φ:List (az D)} {n:Nat}
variable {γ γ' B6:Gh D} {w w' uQ:ax} {Z:Nat->Prop}
structure fW(Z:Nat->Prop)(γ:Gh D)(w:ax)(γ':Gh D)(w':ax):Prop where
 os:w'.os=w.os
 tape:w'.tape=w.tape
 output:w'.output=w.output
 size:w.heap.size<=w'.heap.size
 ro:∀b,¬Z b->b<w.heap.size->(γ.o b=0∨γ.o b=3)->γ'.o b=γ.o b∧w'.heap[b]? =w.heap[b]?
 back:∀b,¬Z b->b<w'.heap.size->(γ'.o b=0∨γ'.o b=3)->b<w.heap.size∧γ.o b=γ'.o b
 gk:∀i,i<2000->γ'.g i=γ.g i
def fW.of(h:Rx.Frame γ w γ' w'):fW Z γ w γ' w':=⟨h.os,h.tape,h.output,h.size,λb _=>h.ro b,λb _=>h.back b,h.gk⟩
def fW.trans(h:fW Z γ w γ' w')(k:fW Z γ' w' B6 uQ):fW Z γ w B6 uQ:=by
 refine⟨k.os.trans h.os,k.tape.trans h.tape,k.output.trans h.output,lK h.size k.size,λb hz hb hc=>?_,λb hz hb hc=>?_,λi hi=>(k.gk i hi).trans (h.gk i hi)⟩
 ·obtain⟨h1,h2⟩:=h.ro b hz hb hc;obtain⟨k1,k2⟩:=k.ro b hz (Fs hb h.size) (by rw[h1];exact hc);exact⟨k1.trans h1,k2.trans h2⟩
 ·obtain⟨k1,k2⟩:=k.back b hz hb hc;obtain⟨h1,h2⟩:=h.back b hz k1 (by rw[k2];exact hc);exact⟨h1,h2.trans k2⟩
def fW.frame(h:fW Z γ w γ' w')(h1:∀b,Z b->w.heap.size<=b∨(γ.o b≠0∧γ.o b≠3))(h2:∀b,Z b->γ'.o b=2):Rx.Frame γ w γ' w':=⟨⟨h.os,h.tape,h.output,h.size,λb hb hc=>h.ro b (λhz=>by have:=h1 b hz;omega) hb hc,λb hb hc=>h.back b (λhz=>by rw[h2 b hz]at hc;omega) hb hc⟩,h.gk⟩
open Classical in
def eI(γ:Gh D)(Z:Nat->Prop)(c:Nat):Gh D:=⟨λb=>if Z b then c else γ.o b,γ.g,γ.v⟩
def gL{c b:Nat}(h:Z b):(eI γ Z c).o b=c:=by simp[eI,h]
def mo{c b:Nat}(h:¬Z b):(eI γ Z c).o b=γ.o b:=by simp[eI,h]
structure WZ(Z:Nat->Prop)(w w':ax):Prop where
 os:w'.os=w.os
 tape:w'.tape=w.tape
 output:w'.output=w.output
 size:w.heap.size<=w'.heap.size
 same:∀b,¬Z b->b<w.heap.size->w'.heap[b]? =w.heap[b]?
 new:∀b,b<w'.heap.size->b<w.heap.size∨Z b
def WZ.mono{Z':Nat->Prop}(h:WZ Z w w')(hs:∀b,Z b->Z' b):WZ Z' w w':=⟨h.os,h.tape,h.output,h.size,λb hb=>h.same b λhz=>hb (hs b hz),λb hb=>(h.new b hb).imp id (hs b)⟩
def fW.mono{Z':Nat->Prop}(h:fW Z γ w γ' w')(hs:∀b,Z b->Z' b):fW Z' γ w γ' w':=⟨h.os,h.tape,h.output,h.size,λb hb=>h.ro b λhz=>hb (hs b hz),λb hb=>h.back b λhz=>hb (hs b hz),h.gk⟩
def WZ.refl(Z:Nat->Prop)(w:ax):WZ Z w w:=⟨rfl,rfl,rfl,bw _,λ_ _ _=>rfl,λ_ h=> .inl h⟩
def WZ.put{l:Nat}{o:Obj}(h:Z l):WZ Z w (w.putObj l o):=⟨rfl,rfl,rfl,by simp,λb hb _=>ax.putObj_heap_other λe=>hb (e▸h),λb hb=> .inl (by simpa using hb)⟩
def fW.wz{c:Nat}(h:WZ Z w w'):fW Z γ w (eI γ Z c) w':=⟨h.os,h.tape,h.output,h.size,λb hz hb _=>⟨mo hz,h.same b hz hb⟩,λb hz hb _=>⟨(h.new b hb).resolve_right hz,(mo hz).symm⟩,λ_ _=>rfl⟩
def Kn.wz{σ:S D}{L:List (Nat×ah)}{c:Nat}(hk:Kn σ γ w L)(hc:c=2∨c=3)(hZ:∀b,Z b->b<w.heap.size->γ.o b=2∨γ.o b=3)(h:WZ Z w w'):Kn σ (eI γ Z c) w' L:=by
 have fx:jg (λi=>i<σ.nx) (λi=>i<σ.nx) γ w (eI γ Z c) w':=⟨λ_ h=>h,λ_ _=>rfl,λ_ _=>rfl,λb hb aU=>by
  have hz:¬Z b:=λhz=>by have:=hZ b hz hb;omega
  exact⟨mo hz,h.same b hz hb⟩⟩
 refine⟨hk.sr.db fx,⟨λi x hx=>?_,λb hb=>?_,hk.ob.ro⟩,hk.cI⟩
 ·obtain⟨h1,h2,h3⟩:=hk.ob.ob i x hx;refine⟨h1,h2,h3.db fx h2 λb hb MZ=>?_⟩;have hz:¬Z b:=λhz=>by have:=hZ b hz hb;omega
  exact⟨mo hz,h.same b hz hb⟩
 ·have:=hk.cI;by_cases hz:Z b
  ·rw[gL hz];show c<σ.nx;omega
  ·rw[mo hz];exact hk.ob.cl b ((h.new b hb).resolve_right hz)
def uw(wr:List Nat)(σ:S D):S D:={σ with sl:=σ.sl.filter λp=> !(bM wr p.1)}
def Bt{wr:List Nat}{σ:S D}{t:Nat}:aE (uw wr σ).sl t=if t∈wr then none else aE σ.sl t:=by
 have:=Ah (f:=λt=> !(bM wr t)) (l:=σ.sl) (t:=t);unfold uw;simp only;rw[this];by_cases h:t∈wr
 ·rw[et.2 h];simp[h]
 ·have:bM wr t=ai:=by
   cases hm:bM wr t with
   |true=>exact(h (et.1 hm)).elim
   |false=>rfl
  rw[this];simp[h]
def Kn.drop{σ:S D}{L:List (Nat×ah)}(h:Kn σ γ w L)(wr:List Nat):Kn (uw wr σ) γ w L:=
 ⟨λt x hx=>by
   rw[Bt]at hx;split at hx
   ·cases hx
   ·exact h.sr t x hx,h.ob,h.cI⟩
def Kn.C5{σ:S D}{L L':List (Nat×ah)}(h:Kn σ γ w L)(hs:∀t x v,aE σ.sl t=aa x->Dp.look L t=aa v->Dp.look L' t=aa v):Kn σ γ w L':=
 ⟨λt x hx=>by obtain⟨v,h1,h2⟩:=h.sr t x hx;exact⟨v,hs t x v hx h1,h2⟩,h.ob,h.cI⟩
def GV{σ ρ:Type}{step:σ->Option (σ⊕ρ)}{N:Nat}{s:σ}{r:ρ}(h:nB step N s=aa r):∃N' y,N=N'+1∧step s=aa y∧((∃s',y= .inl s'∧nB step N' s'=aa r)∨y= .inr r):=by
 cases N with
 |zero=>cases h
 |succ N'=>
  rw[Ma]at h;cases hs:step s with
  |none=>rw[hs]at h;cases h
  |some y=>
   rw[hs]at h;cases y with
   |inl s'=>exact⟨N',_,rfl,rfl,.inl ⟨s',rfl,h⟩⟩
   |inr r'=>cases h;exact⟨N',_,rfl,rfl,.inr rfl⟩
def aek(Z:Nat->Prop)(W W':ax):Nat->Prop:=λb=>Z b∨(W.heap.size<=b∧b<W'.heap.size)
structure PJ(Z:Nat->Prop)(W:ax)(Z':Nat->Prop)(W':ax):Prop where
 wz:WZ Z' W W'
 sub:∀b,Z b->Z' b
 new:∀b,Z' b->Z b∨(W.heap.size<=b∧b<W'.heap.size)
structure Xr(Z:Nat->Prop)(W W':ax):Prop where
 os:W'.os=W.os
 tape:W'.tape=W.tape
 output:W'.output=W.output
 size:W.heap.size<=W'.heap.size
 same:∀b,Z b->b<W.heap.size->W'.heap[b]? =W.heap[b]?
def td(fc:Gh D)(w0:ax)(Z:Nat->Prop)(γ:Gh D)(W:ax):Prop:=(∀b,Z b->b<W.heap.size∧γ.o b≠0∧γ.o b≠3)∧∀b,b<W.heap.size->¬Z b->γ.o b=3∨(γ.o b=0∧b<w0.heap.size∧fc.o b=0)
def td.step{fc aP bf:Gh D}{w0 W1 W2:ax}(h:td fc w0 Z aP W1)(hf:Rx.Frame aP W1 bf W2):td fc w0 (aek Z W1 W2) bf W2∧PJ Z W1 (aek Z W1 W2) W2:=by
 have hs:=hf.size;refine⟨⟨λb hb=>?_,λb hb hz=>?_⟩,⟨⟨hf.os,hf.tape,hf.output,hf.size,λb hz hb=>?_,λb hb=>?_⟩,λb hb=> .inl hb,λb hb=>hb⟩⟩
 ·rcases hb with hb|⟨h1,h2⟩
  ·obtain⟨k1,k2,k3⟩:=h.1 b hb;have hn:¬(bf.o b=0∨bf.o b=3):=λhc=>by have:=(hf.back b (by omega) hc).2;omega
   exact⟨by omega,λe=>hn (.inl e),λe=>hn (.inr e)⟩
  ·have hn:¬(bf.o b=0∨bf.o b=3):=λhc=>by
    have:=(hf.back b h2 hc).1;omega
   exact⟨h2,λe=>hn (.inl e),λe=>hn (.inr e)⟩
 ·have A_:b<W1.heap.size:=by
   rcases Nat.lt_or_ge b W1.heap.size with h1|h1
   ·exact h1
   ·exact(hz (.inr ⟨h1,hb⟩)).elim
  have wP:¬Z b:=λh=>hz (.inl h);rcases h.2 b A_ wP with h1|⟨h1,h2,h3⟩
  ·exact .inl ((hf.ro b A_ (.inr h1)).1.trans h1)
  ·exact .inr ⟨(hf.ro b A_ (.inl h1)).1.trans h1,h2,h3⟩
 ·have wP:¬Z b:=λh=>hz (.inl h);rcases h.2 b hb wP with h1|⟨h1,_⟩
  ·exact(hf.ro b hb (.inr h1)).2
  ·exact(hf.ro b hb (.inl h1)).2
 ·rcases Nat.lt_or_ge b W1.heap.size with h1|h1
  ·exact .inl h1
  ·exact .inr (.inr ⟨h1,hb⟩)
def td.other{fc aP:Gh D}{w0 W W':ax}{σ:S D}{L:List (Nat×ah)}(h:td fc w0 Z aP W)(hk:Kn σ aP W L)(hy:Xr (λb=>Z b∨(b<w0.heap.size∧fc.o b=0)) W W'):∃bf,Kn σ bf W' L∧td fc w0 Z bf W'∧bf.g=aP.g:=by
 obtain⟨Zn,HP⟩:∃Zn:Nat->Prop,Zn=λb=>¬Z b∧¬(b<W.heap.size∧aP.o b=0):=⟨_,rfl⟩;have eK:=hy.size;refine⟨eI aP Zn 3,hk.wz (.inr rfl) (λb hz hb=>?_) ⟨hy.os,hy.tape,hy.output,hy.size,λb hz hb=>?_,λb hb=>?_⟩,⟨λb hb=>?_,λb hb hz=>?_⟩,rfl⟩
 ·rw[HP]at hz;rcases h.2 b hb hz.1 with h1|⟨h1,_⟩
  ·exact .inr h1
  ·exact(hz.2 ⟨hb,h1⟩).elim
 ·refine hy.same b ?_ hb;rw[HP]at hz;by_cases h1:Z b
  ·exact .inl h1
  ·rcases h.2 b hb h1 with h2|⟨h2,h3,h4⟩
   ·exact(hz ⟨h1,λh3=>by omega⟩).elim
   ·exact .inr ⟨h3,h4⟩
 ·rcases Nat.lt_or_ge b W.heap.size with h1|h1
  ·exact .inl h1
  ·refine .inr ?_;rw[HP];exact⟨λhz=>by have:=(h.1 b hz).1;omega,λh2=>by omega⟩
 ·obtain⟨k1,k2,k3⟩:=h.1 b hb;have hn:¬Zn b:=by rw[HP];exactλh=>h.1 hb
  rw[mo hn];exact⟨by omega,k2,k3⟩
 ·by_cases hn:Zn b
  ·exact .inl (gL hn)
  ·rw[mo hn];rw[HP]at hn;by_cases h1:b<W.heap.size∧aP.o b=0
   ·exact h.2 b h1.1 hz
   ·exact(hn ⟨hz,h1⟩).elim
structure It(D:Nat->Type)where
 f:Nat
 ins:List Ht
 args:List PC
 el:Nat
 fn:HH D ins->Option (List (D el))
def nt(l:Nat):ah:= .func (.yield l) #[] #[]
structure BV(P:cP)(T:bb D)(c:It D):Prop where
 Vl:∀(args:Array ah) (w:ax),(callFunc c.f args).run P w= .ok (.enter c.f args) w
 lt:dx c.f 1000000=ab
 flat:(T.lv c.el).all jG=ab
 run:∀(h:HH D c.ins) (xs:List (D c.el)),c.fn h=aa xs->∀as,gX T (dE T c.ins h) aa id 1100 c.args=aa as->
  ∀(γ:Gh D) (w:ax) (l:Nat) (vs:List ah),jf U0 γ w as vs->OB U0 γ w []->(∀b,b<w.heap.size->γ.o b=0∨γ.o b=3)->
  ∀(Inv:Nat->(Nat->Prop)->ax->Prop) (R:(Nat->Prop)->ax->Prop),Inv 0 (λ_=>False) w->
   (∀m Z W Z' W',Inv m Z W->PJ Z W Z' W'->Inv m Z' W')->(∀Z W Z' W',R Z W->PJ Z W Z' W'->R Z' W')->(∀Z W,Inv xs.length Z W->R Z W)->
   (∀m Z W y cs,Inv m Z W->xs[m]? =aa y->(∀S w',ad.rd S w' cs y)->YieldAt Fence.wide 0 P l #[pack (ad.agg (D c.el)) cs] W (mb λv W'=>Xr (λb=>Z b∨(b<w.heap.size∧γ.o b=0)) W W'∧((v= .bool ab∧Inv (m+1) Z W')∨(v= .bool ai∧R Z W'))))->
   Calls P c.f (nt l::vs).toArray w (mb λ_ w'=>∃Z,R Z w')
def S5(R0 R1:bL)(b0 b1 r2 r3 r4 r5 tc d3:Nat)(o2 o3 o4 o5:List aS):bL:=.seq R0 (.seq R1 (.block b0 (.loop (.seq (.region r2 o2.toArray ai) (.seq (.cond (.tmp tc) .skip (.exit b0)) (.seq (.block b1 (.seq (.region r3 o3.toArray ai) (.seq (.region r4 o4.toArray ab) (.cond (.tmp d3) .ret .skip)))) (.region r5 o5.toArray ai)))))))
def GZ(fs ys d1 d2 d3 gi gs:Nat)(ats:Array aX)(tb:aX)(pos:String)(a1 a2 a3:Array Edge):List aS:=[⟨aa d1,.call {callee:= .value (.tmp fs),args:= #[.tmp ys],argTypes:=ats},tb,pos,a1,aa (gi,ab)⟩,⟨aa d2,.unOp .not tb (.tmp d1),tb,pos,a2,aa (gi,ab)⟩,⟨aa d3,.pick (.tmp gs) (.tmp d2) (.const (.bool ai)),tb,pos,a3,none⟩]
def fm:List (A1 D)->Option (List (DV D))
 |[]=>aa []
 | .v l d _ _::r=>match fm r with
   |some x=>aa (⟨l,d⟩::x)
   |none=>none
 |_=>none
def Vm(T:bb D)(n:Nat):AC D->Option (D n)
 | .agg l=>if T.ag n then(match fm l with
   |some ds=>T.iU n ds
   |none=>none)else none
 |_=>none
@[reducible] def snoc {α:Type} (xs:List α) (y:α):List α:=xs++[y]
def ov(σ:S D)(j:J):List Nat:=(kept σ j.mv).map bS++σ.lk
def Aq(T:bb D)(Φ:List (az D))(o5:List aS)(dr:List Nat)(j:J){n:Nat}(acc:List (D n))(σ:S D):Option ((HH D j.cL×List (D n))⊕List (D n)):=ja T Φ o5 o5 0 (uw dr σ) [] λq7 _=>qE T j q7 λh'=>aa (.inl (h',acc))
def Dt(T:bb D)(Φ:List (az D))(n:Nat)(o2 o3 pre o5:List aS)(tc fs ys gs:Nat)(wr dr:List Nat)(j:J)(aM:S D)(s:HH D j.cL×List (D n)):Option ((HH D j.cL×List (D n))⊕List (D n)):=match lu T j wr j.mv aM s.1 with
 |none=>none
 |some ci=>ja T Φ o2 o2 0 {ci with lk:=ov aM j} [] λbH _=>match aE bH.sl tc with
  |some (.c (.one (.v .bool d _ _)))=>Ev d (ja T Φ o3 o3 0 bH [] λoX _=>ja T Φ pre pre 0 oX [] λn9 lg=>match ye (je pre []) lg with
   |true=>match aE n9.sl gs with
    |some (.c (.one (.v .bool d _ _)))=>Ev d (match aE n9.sl fs,aE n9.sl ys with
      |some (.c (.one (.own i))),aa (.c a)=>if aT i 1999 then(match Vm T n a with
       |some y=>Aq T Φ o5 dr j (snoc s.2 y) n9
       |none=>none)else none
      |_,_=>none) (Aq T Φ o5 dr j s.2 n9)
    |_=>none
   |false=>none) (aa (.inr s.2))
  |_=>none
def S3(T:bb D)(Φ:List (az D))(c:It D)(R0 R1:bL)(o2 o3 pre o5:List aS)(tc fs ys gs:Nat)(wr dr:List Nat)(j:J)(a0 a1:An)(h:HH D c.ins):Option (List (D c.el)):=
 match gX T (dE T c.ins h) aa id 1100 c.args with
 |none=>none
 |some as=>fQ T Φ R0 a0 ⟨(0,.c (.one (.own 1999)))::EW 1 as,[],2000,[]⟩ λo fb=>match o with
  | .normal=>fQ T Φ R1 a1 fb λo aM=>match o with
    | .normal=>qE T j {aM with lk:=ov aM j} λh0=>aI (Dt T Φ c.el o2 o3 pre o5 tc fs ys gs wr dr j aM) (h0,[])
    |_=>none
  |_=>none
def S4{o5:List aS}{dr:List Nat}{j:J}{n:Nat}{acc:List (D n)}{σ:S D}{x:(HH D j.cL×List (D n))⊕List (D n)}(h:Aq T Φ o5 dr j acc σ=aa x):∃h',x= .inl (h',acc):=by unfold Aq at h;obtain⟨_,kE,_,_,h1⟩:=trace h (pM.mk (λ_=>rfl) rfl rfl rfl);obtain⟨h',_,h2⟩:=sQ h1;exact⟨h',(jM h2).symm⟩
def ab5{n:Nat}{o2 o3 pre o5:List aS}{tc fs ys gs:Nat}{wr dr:List Nat}{j:J}{aM:S D}{s:HH D j.cL×List (D n)}{x:(HH D j.cL×List (D n))⊕List (D n)}(h:Dt T Φ n o2 o3 pre o5 tc fs ys gs wr dr j aM s=aa x):
  (∃h',x= .inl (h',s.2))∨(∃h' y,x= .inl (h',s.2++[y]))∨x= .inr s.2:=by
 unfold Dt at h
 split at h
 case h_1=>cases h
 obtain⟨_,bH,_,_,h1⟩:=trace h (pM.mk (λ_=>rfl) rfl rfl rfl)
 split at h1
 case h_2=>cases h1
 rcases yR h1 with⟨_,h1⟩|⟨_,h1⟩
 ·obtain⟨_,oX,_,_,h2⟩:=trace h1 (pM.mk (λ_=>rfl) rfl rfl rfl);obtain⟨_,n9,_,_,h3⟩:=trace h2 (pM.mk (λ_=>rfl) rfl rfl rfl);split at h3
  case h_2=>cases h3
  split at h3
  case h_2=>cases h3
  rcases yR h3 with⟨_,h3⟩|⟨_,h3⟩
  ·split at h3
   case h_2=>cases h3
   split at h3
   case isFalse=>cases h3
   split at h3
   case h_2=>cases h3
   rename_i y _;obtain⟨h',e⟩:=S4 h3;exact .inr (.inl ⟨h',y,e⟩)
  ·obtain⟨h',e⟩:=S4 h3;exact .inl ⟨h',e⟩
 ·exact .inr (.inr (jM h1).symm)
def arU{n:Nat}{o2 o3 pre o5:List aS}{tc fs ys gs:Nat}{wr dr:List Nat}{j:J}{aM:S D}{xs:List (D n)}:∀{N:Nat} {s:HH D j.cL×List (D n)},nB (Dt T Φ n o2 o3 pre o5 tc fs ys gs wr dr j aM) N s=aa xs->∃t,xs=s.2++t:=by
 intro N;induction N with
 |zero=>intro s h;cases h
 |succ N ih=>
  intro s h;rw[Ma]at h;split at h
  ·rename_i s' hs;obtain⟨t,ht⟩:=ih h;rcases ab5 hs with⟨h',e⟩|⟨h',y,e⟩|e
   ·cases e;exact⟨t,ht⟩
   ·cases e;exact⟨y::t,by rw[ht];simp⟩
   ·cases e
  ·rename_i r hs;cases h;rcases ab5 hs with⟨h',e⟩|⟨h',y,e⟩|e
   ·cases e
   ·cases e
   ·cases e;exact⟨[],by simp⟩
  ·cases h
def Ml:PC->Bool
 | .one (.rp _ _ _)=>ab
 |_=>ai
def aaq{γ γ':Gh D}{w:ax}{U U':Nat->Prop}(ho:γ'.o=γ.o){fl:List (DV D)}{tg:Nat}:∀{ps:List PC} {as:List (AC D)} {vs:List ah},ps.all Ml=ab->gX T fl aa id tg ps=aa as->jf U γ w as vs->jf U' γ' w as vs
 |[],as,vs,_,h,hv=>by
  cases h;cases vs with
  |nil=>trivial
  |cons _ _=>exact hv.elim
 |p::ps,as,vs,hp,h,hv=>by
  simp only[List.all_cons,bq]at hp;simp only[gX]at h;split at h
  case h_2=>cases h
  rename_i a1 a2 g1 g2;cases h;cases vs with
  |nil=>exact hv.elim
  |cons v vs=>
   refine⟨?_,aaq ho hp.2 g2 hv.2⟩;have vm:=hv.1;have yu:=hp.1;unfold Ml at yu;split at yu
   case h_2=>cases yu
   simp only[vi,iV]at g1;split at g1
   case h_2=>cases g1
   rename_i a3 h0;cases g1;split at h0
   case h_2=>cases h0
   cases h0;obtain⟨pa,e1,e2,e3⟩:=vm;exact⟨pa,e1,by rw[ho];exact e2,e3⟩
def aeM{U:Nat->Prop}:∀{l:List (A1 D)} {us:List ah} {ds:List (DV D)},fm l=aa ds->c_ U γ w l us->(ds.map DV.l).all jG=ab->∀(S:Nat->Prop) (w':ax),cm S w' us ds
 |[],us,ds,h,hv,_,S,w'=>by
  cases h;cases us with
  |nil=>trivial
  |cons _ _=>exact hv.elim
 |a::l,us,ds,h,hv,eH,S,w'=>by
  cases us with
  |nil=>cases a<;>exact hv.elim
  |cons u us=>
   unfold fm at h;split at h
   case h_1 e=>cases e
   case h_3=>cases h
   rename_i lf d K g r e;cases e;split at h
   case h_2=>cases h
   rename_i x hx;cases h;simp only[gu,List.all_cons,bq]at eH;exact⟨dA.flat eH.1 hv.1.1,aeM hx hv.2 eH.2 S w'⟩
def axx(hR:cE T){U:Nat->Prop}{n:Nat}{a:AC D}{y:D n}{v:ah}(h:Vm T n a=aa y)(eH:(T.lv n).all jG=ab)(hv:nk U γ w a v):∃us,v=pack (ad.agg (D n)) us∧∀S w',ad.rd S w' us y:=by
 unfold Vm at h;split at h
 case h_2=>cases h
 split at h
 case isFalse=>cases h
 rename_i HO;split at h
 case h_2=>cases h
 rename_i ds hds;obtain⟨us,rfl,h2⟩:=hv;refine⟨us,by unfold pack;rw[hR.ag,aG HO],λS w'=>(hR.rd n S w' us y).2 ?_⟩;have e:=hR.iU h;rw[e];refine aeM hds h2 ?_ S w';rw[<-e];unfold bb.out;rw[Sn];exact eH
def arS(hP:dQ P T)(hR:cE T)(cK:∀c∈Φ,fK P T c)(hm:P.follows .mixedOrders=ab){c:It D}{fn:Func}{R0 R1:bL}{b0 b1 r2 r3 r4 r5 tc d1 d2 d3 fs ys gi gs:Nat}{o2 o3 pre o5:List aS}{ats:Array aX}{tb:aX}{pos:String}{e1 e2 e3:Array Edge}{wr:List Nat}{j:J}{a0 a1:An}
  (jT:∀(args:Array ah) (w:ax),(callFunc c.f args).run P w= .ok (.enter c.f args) w)
  (hf:P.funcs[c.f]? =aa fn) (hb:fn.body=aa (S5 R0 R1 b0 b1 r2 r3 r4 r5 tc d3 o2 o3 (pre++GZ fs ys d1 d2 d3 gi gs ats tb pos e1 e2 e3) o5)) (sx:fn.results= #[])
  (bU:(dx c.f 1000000&&(T.lv c.el).all jG&&c.args.all Ml&&ef (c.args.length+1) fn.ntmps&&gz R0&&iT R0&&gz R1&&iT R1&&(writes R0++writes R1++wr).all (λt=>dx t fn.ntmps)&&
    (d1::d2::d3::(dstsOf o2++dstsOf o3++dstsOf pre++dstsOf o5)).all (bM wr)&&Ez pre (GZ fs ys d1 d2 d3 gi gs ats tb pos e1 e2 e3)&&xI pre (je pre []) 0 pre []&&
    (match pre[gi]? with|some o=>(match o.dst with|some d=>aT d gs|none=>ai)|none=>ai)&& !(aT d1 gs)&& !(aT d2 gs))=ab)
  (rD:∀h,S3 T Φ c R0 R1 o2 o3 pre o5 tc fs ys gs wr [d1,d2,d3] j a0 a1 h=c.fn h):BV P T c:=by
 simp only[bq,Bool.not_eq_true']at bU
 obtain⟨⟨⟨⟨⟨⟨⟨⟨⟨⟨⟨⟨⟨⟨s1,s2⟩,s3⟩,s4⟩,s5⟩,s6⟩,s7⟩,s8⟩,s9⟩,s10⟩,s11⟩,s12⟩,Gr⟩,s14⟩,s15⟩:=bU
 refine⟨jT,s1,s2,λh xs hx as has γ w l vs hv bG cY Inv R D1 Ba aDo auC hstep=>?_⟩
 rw[<-rD]at hx
 unfold S3 at hx
 rw[has]at hx
 dsimp only at hx
 obtain⟨og,Hk,wW⟩:∃og,(pre++GZ fs ys d1 d2 d3 gi gs ats tb pos e1 e2 e3).toArray[gi]? =aa og∧og.dst=aa gs:=by
  split at Gr
  case h_2=>cases Gr
  rename_i o ho;split at Gr
  case h_2=>cases Gr
  rename_i d hd;have:=bA Gr;subst this;have aU:=(gH.1 ho).1;refine⟨o,?_,hd⟩;rw[List.getElem?_toArray,List.getElem?_append_left aU];exact ho
 have adf:d1≠gs:=λe=>by subst e;simp at s14
 have TW:d2≠gs:=λe=>by subst e;simp at s15
 have aU:∀t∈writes R0++writes R1++wr,dx t fn.ntmps=ab:=λt ht=>dR.1 s9 t ht
 have atw:∀t∈writes R0,Rd.eX Rd.plain fn.ntmps t=ab:=λt ht=>by unfold Rd.eX;rw[aU t (by simp[ht])];rfl
 have atv:∀t∈writes R1,Rd.eX Rd.plain fn.ntmps t=ab:=λt ht=>by unfold Rd.eX;rw[aU t (by simp[ht])];rfl
 have sE:∀t,bM wr t=ab->Rd.eX Rd.plain fn.ntmps t=ab:=λt ht=>by unfold Rd.eX;rw[aU t (bz.2 (.inr (et.1 ht)))];rfl
 have gD:∀t∈d1::d2::d3::(dstsOf o2++dstsOf o3++dstsOf pre++dstsOf o5),bM wr t=ab:=λt ht=>dR.1 s10 t ht
 have fP:∀t∈dstsOf o2,bM wr t=ab:=λt ht=>gD t (by simp[ht])
 have tW:∀t∈dstsOf o3,bM wr t=ab:=λt ht=>gD t (by simp[ht])
 have hw4:∀t∈dstsOf pre,bM wr t=ab:=λt ht=>gD t (by simp[ht])
 have hw5:∀t∈dstsOf o5,bM wr t=ab:=λt ht=>gD t (by simp[ht])
 have Ts:=gD d1 (by simp)
 have Mt:=gD d2 (by simp)
 have Ms:=gD d3 (by simp)
 obtain⟨B5,acw⟩:∃B5:Gh D,B5=⟨γ.o,λi=>if i=1999 then nt l else γ.g i,γ.v⟩:=⟨_,rfl⟩
 have hgy:B5.g 1999=nt l:=by rw[acw];show(if 1999=1999 then nt l else γ.g 1999)=nt l;exact aG rfl
 have MG:B5.o=γ.o:=by rw[acw]
 have mD:Kn ⟨(0,.c (.one (.own 1999)))::EW 1 as,[],2000,[]⟩ B5 w (sZ 0 (nt l::vs)):=by refine⟨SR.cons (O4 (k:=1) (aaq MG s3 has hv)) ⟨by show 1999<2000;omega,hgy.symm,rfl⟩,⟨λi x hx=>by simp[dt,aE]at hx,λb hb=>by rw[MG];exact bG.cl b hb,bG.ro⟩,bw _⟩
 have aa9:td γ w (λ_=>False) B5 w:=⟨λb h=>h.elim,λb hb _=>by rw[MG];exact(cY b hb).elim (λh=> .inr ⟨h,hb,h⟩) .inl⟩
 have adM:∀{Z:Nat->Prop} {W:ax} {L:List (Nat×ah)},R Z W->NK fn.ntmps (bodyPost P fn (mb λ_ w'=>∃Z,R Z w') .ret) L W∧NK fn.ntmps (bodyPost P fn (mb λ_ w'=>∃Z,R Z w') .normal) L W:=λhr=>aB' sx rfl λ_=>⟨_,hr⟩
 refine enter (n:=fn.ntmps) (l:=nt l::vs) hf hb rfl ?_ ?_
 ·rw[List.length_cons,hv.len,Dv has];exact s4
 unfold S5
 refine CW.seq λKa hKa=>?_
 refine sV hP hR cK hm R0 a0 s5 (.inl rfl) (Lb.none s6) hx atw mD λo fb fc w0 L0 m1 m2 m3 m4=>?_
 cases o with
 |exit id=>cases m4
 |goto l=>cases m4
 |ret=>cases m4
 |normal=>
 obtain⟨aa8,ZP⟩:=aa9.step m2
 have hI1:=Ba _ _ _ _ _ D1 ZP
 have yA:=(m2.gk 1999 (by omega)).trans hgy
 refine hKa _ _ ?_
 dsimp only at m4
 refine CW.seq λKb hKb=>?_
 refine sV hP hR cK hm R1 a1 s7 (.inl rfl) (Lb.none s8) m4 atv m1 λo aM aP w1 L1 n1 n2 n3 n4=>?_
 cases o with
 |exit id=>cases n4
 |goto l=>cases n4
 |ret=>cases n4
 |normal=>
 obtain⟨ap6,ZO⟩:=aa8.step n2
 have hI2:=Ba _ _ _ _ _ hI1 ZO
 have hg2:=(n2.gk 1999 (by omega)).trans yA
 refine hKb _ _ ?_
 dsimp only at n4
 clear m1 m2 m3 m4 hKa hKb aa9 aa8 D1 hI1 yA ZP ZO n2 n3
 obtain⟨h0,pu,yw⟩:=sQ n4
 refine CW.block ?_
 obtain⟨step,TD⟩:∃step,step=Dt T Φ c.el o2 o3 pre o5 tc fs ys gs wr [d1,d2,d3] j aM:=⟨_,rfl⟩
 rw[<-TD]at yw
 have head:∀{s:HH D j.cL×List (D c.el)} {q7:S D} {jj:Gh D} {W:ax} {L5:List (Nat×ah)} {Z:Nat->Prop},Kn q7 jj W L5->cg wr {aM with lk:=ov aM j} q7->zh T j q7 s.1->td γ w Z jj W->Inv s.2.length Z W->jj.g 1999=nt l->∀ci,lu T j wr j.mv aM s.1=aa ci->
   ∃gy Z,Kn ci gy W L5∧td γ w Z gy W∧Inv s.2.length Z W∧gy.g 1999=nt l∧cg wr {aM with lk:=ov aM j} {ci with lk:=ov aM j}:=by
  intro s q7 jj W L5 Z k1 k2 k3 k4 k5 k6 ci hi
  obtain⟨bf,q1,q2,q3,_⟩:=Ap hR rfl n1 k1 k2 k3 hi
  obtain⟨t1,t2⟩:=k4.step q2
  exact⟨bf,_,q1,t1,Ba _ _ _ _ _ k5 t2,(q2.gk 1999 (by omega)).trans k6,q3⟩
 refine CW.loop step (λs L W=>(∃N,nB step N s=aa xs)∧∀ci,lu T j wr j.mv aM s.1=aa ci->∃gy Z,Kn ci gy W L∧td γ w Z gy W∧Inv s.2.length Z W∧gy.g 1999=nt l∧cg wr {aM with lk:=ov aM j} {ci with lk:=ov aM j}) (abK yw) ⟨⟨_,yw⟩,head (n1.lk _) (cg.refl _ _) pu ap6 hI2 hg2⟩ ?_
 rintro K s L' W ⟨⟨N,hN⟩,hinv⟩ x AD DC yt
 obtain⟨N',y',_,wT,t_⟩:=GV hN
 rw[AD]at wT
 cases wT
 have aC4:=AD
 rw[TD]at AD
 unfold Dt at AD
 split at AD
 case h_1=>cases AD
 rename_i ci mU
 obtain⟨gy,Z,k1,k2,k3,k4,k5⟩:=hinv ci mU
 have tail:∀{Q':Exit->Act->ax->Prop} {acc:List (D c.el)} {n9:S D} {jj:Gh D} {W5:ax} {L4:List (Nat×ah)} {Z:Nat->Prop} {v1 v2 v3:ah},Aq T Φ o5 [d1,d2,d3] j acc n9=aa x->Kn n9 jj W5 L4->td γ w Z jj W5->Inv acc.length Z W5->jj.g 1999=nt l->cg wr {aM with lk:=ov aM j} n9->
   CW P fn.ntmps (.region r5 o5.toArray ai) (Exit.then K Q') ((d3,v3)::(d2,v2)::(d1,v1)::L4) W5:=by
  intro Q' acc n9 jj W5 L4 Z v1 v2 v3 hi t1 t2 t3 t4 t5
  have vw:Kn (uw [d1,d2,d3] n9) jj W5 ((d3,v3)::(d2,v2)::(d1,v1)::L4):=(t1.drop _).C5 λt y v hy hv=>by
   rw[Bt]at hy;split at hy
   case isTrue=>cases hy
   rename_i hn;simp only[cr,jN,kB,not_or]at hn;rw[gW _ _ (Ne.symm hn.2.2),gW _ _ (Ne.symm hn.2.1),gW _ _ (Ne.symm hn.1)];exact hv
  have hed:cg wr {aM with lk:=ov aM j} (uw [d1,d2,d3] n9):=t5.trans ⟨λt ht=>by
   rw[Bt,aK];intro hm;simp only[cr,jN,kB]at hm;rcases hm with rfl|rfl|rfl
   ·exact ht (et.1 Ts)
   ·exact ht (et.1 Mt)
   ·exact ht (et.1 Ms),rfl,λ_ _=>rfl,bw _⟩
  unfold Aq at hi
  refine CW.region (sW hP hR cK hi (λt ht=>sE t (hw5 t ht)) vw λq7 _ γ6 w6 L6 u1 u2 u3 u4=>?_)
  obtain⟨h',dX,e⟩:=sQ u4
  have e:=(jM e).symm
  obtain⟨t6,t7⟩:=t2.step u2
  refine yt (h',acc) L6 w6 e ⟨⟨N',?_⟩,head u1 (hed.trans (u3.mono λt ht=>et.1 (hw5 t ht))) dX t6 (Ba _ _ _ _ _ t3 t7) ((u2.gk 1999 (by omega)).trans t4)⟩
  rcases t_ with⟨s',q1,q2⟩|q1
  ·rw[e]at q1;cases q1;exact q2
  ·rw[e]at q1;cases q1
 refine CW.seq λK2 ix=>?_
 refine CW.region (sW hP hR cK AD (λt ht=>sE t (fP t ht)) (k1.lk _) λbH lg2 bf w2 L2 m1 m2 m3 m4=>?_)
 refine ix _ _ ?_
 split at m4
 case h_2=>cases m4
 rename_i d _ _ AB
 obtain⟨vd,f1,f2⟩:=m1.sr _ _ AB
 have f2:vd= .bool d:=f2.1
 subst f2
 obtain⟨p1,p2⟩:=k2.step m2
 have rG:=Ba _ _ _ _ _ k3 p2
 have HF:=(m2.gk 1999 (by omega)).trans k4
 have hea:=k5.trans (m3.mono λt ht=>et.1 (fP t ht))
 refine CW.seq λK3 l8=>?_
 refine CW.cond f1 (λhd=>CW.skip (l8 _ _ ?_)) (λhd=>CW.exit ?_)
 ·subst hd;rcases yR m4 with⟨_,m4⟩|⟨h,_⟩
  case inr=>cases h
  refine CW.seq λK4 nN=>?_;refine CW.block ?_;refine CW.seq λK5 lB=>?_;refine CW.region (sW hP hR cK m4 (λt ht=>sE t (tW t ht)) m1 λoX lg3 jP w3 L3 n1 n2 n3 n4=>lB _ _ ?_);obtain⟨p3,p4⟩:=p1.step n2;have HZ:=Ba _ _ _ _ _ rG p4;have MP:=(n2.gk 1999 (by omega)).trans HF;have heb:=hea.trans (n3.mono λt ht=>et.1 (tW t ht));refine CW.seq λK6 D0=>?_;refine ajA hP hR cK hm s11 s12 n4 (λt ht=>sE t (hw4 t ht)) n1 λn9 γ4 w4 L4 q1 q2 q3 q4=>?_;obtain⟨p5,p6⟩:=p3.step q2;have hIc:=Ba _ _ _ _ _ HZ p6;have HE:=(q2.gk 1999 (by omega)).trans MP;have hec:=heb.trans (q3.mono λt ht=>et.1 (hw4 t ht));split at q4
  case h_2=>cases q4
  rename_i dg _ _ DO;obtain⟨vg,g1,g2⟩:=q1.sr _ _ DO;have g2:vg= .bool dg:=g2.1;subst g2;have go:∀{v1 v2:ah} {jj:Gh D} {W5:ax} {Z:Nat->Prop} {acc:List (D c.el)},Aq T Φ o5 [d1,d2,d3] j acc n9=aa x->Kn n9 jj W5 L4->td γ w Z jj W5->Inv acc.length Z W5->jj.g 1999=nt l->∀{Lx:List (Nat×ah)},Lx=(d3,.bool ai)::(d2,v2)::(d1,v1)::L4->NK fn.ntmps K6 Lx W5:=by intro v1 v2 jj W5 Z acc h1 h2 h3 h4 h5 Lx e;subst e;refine D0 _ _ (CW.cond (iH _ _ _) (λh=>by cases h) λ_=>CW.skip (nN _ _ (tail h1 h2 h3 h4 h5 hec)))
  rcases yR q4 with⟨vF,q4⟩|⟨vF,q4⟩
  ·subst vF;split at q4
   case h_2=>cases q4
   rename_i i a hfs nE;split at q4
   case isFalse=>cases q4
   rename_i hi;have hi:=bA hi;subst hi;split at q4
   case h_2=>cases q4
   rename_i y w5;obtain⟨h',G9⟩:=S4 q4;obtain⟨ve,f3,f4⟩:=q1.sr _ _ nE;obtain⟨us,rfl,sy⟩:=axx hR w5 s2 f4;obtain⟨vf,f5,f6⟩:=q1.sr _ _ hfs;have f6:vf=nt l:=f6.2.1.trans HE;subst f6;have atD:xs[s.2.length]? =aa y:=by
    rcases t_ with⟨s',t1,t2⟩|t1
    ·rw[G9]at t1;cases t1;rw[TD]at t2;obtain⟨t,ht⟩:=arU t2;rw[ht];simp
    ·rw[G9]at t1;cases t1
   refine WL.stepG Hk wW g1 (OW.yield (args:=[.tmp ys]) f5 (by simp[Dp.oH,Dp.ev,f3]) (hstep _ _ _ _ _ hIc atD sy)) (sE _ Ts) ?_;rintro v W5 ⟨nE,wV⟩;obtain⟨jj,t1,t2,t3⟩:=p5.other q1 nE;have hg5:jj.g 1999=nt l:=by rw[t3];exact HE
   have lg:Dp.look ((d1,v)::L4) gs=aa (.bool ab):=by rw[gW _ _ adf];exact g1
   rcases wV with⟨rfl,hI5⟩|⟨rfl,hR5⟩
   ·refine WL.stepG Hk wW lg (OW.pv (v:= .bool ai) (by simp[Dp.pv,Dp.ev,iH])) (sE _ Mt) ?_;rintro _ _ ⟨rfl,rfl⟩;refine WL.v (v:= .bool ai) (by simp[Dp.pv,Dp.ev,iH,gW _ _ TW,lg]) (sE _ Ms) ?_;exact WL.nil (go q4 t1 t2 (by rw[List.length_append];exact hI5) hg5 rfl)
   ·refine WL.stepG Hk wW lg (OW.pv (v:= .bool ab) (by simp[Dp.pv,Dp.ev,iH])) (sE _ Mt) ?_;rintro _ _ ⟨rfl,rfl⟩;refine WL.v (v:= .bool ab) (by simp[Dp.pv,Dp.ev,iH,gW _ _ TW,lg]) (sE _ Ms) ?_;refine WL.nil (D0 _ _ (CW.cond (iH _ _ _) (λ_=>?_) λh=>by cases h));intro a' jV;exact wpIn_ret ((adM hR5).1 a' jV)
  ·subst vF;refine WL.Z6 Hk wW g1 (sE _ Ts) ?_;have lg:Dp.look ((d1,undef)::L4) gs=aa (.bool ai):=by rw[gW _ _ adf];exact g1
   refine WL.Z6 Hk wW lg (sE _ Mt) ?_;refine WL.v (v:= .bool ai) (by simp[Dp.pv,Dp.ev,iH,gW _ _ TW,lg]) (sE _ Ms) ?_;exact WL.nil (go q4 q1 p5 hIc HE rfl)
 ·subst hd;rcases yR m4 with⟨h,_⟩|⟨_,m4⟩
  case inl=>cases h
  have e:=jM m4;have e2:=DC s.2 e.symm;have hIe:R _ w2:=auC _ _ (by rw[<-e2];exact rG);intro a' jV;show(if b0=b0 then bodyPost P fn (mb λ_ w'=>∃Z,R Z w') .normal a' w2 else bodyPost P fn (mb λ_ w'=>∃Z,R Z w') (.exit b0) a' w2);rw[aG rfl];exact(adM hIe).2 a' jV
structure kZ where
 R0:bL
 R1:bL
 b0:Nat
 b1:Nat
 r2:Nat
 r3:Nat
 r4:Nat
 r5:Nat
 tc:Nat
 o2:List aS
 o3:List aS
 pre:List aS
 post:List aS
 o5:List aS
def Se:aZ->Nat
 | .tmp t=>t
 |_=>0
def kU(l:List aS)(k:Nat):Nat:=match l[k]? with
 |some o=>match o.dst with
  |some d=>d
  |none=>0
 |none=>0
def arV:bL->kZ
 | .seq R0 (.seq R1 (.block b0 (.loop (.seq (.region r2 o2 _) (.seq (.cond x _ _) (.seq (.block b1 (.seq (.region r3 o3 _) (.seq (.region r4 o4 _) _))) (.region r5 o5 _)))))))=>
   ⟨R0,R1,b0,b1,r2,r3,r4,r5,Se x,o2.toList,o3.toList,o4.toList.take (o4.toList.length-3),o4.toList.drop (o4.toList.length-3),o5.toList⟩
 |_=>⟨.skip,.skip,0,0,0,0,0,0,0,[],[],[],[],[]⟩
def V8(l:List aS):Option Call:=match l[0]? with
 |some o=>match o.op with
  | .call c=>aa c
  |_=>none
 |none=>none
def kZ.fs(g:kZ):Nat:=match V8 g.post with
 |some c=>match c.callee with
  | .value x=>Se x
  |_=>0
 |none=>0
def kZ.ys(g:kZ):Nat:=match V8 g.post with
 |some c=>match c.args.toList with
  |[x]=>Se x
  |_=>0
 |none=>0
def kZ.ats(g:kZ):Array aX:=match V8 g.post with
 |some c=>c.argTypes
 |none=> #[]
def kZ.gi(g:kZ):Nat:=match g.post[0]? with
 |some o=>match o.guard with
  |some (i,_)=>i
  |none=>0
 |none=>0
def kZ.gs(g:kZ):Nat:=kU g.pre g.gi
def kZ.tb(g:kZ):aX:=match g.post[0]? with
 |some o=>o.type
 |none=>0
def kZ.pos(g:kZ):String:=match g.post[0]? with
 |some o=>o.pos
 |none=> ""
def kZ.e(g:kZ)(k:Nat):Array Edge:=match g.post[k]? with
 |some o=>o.after
 |none=> #[]
def kZ.code(g:kZ):bL:=S5 g.R0 g.R1 g.b0 g.b1 g.r2 g.r3 g.r4 g.r5 g.tc (kU g.post 2) g.o2 g.o3 (g.pre++GZ g.fs g.ys (kU g.post 0) (kU g.post 1) (kU g.post 2) g.gi g.gs g.ats g.tb g.pos (g.e 0) (g.e 1) (g.e 2)) g.o5
def arX(T:bb D)(Φ:List (az D))(c:It D)(g:kZ)(wr:List Nat)(j:J)(a0 a1:An)(h:HH D c.ins):Option (List (D c.el)):=S3 T Φ c g.R0 g.R1 g.o2 g.o3 g.pre g.o5 g.tc g.fs g.ys g.gs wr [kU g.post 0,kU g.post 1,kU g.post 2] j a0 a1 h
def arT(T:bb D)(c:It D)(fn:Func)(g:kZ)(wr:List Nat):Bool:=dx c.f 1000000&&(T.lv c.el).all jG&&c.args.all Ml&&ef (c.args.length+1) fn.ntmps&&gz g.R0&&iT g.R0&&gz g.R1&&iT g.R1&&(writes g.R0++writes g.R1++wr).all (λt=>dx t fn.ntmps)&&
     (kU g.post 0::kU g.post 1::kU g.post 2::(dstsOf g.o2++dstsOf g.o3++dstsOf g.pre++dstsOf g.o5)).all (bM wr)&&Ez g.pre (GZ g.fs g.ys (kU g.post 0) (kU g.post 1) (kU g.post 2) g.gi g.gs g.ats g.tb g.pos (g.e 0) (g.e 1) (g.e 2))&&xI g.pre (je g.pre []) 0 g.pre []&&
     (match g.pre[g.gi]? with|some o=>(match o.dst with|some d=>aT d g.gs|none=>ai)|none=>ai)&& !(aT (kU g.post 0) g.gs)&& !(aT (kU g.post 1) g.gs)
def arW(hP:dQ P T)(hR:cE T)(cK:∀c∈Φ,fK P T c)(hm:P.follows .mixedOrders=ab){c:It D}{fn:Func}{g:kZ}{wr:List Nat}{j:J}{a0 a1:An}
 (jT:∀(args:Array ah) (w:ax),(callFunc c.f args).run P w= .ok (.enter c.f args) w)
 (hf:P.funcs[c.f]? =aa fn) (hb:fn.body=aa g.code) (sx:fn.results= #[]) (bU:arT T c fn g wr=ab)
 (rD:∀h,arX T Φ c g wr j a0 a1 h=c.fn h):BV P T c:=arS hP hR cK hm jT hf hb sx bU rD
def N4(K:List Nat):List (DV D)->List (A1 D)
 |[]=>[]
 |⟨l,d⟩::r=> .v l d (Ao K l) 0::N4 K r
def RO(c:bL):Bool:=gz c&&iT c&&kP c
def lG(a:Act):List (Nat×ah):=sZ 0 a.tmps.toList
def abO:∀(l:List ah) (k t:Nat) (v:ah),k<=t->l[t-k]? =aa v->Dp.look (sZ k l) t=aa v
 |[],k,t,v,_,h=>by simp at h
 |u::r,k,t,v,hk,h=>by
  unfold sZ;by_cases hkt:k=t
  ·subst hkt;rw[iH];simpa using h
  ·rw[gW _ _ hkt];refine abO r (k+1) t v (by omega) ?_;rw[show t-k=(t-(k+1))+1 by omega]at h;simpa using h
def GW{a:Act}{t:Nat}{v:ah}:Dp.look (lG a) t=aa v↔a.tmps[t]? =aa v:=by
 constructor
 ·intro h;obtain⟨_,h2⟩:=SK _ _ _ _ h;simpa using h2
 ·intro h;exact abO _ _ _ _ (Nat.zero_le _) (by simpa using h)
def Kn.all [Rd]{σ:S D}{L:List (Nat×ah)}{a:Act}(h:Kn σ γ w L)(ha:Fr n L a):Kn σ γ w (lG a):=
 ⟨λt x hx=>by obtain⟨v,h1,h2⟩:=h.sr t x hx;exact⟨v,GW.2 (ha.get t v h1),h2⟩,h.ob,h.cI⟩
def awd [Rd]{L:List (Nat×ah)}{a:Act}(ha:Fr n L a):Fr n (lG a) a:=⟨ha.size,ha.defers,λt v h=>GW.1 h,ha.fix⟩
def Td{j:J}{wr mv:List Nat}{σ bH:S D}{h:HH D j.cL}(hi:lu T j wr mv σ h=aa bH){t:Nat}{a:AV D}(ht:aE bH.sl t=aa a):(t∈j.sl.map bS∧t∈wr)∨t∉wr:=by
 unfold lu at hi;dsimp only at hi;split at hi
 case isFalse=>cases hi
 rename_i hc;split at hi
 case h_2=>cases hi
 rename_i sa sb rz TE;cases hi;simp only[bq,dR]at hc;simp only at ht;rw[kh]at ht;cases hl:aE sa t with
 |some x=>
  unfold qf at rz;split at rz
  case h_2=>cases rz
  cases rz;have hk:=PS hl;obtain⟨q,hq,e⟩:=dC.1 hk;exact .inl ⟨hk,e▸et.1 (hc.1.2 q hq)⟩
 |none=>rw[hl]at ht;right;intro hw;have:=Ah (f:=λt=> !(bM wr t)) (l:=σ.sl) (t:=t);rw[et.2 hw]at this;simp only[Bool.not_true,aD,aC]at this;simp only at ht;rw[this]at ht;cases ht
def axh{j:J}{σ:S D}{h:HH D j.cL}(hx:zh T j σ h){t:Nat}(ht:t∈j.sl.map bS):∃a,aE σ.sl t=aa a:=by
 obtain⟨fj,l,m,ha,_⟩:=hx.ex;have key:∀{js:List (Nat×PC)} {fj:List (AV D)},BI σ.sl js=aa fj->t∈js.map bS->∃a,aE σ.sl t=aa a:=by
  intro js;induction js with
  |nil=>intro fj _ h;simp at h
  |cons q js ih=>
   intro fj h hm;obtain⟨t0,p⟩:=q;simp only[BI]at h;split at h
   case h_2=>cases h
   rename_i x y h1 h2;simp only[gu,cr]at hm;rcases hm with rfl|hm
   ·exact⟨x,h1⟩
   ·exact ih h2 hm
 exact key ha ht
def V1{U:Nat->Prop}{K:List Nat}(hK:eh K):∀{ds:List (DV D)} {us:List ah},cm (In γ.o K) w us ds->c_ U γ w (N4 K ds) us
 |[],[],_=>trivial
 |⟨lf,x⟩::ds,u::us,h=>by
  refine⟨⟨?_,.inl rfl,?_⟩,V1 hK h.2⟩
  ·have h1:=h.1;cases lf with
   |sl m=>exact h1
   |_=>exact h1
  ·cases lf with
   |sl m=>exact hK
   |_=>exactλ_ h=>by cases h
 |[],_::_,h=>h.elim
 |_::_,[],h=>h.elim
def aa7{U:Nat->Prop}{g:Bool}{cs:List (A1 D)}{us:List ah}{x:AV D}(h:c_ U γ w cs us)(hx:u7 g cs=aa x):gF U γ w x (pack g us):=by
 unfold u7 at hx;cases g with
 |true=>cases hx;exact⟨us,rfl,h⟩
 |false=>
  simp only[aD,aC]at hx;match cs,us,h,hx with
  |[c],[u],h,hx=>cases hx;exact h.1
  |[],[],_,hx=>cases hx
  |c::c'::r,_,_,hx=>cases hx
def mark(b:Nat):Deferred:={target:= .collected b,args:= #[]}
@[reducible] def Rd.qM (b:Nat):Rd:=⟨none,[mark b],λ_=>none⟩
def xN(p1:Nat)(assign body:bL):List Nat:=p1::(writes assign++writes body)
def Mk:List (It D)->Nat->Option (It D)
 |[],_=>none
 |c::r,f=>if aT c.f f then aa c else Mk r f
def ab6:∀{l:List (It D)} {f:Nat} {c:It D},Mk l f=aa c->c∈l∧c.f=f
 |[],f,c,h=>by cases h
 |c0::r,f,c,h=>by
  unfold Mk at h;split at h
  ·rename_i hb;cases h;exact⟨by simp,bA hb⟩
  ·obtain⟨h1,h2⟩:=ab6 h;exact⟨by simp[h1],h2⟩
def rJ(ku:List Nat)(σ:S D):S D:={σ with ob:=ku.map (λi=>(i,none))++σ.ob}
def axD{ku:List Nat}{σ:S D}{i:Nat}{x:AO D}(h:dt (rJ ku σ).ob i=aa x):i∉ku∧dt σ.ob i=aa x:=by
 induction ku with
 |nil=>exact⟨by simp,h⟩
 |cons q r ih=>
  unfold rJ dt at h;simp only[gu,List.cons_append,aE]at h;cases hb:aT q i with
  |true=>simp[hb]at h
  |false=>
   simp only[hb,rV]at h;obtain⟨h1,h2⟩:=ih h;refine⟨λhm=>?_,h2⟩;rcases cr.1 hm with e|hm
   ·subst e;simp at hb
   ·exact h1 hm
def Kn.rJ{σ:S D}{γ:Gh D}{w:ax}{L:List (Nat×ah)}(hk:Kn σ γ w L){ku:List Nat}(wY:∀x∈ku,1000<=x):Kn (rJ ku σ) (eI γ (λb=>b<w.heap.size∧γ.o b∈ku) 2) w L:=by
 have fx:jg (λi=>i<σ.nx) (λi=>i<σ.nx) γ w (eI γ (λb=>b<w.heap.size∧γ.o b∈ku) 2) w:=⟨λ_ h=>h,λ_ _=>rfl,λ_ _=>rfl,λb hb aU=>⟨mo (Z:=λb=>b<w.heap.size∧γ.o b∈ku) λhz=>by have:=wY _ hz.2;omega,rfl⟩⟩;refine⟨hk.sr.db fx,⟨λi x hx=>?_,λb hb=>?_,hk.ob.ro⟩,hk.cI⟩
 ·obtain⟨hn,hx⟩:=axD hx;obtain⟨h1,h2,h3⟩:=hk.ob.ob i x hx;exact⟨h1,h2,h3.db fx h2 λb hb MZ=>⟨mo (Z:=λb=>b<w.heap.size∧γ.o b∈ku) λhz=>hn (MZ▸hz.2),rfl⟩⟩
 ·have:=hk.cI;by_cases hz:b<w.heap.size∧γ.o b∈ku
  ·rw[gL (Z:=λb=>b<w.heap.size∧γ.o b∈ku) hz];show 2<σ.nx;omega
  ·rw[mo (Z:=λb=>b<w.heap.size∧γ.o b∈ku) hz];exact hk.ob.cl b hb
def RN(T:bb D)(Φ:List (az D)){n:Nat}(y:D n)(wr:List Nat)(p1:Nat)(assign body:bL)(xn l_:An){ρ:Type}(σ:S D)(k:Out->S D->Option ρ):Option ρ:=match u7 (T.ag n) (N4 [] (T.out n y))with
 |some a=>fQ T Φ assign xn {σ with sl:=(p1,a)::σ.sl} λo aM=>match o with
  | .normal=>fQ T Φ body l_ aM λo bH=>match o with
    | .normal=>k .normal bH
    | .ret=>k .ret (uw wr bH)
    |_=>none
  |_=>none
 |none=>none
def abL(T:bb D)(Φ:List (az D)){n:Nat}(xs:List (D n))(wr:List Nat)(p1:Nat)(assign body:bL)(j:J)(pr:Bool)(E:List (Out×J))(xn l_:An){ρ:Type}(σ:S D)(k:Out->S D->Option ρ):Option ρ:=
 qE T j {σ with lk:=(kept σ (j.mv++rk E)).map bS++σ.lk} λh0=>nA (aI (σ:=HH D j.cL×List (D n)) (ρ:=vX D pr ρ E) (λs=>match lu T j wr (j.mv++rk E) σ s.1 with
    |some ci=>match s.2 with
     |[]=>(match toE T pr E (.exit 0) (uw wr {ci with lk:=(kept σ (j.mv++rk E)).map bS++σ.lk}) (k .normal {uw wr ci with lk:=σ.lk})with
      |some x=>aa (.inr x)
      |none=>none)
     |y::ys=>RN T Φ y wr p1 assign body xn l_ {ci with lk:=(kept σ (j.mv++rk E)).map bS++σ.lk} λo aM=>match o with
      | .normal=>qE T j aM λh'=>aa (.inl (h',ys))
      | .ret=>(match toE T pr E .ret aM (k .ret {aM with lk:=σ.lk})with
        |some x=>aa (.inr x)
        |none=>none)
      |_=>none
    |none=>none) (h0,xs)) λx=>sO T pr wr (j.mv++rk E) σ (λo aM=>match o with
     | .exit _=>k .normal aM
     | .ret=>k .ret aM
     |_=>none) E x
def Ll(T:bb D)(Φ:List (az D))(kz:List (It D))(g p1:Nat)(assign body:bL)(j:J)(pr:Bool)(E:List (Out×J))(xn l_:An){ρ:Type}(σ:S D)(k:Out->S D->Option ρ):Option ρ:=match aE σ.sl g with
 |some (.c (.one (.fn f jc)))=>match Mk kz f with
  |some c=>(Bl T ab 0 c.ins c.args [] [] σ.nx (jc.map N_)).go σ.ob [] λx _=>
    if x.2.kr.all (λq=>aT q 0)&&qG x.2.ku σ.lk&&ef (dE T c.ins x.1).length 900&&(gX T (dE T c.ins x.1) aa id 1100 c.args).isSome&&j.sl.isEmpty&&RO assign&&RO body then
     nA (c.fn x.1) λxs=>abL T Φ xs (xN p1 assign body) p1 assign body j pr E xn l_ (rJ x.2.ku σ) k
    else none
  |none=>none
 |_=>none
def aaW(hP:dQ P T)(hR:cE T)(cK:∀c∈Φ,fK P T c)(hm:P.follows .mixedOrders=ab){kz:List (It D)}(hB:∀q∈kz,BV P T q){id g p1:Nat}{assign body:bL}{j:J}{pr:Bool}{E:List (Out×J)}{xn l_:An}{ρ:Type}{σ:S D}{k:Out->S D->Option ρ}{r:ρ}{γ:Gh D}{w:ax}{L:List (Nat×ah)}{Q:Exit->Act->ax->Prop}
  (h:Ll T Φ kz g p1 assign body j pr E xn l_ σ k=aa r) (hk:Kn σ γ w L) (hd:∀t∈xN p1 assign body,dx t n=ab)
  (hc:∀b o aM aP w1 L1,Kn aM aP w1 L1->Rx.Frame γ w aP w1->w.heap.size<=b->b<w1.heap.size->aP.o b=2->w1.heap[b]? =aa (.deferred (aa []))->k o aM=aa r->o= .normal∨o= .ret->∀a1,@Fr (Rd.qM b) n L1 a1->Q (toX o) a1 w1):
  CW P n (.block id (.rangeFunc (.tmp g) #[p1] assign body)) Q L w:=by
 intro a ha
 refine wpIn_block (wpIn_rangeFunc λaep _=>?_)
 unfold Ll at h
 split at h
 case h_2=>cases h
 rename_i f jc hg
 split at h
 case h_2=>cases h
 rename_i c hit
 obtain⟨w_,rfl⟩:=ab6 hit
 have UQ:=hB c w_
 obtain⟨lq,x,hq,h⟩:=Rx.Q.H3 h
 obtain⟨hh,m⟩:=x
 dsimp only at h
 split at h
 case isFalse=>cases h
 rename_i sJ
 simp only[bq]at sJ
 obtain⟨⟨⟨⟨⟨⟨c1,c2⟩,c3⟩,c4⟩,c5⟩,c7⟩,c8⟩:=sJ
 obtain⟨xs,eF,h⟩:=pJ h
 obtain⟨wr,Mq⟩:∃wr,wr=xN p1 assign body:=⟨_,rfl⟩
 rw[<-Mq]at h hd
 have yu:p1∈wr:=by rw[Mq];unfold xN;simp
 have aum:=awd ha
 have UJ:=ha.size
 obtain⟨rec,yr⟩:∃rec:LoopState->Option bL->Loop,rec=λst pe=>{state:=st,pending:=pe,fn:=aep,tmps:=a.tmps,params:= #[p1],assign,body,defers:=w.heap.size}:=⟨_,rfl⟩
 obtain⟨W1,pE⟩:∃W1,(w.alloc (.deferred (aa []))).alloc (.loop (rec .ready none))=W1:=⟨_,rfl⟩
 obtain⟨l,hl⟩:∃l,l=w.heap.size+1:=⟨_,rfl⟩
 have HX:W1.heap[l]? =aa (.loop (rec .ready none)):=by rw[<-pE,hl];have:=ax.alloc_heap_new (w.alloc (.deferred (aa []))) (.loop (rec .ready none));rwa[ax.size_alloc]at this
 have gY:W1.heap[w.heap.size]? =aa (.deferred (aa [])):=by rw[<-pE];exact(Below.heap_alloc _ _ _ (by simp)).trans (ax.alloc_heap_new w _)
 obtain⟨Zm,A'⟩:∃Zm:Nat->Prop,Zm=λb=>b=w.heap.size∨b=l:=⟨_,rfl⟩
 have MN:Zm l:=by rw[A'];exact .inr rfl
 have hDZ:Zm w.heap.size:=by rw[A'];exact .inl rfl
 have adZ:∀b,Zm b->w.heap.size<=b:=λb hb=>by rw[A']at hb;rcases hb with hb|hb<;>omega
 have M7:w.heap.size≠l:=by omega
 have ave:W1.heap.size=w.heap.size+2:=by rw[<-pE];simp
 have HT:WZ Zm w W1:=by
  refine⟨by rw[<-pE];rfl,by rw[<-pE];rfl,by rw[<-pE];rfl,by omega,λb hb aU=>?_,λb hb=>?_⟩
  ·rw[<-pE,Below.heap_alloc _ _ _ (by simp;omega),Below.heap_alloc _ _ _ aU]
  ·rw[A'];omega
 have Hz:Kn σ (eI γ Zm 3) W1 (lG a):=(hk.all ha).wz (.inr rfl) (λb hb aU=>by have:=adZ b hb;omega) HT
 obtain⟨jP,wO⟩:∃jP,jP=eI γ Zm 3:=⟨_,rfl⟩
 rw[<-wO]at Hz
 obtain⟨gv,hgv,yO,hgf,HE⟩:=Hz.sr g _ hg
 have auh:gv= .func (.func c.f) #[] yO.toArray:=by rw[hgf];unfold xg;rw[aG UQ.lt]
 obtain⟨⟨hex,_⟩,vB⟩:=Nm hR Hz.ob hq (N9 HE)
 dsimp only at hex vB
 have adw:∀p i,(p,i)∉m.ids:=λp i hp=>by have:=hex.key p i hp;cases this
 obtain⟨Bc,Bb⟩:=aeK (γ:=jP) (w:=W1) Hz.ob hex (λi h1 _ h3=>by have h3:i<σ.nx:=h3;omega) rfl (dm c3)
 obtain⟨as,has⟩:=Option.isSome_iff_exists.1 c4
 have AA:=(vB Bc Bb).1 as has
 obtain⟨uJ,acx⟩:∃uJ:Gh D,uJ=⟨λb=>jm m (jP.o b),qA jP m,ga jP.v 1100 (dE T c.ins hh)⟩:=⟨_,rfl⟩
 rw[<-acx]at AA
 have MC:∀b,(uJ.o b=0∧(jP.o b=0∨jP.o b∈m.ku))∨uJ.o b=3:=λb=>by
  rw[acx];rcases C0 m (jP.o b)with⟨p,h1,_⟩|⟨_,h1⟩
  ·exact(adw _ _ h1).elim
  ·rcases h1 with⟨h1,h2⟩|⟨h1,_⟩
   ·refine .inl ⟨h1,h2.imp (λh3=>?_) λh=>h⟩;exact bA (dR.1 c1 _ h3)
   ·exact .inr h1
 have atB:OB U0 uJ W1 []:=⟨λi x hx=>by simp[dt,aE]at hx,λb hb=>by show uJ.o b<2000;rcases MC b with⟨h1,_⟩|h1<;>omega,λx hx=>hx⟩
 have wY:∀x∈m.ku,1000<=x:=λx hx=>(hex.ku x hx).1
 obtain⟨Bx,xe⟩:∃Bx:Nat->Prop,Bx=λb=>b<W1.heap.size∧jP.o b∈m.ku:=⟨_,rfl⟩
 obtain⟨gl,Av⟩:∃gl,gl=rJ m.ku σ:=⟨_,rfl⟩
 have vw:Kn gl (eI jP Bx 2) W1 (lG a):=by rw[Av,xe];exact Hz.rJ wY
 rw[<-Av]at h
 have US:∀b,Bx b->¬Zm b∧γ.o b≠0∧γ.o b≠3∧jP.o b≠0:=λb hb=>by
  rw[xe]at hb;have:=wY _ hb.2;by_cases hz:Zm b
  ·rw[wO,gL hz]at this;omega
  ·have e:jP.o b=γ.o b:=by rw[wO,mo hz]
   exact⟨hz,by omega,by omega,by omega⟩
 obtain⟨ZA,kn⟩:∃ZA:(Nat->Prop)->Nat->Prop,ZA=λZ b=>Zm b∨Bx b∨Z b:=⟨_,rfl⟩
 have Ul:∀Z,fW (ZA Z) γ w (eI jP Bx 2) W1:=λZ=>by
  have f1:fW Zm γ w jP W1:=by rw[wO];exact .wz HT
  have f2:fW Bx jP W1 (eI jP Bx 2) W1:= .wz (.refl Bx W1);exact(f1.mono λb hb=>by rw[kn];exact .inl hb).trans (f2.mono λb hb=>by rw[kn];exact .inr (.inl hb))
 unfold abL at h
 obtain⟨h0,pu,h⟩:=sQ h
 obtain⟨x,hx,hf⟩:=pJ h
 clear h
 obtain⟨mv,DJ⟩:∃mv,mv=j.mv++rk E:=⟨_,rfl⟩
 rw[<-DJ]at hx hf pu
 obtain⟨lk,oC⟩:∃lk,lk=(kept gl mv).map bS++gl.lk:=⟨_,rfl⟩
 rw[<-oC]at hx pu
 obtain⟨yj,Hx⟩:∃yj:Out->S D->Option ρ,yj=λo aM=>match o with
  | .exit _=>k .normal aM
  | .ret=>k .ret aM
  |_=>none:=⟨_,rfl⟩
 rw[<-Hx]at hf
 obtain⟨step,hstep,hx⟩:∃step:HH D j.cL×List (D c.el)->Option ((HH D j.cL×List (D c.el))⊕vX D pr ρ E),(∀s y,step s=aa y->∃ci,lu T j wr mv gl s.1=aa ci∧
   ((s.2=[]∧(match toE T pr E (.exit 0) (uw wr {ci with lk:=lk}) (yj (.exit 0) {uw wr ci with lk:=gl.lk})with
       |some x=>aa (Sum.inr x)
       |none=>none)=aa y)∨
     ∃z zs,s.2=z::zs∧∃kk:Out->S D->Option ((HH D j.cL×List (D c.el))⊕vX D pr ρ E),(∀aM,kk .normal aM=qE T j aM λh'=>aa (.inl (h',zs)))∧
      (∀aM,kk .ret aM=match toE T pr E .ret aM (yj .ret {aM with lk:=gl.lk})with
        |some x=>aa (.inr x)
        |none=>none)∧RN T Φ z wr p1 assign body xn l_ {ci with lk:=lk} kk=aa y))∧aI step (h0,xs)=aa x:=by
  refine⟨_,λs y hy=>?_,hx⟩
  dsimp only at hy
  split at hy
  case h_2=>cases hy
  rename_i ci mU
  refine⟨ci,mU,?_⟩
  split at hy
  ·rename_i he;exact .inl ⟨he,by rw[Hx];exact hy⟩
  ·rename_i z zs he;exact .inr ⟨z,zs,he,_,λ_=>rfl,λ_=>by rw[Hx],hy⟩
 have T2:l<W1.heap.size:=by omega
 have hDs:w.heap.size<W1.heap.size:=by omega
 obtain⟨R,M2⟩:∃R:(Nat->Prop)->ax->Prop,R=λZ W=>∃st jump o aM aP,st≠.busy∧W.heap[l]? =aa (.loop (rec st jump))∧W.heap[w.heap.size]? =aa (.deferred (aa []))∧Kn aM aP W (lG a)∧fW (ZA Z) γ w aP W∧(∀b,ZA Z b->aP.o b=2)∧(∀b,Z b->W1.heap.size<=b∧b<W.heap.size)∧k o aM=aa r∧((jump=none∧o= .normal)∨(jump=aa .ret∧o= .ret)):=⟨_,rfl⟩
 obtain⟨Inv,M4⟩:∃Inv:Nat->(Nat->Prop)->ax->Prop,Inv=λm Z W=>∃N h' ci gy,nB step N (h',xs.drop m)=aa x∧lu T j wr mv gl h'=aa ci∧Kn ci gy W (lG a)∧fW (ZA Z) γ w gy W∧cg wr {gl with lk:=lk} {ci with lk:=lk}∧(∀b,ZA Z b->gy.o b=2)∧(∀b,Z b->W1.heap.size<=b∧b<W.heap.size)∧W.heap[l]? =aa (.loop (rec .ready none))∧W.heap[w.heap.size]? =aa (.deferred (aa [])):=⟨_,rfl⟩
 have ist:∀{Z:Nat->Prop} {W:ax} {Z':Nat->Prop} {W':ax} {aM:S D} {aP:Gh D},PJ Z W Z' W'->Kn aM aP W (lG a)->fW (ZA Z) γ w aP W->(∀b,ZA Z b->aP.o b=2)->(∀b,Z b->W1.heap.size<=b∧b<W.heap.size)->W1.heap.size<=W.heap.size->
   Kn aM (eI aP (ZA Z') 2) W' (lG a)∧fW (ZA Z') γ w (eI aP (ZA Z') 2) W'∧(∀b,ZA Z' b->(eI aP (ZA Z') 2).o b=2)∧(∀b,Z' b->W1.heap.size<=b∧b<W'.heap.size)∧∀b,b<W1.heap.size->W'.heap[b]? =W.heap[b]? :=by
  intro Z W Z' W' aM aP hi q1 q2 q3 q4 q5
  have Mz:∀b,ZA Z b->ZA Z' b:=λb hb=>by rw[kn]at hb⊢;exact hb.imp (λh=>h) λh=>h.imp (λh=>h) (hi.sub b)
  have eK:=hi.wz.size
  have DH:∀b,Z' b->W1.heap.size<=b∧b<W'.heap.size:=λb hb=>by
   rcases hi.new b hb with h1|h1
   ·have:=q4 b h1;omega
   ·omega
  have hw:WZ (ZA Z') W W':=hi.wz.mono λb hb=>by rw[kn];exact .inr (.inr hb)
  refine⟨q1.wz (.inl rfl) (λb hb aU=> .inl (q3 b ?_)) hw,(q2.mono Mz).trans (.wz hw),λb hb=>gL hb,DH,λb hb=>hi.wz.same b (λhz=>by have:=(DH b hz).1;omega) (by omega)⟩
  rw[kn]at hb⊢
  rcases hb with hb|hb|hb
  ·exact .inl hb
  ·exact .inr (.inl hb)
  ·rcases hi.new b hb with h1|h1
   ·exact .inr (.inr h1)
   ·omega
 have auO:∀b,b<W1.heap.size->uJ.o b=0∨uJ.o b=3:=λb _=>(MC b).imp (λh=>h.1) λh=>h
 have cI:∀{W:ax} {O:Obj},W.heap[l]? =aa O->W1.heap.size<=W.heap.size:=λh=>by have:=(jx.1 h).1;omega
 have head:∀{m N:Nat} {s:HH D j.cL} {Z:Nat->Prop} {aM:S D} {aP:Gh D} {W:ax} {L1:List (Nat×ah)},nB step N (s,xs.drop m)=aa x->Kn aM aP W L1->cg wr {gl with lk:=lk} aM->zh T j aM s->fW (ZA Z) γ w aP W->(∀b,ZA Z b->aP.o b=3∧b<W.heap.size)->(∀b,Z b->W1.heap.size<=b∧b<W.heap.size)->W.heap[l]? =aa (.loop (rec .ready none))->W.heap[w.heap.size]? =aa (.deferred (aa []))->
   (∀t v,t∉wr->Dp.look L1 t=aa v->Dp.look (lG a) t=aa v)->Inv m Z W:=by
  intro m N s Z aM aP W L1 hN eG he hxr eA cY hZs Mr hwD AH
  obtain⟨N',y,_,hs,_⟩:=GV hN
  obtain⟨ci,mU,_⟩:=hstep _ _ hs
  obtain⟨bf,k1,k2,k3,_⟩:=Ap hR oC vw eG he hxr mU
  have rF:∀b,ZA Z b->bf.o b=3:=λb hb=>by rw[(k2.ro b (cY b hb).2 (.inr (cY b hb).1)).1];exact(cY b hb).1
  rw[M4]
  refine⟨N,s,ci,eI bf (ZA Z) 2,hN,mU,(k1.wz (.inl rfl) (λb hb _=> .inr (rF b hb)) (.refl _ W)).C5 λt y v hy hv=>AH t v ?_ hv,(eA.trans (.of k2)).trans (.wz (.refl _ W)),k3,λb hb=>gL hb,hZs,Mr,hwD⟩
  rcases Td mU hy with⟨h1,_⟩|h1
  ·rw[List.isEmpty_iff.1 c5]at h1;cases h1
  ·exact h1
 have abV:∀{o:Out} {s:HH D j.cL×List (D c.el)} {y:(HH D j.cL×List (D c.el))⊕vX D pr ρ E} {N:Nat} {Z:Nat->Prop} {aM:S D} {aP:Gh D} {W:ax} {L1:List (Nat×ah)},nB step N s=aa x->step s=aa y->(match toE T pr E o aM (yj o {aM with lk:=gl.lk})with|some x=>aa (.inr x)|none=>none)=aa y->
   Kn aM aP W L1->cg wr {gl with lk:=lk} aM->(∀t,t∈wr->aE aM.sl t=none)->fW (ZA Z) γ w aP W->(∀b,ZA Z b->aP.o b=3∧b<W.heap.size)->(∀t v,t∉wr->Dp.look L1 t=aa v->Dp.look (lG a) t=aa v)->∃bH bf,Kn bH bf W (lG a)∧fW (ZA Z) γ w bf W∧(∀b,ZA Z b->bf.o b=2)∧yj o bH=aa r:=by
  intro o s y N Z aM aP W L1 hN hs hz eG he nG eA cY AH
  split at hz
  case h_2=>cases hz
  rename_i x' dX
  have hz:=(jM hz).symm
  subst hz
  obtain⟨N',y',_,wT,gC⟩:=GV hN
  rw[hs]at wT
  cases wT
  rcases gC with⟨s',h1,_⟩|h1
  ·cases h1
  cases h1
  have fin:∀{bH:S D} {bf:Gh D},Kn bH bf W L1->Rx.Frame aP W bf W->(∀t x,aE bH.sl t=aa x->t∉wr)->yj o bH=aa r->∃bH bf,Kn bH bf W (lG a)∧fW (ZA Z) γ w bf W∧(∀b,ZA Z b->bf.o b=2)∧yj o bH=aa r:=by
   intro bH bf k1 k2 k3 k4;have rF:∀b,ZA Z b->bf.o b=3:=λb hb=>by rw[(k2.ro b (cY b hb).2 (.inr (cY b hb).1)).1];exact(cY b hb).1
   exact⟨bH,eI bf (ZA Z) 2,(k1.wz (.inl rfl) (λb hb _=> .inr (rF b hb)) (.refl _ W)).C5 λt y v hy hv=>AH t v (k3 t y hy) hv,(eA.trans (.of k2)).trans (.wz (.refl _ W)),λb hb=>gL hb,k4⟩
  rcases FO dX hf with⟨j',y2,bH,h1,h2,h3⟩|h1
  ·obtain⟨bf,k1,k2,k3,_⟩:=Ap hR oC vw eG he h1 h2;refine fin k1 k2 (λt z ht=>?_) h3;rcases Td h2 ht with⟨m1,m2⟩|m1
   ·obtain⟨z',oA⟩:=axh h1 m1;rw[nG t m2]at oA;cases oA
   ·exact m1
  ·refine fin (eG.lk _) (Rx.Frame.refl _ _) (λt z ht hw=>?_) h1;have ht:aE aM.sl t=aa z:=ht;rw[nG t hw]at ht;cases ht
 have HQ:∀{Z:Nat->Prop} {W:ax},(∀b,Z b->W1.heap.size<=b∧b<W.heap.size)->W1.heap.size<=W.heap.size->∀b,ZA Z b->b<W.heap.size:=λhz hs b hb=>by
  rw[kn]at hb;rcases hb with hb|hb|hb
  ·rw[A']at hb;omega
  ·rw[xe]at hb;have:=hb.1;omega
  ·exact(hz b hb).2
 have auQ:Calls P c.f (nt l::yO).toArray W1 (mb λ_ w'=>∃Z,R Z w'):=by
  refine UQ.run hh xs eF as has uJ W1 l yO AA atB auO Inv R ?_ ?_ ?_ ?_ ?_
  ·unfold aI at hx;have hZ0:∀b,ZA (λ_=>False) b->(Zm b∨Bx b)∧b<W1.heap.size:=λb hb=>by
    rw[kn]at hb;rcases hb with hb|hb|hb
    ·refine⟨.inl hb,?_⟩;rw[A']at hb;omega
    ·refine⟨.inr hb,?_⟩;rw[xe]at hb;exact hb.1
    ·exact hb.elim
   refine head (m:=0) (Z:=λ_=>False) hx ((vw.lk lk).wz (Z:=ZA λ_=>False) (c:=3) (.inr rfl) (λb hb _=>?_) (.refl _ _)) (.refl _ _) pu ((Ul _).trans (.wz (.refl _ _))) (λb hb=>⟨gL hb,(hZ0 b hb).2⟩) (λb hb=>hb.elim) HX gY λt v _ hv=>hv;by_cases vG:Bx b
   ·exact .inl (gL vG)
   ·rw[mo vG];right;rcases(hZ0 b hb).1 with h1|h1
    ·rw[wO];exact gL h1
    ·exact(vG h1).elim
  ·intro m Z W Z' W' hi hs;rw[M4]at hi⊢;obtain⟨N,h',ci,gy,i1,i2,i3,i4,i5,i6,i7,i8,i9⟩:=hi;obtain⟨q1,q2,q3,q4,q5⟩:=ist hs i3 i4 i6 i7 (cI i8);exact⟨N,h',ci,_,i1,i2,q1,q2,i5,q3,q4,(q5 l T2).trans i8,(q5 _ hDs).trans i9⟩
  ·intro Z W Z' W' hi hs;rw[M2]at hi⊢;obtain⟨st,jump,o,aM,aP,i1,i2,i3,i4,i5,i6,i7,i8,i9⟩:=hi;obtain⟨q1,q2,q3,q4,q5⟩:=ist hs i4 i5 i6 i7 (cI i2);exact⟨st,jump,o,aM,_,i1,(q5 l T2).trans i2,(q5 _ hDs).trans i3,q1,q2,q3,q4,i8,i9⟩
  ·intro Z W hi;rw[M4]at hi;obtain⟨N,h',ci,gy,i1,i2,i3,i4,i5,i6,i7,i8,i9⟩:=hi;obtain⟨N',y,_,hs,_⟩:=GV i1;obtain⟨akD,mU,hy⟩:=hstep _ _ hs;rw[i2]at mU;cases mU;rcases hy with⟨_,hy⟩|⟨z,zs,he,_⟩
   ·obtain⟨bH,bf,m1,m2,m3,m4⟩:=abV (Z:=Z) i1 hs hy (((i3.lk lk).drop wr).wz (c:=3) (.inr rfl) (λb hb _=> .inl (i6 b hb)) (.refl (ZA Z) W)) ⟨λt ht=>by rw[Bt,aK ht];exact i5.sl t ht,rfl,i5.ob,i5.nx⟩ (λt ht=>by rw[Bt,aG ht]) (i4.trans (.wz (.refl _ W))) (λb hb=>⟨gL hb,HQ i7 (cI i8) b hb⟩) (λt v ht hv=>hv);rw[M2];refine⟨.ready,none,.normal,bH,bf,by simp,i8,i9,m1,m2,m3,i7,?_,.inl ⟨rfl,rfl⟩⟩;rw[Hx]at m4;exact m4
   ·simp at he
  ·intro m' Z W y cs hi hy sy;rw[M4]at hi;obtain⟨N,h',ci,gy,i1,i2,i3,i4,i5,i6,i7,i8,i9⟩:=hi;have hyl:=run_yield (P:=P) (args:= #[pack (ad.agg (D c.el)) cs]) i8 (by rw[yr];rfl);rw[yr]at hyl;refine⟨aep,_,assign,body,hyl,roundIn_of_wpIn trivial ?_⟩;obtain⟨N',yy,hN',hs,DG⟩:=GV i1;obtain⟨akD,mU,wQ⟩:=hstep _ _ hs;rw[i2]at mU;cases mU;have ud:xs.drop m'=y::xs.drop (m'+1):=by obtain⟨aU,e⟩:=gH.1 hy;rw[List.drop_eq_getElem_cons aU,e]
   rcases wQ with⟨he,_⟩|⟨z,zs,he,kk,kk1,kk2,wQ⟩
   ·rw[ud]at he;cases he
   rw[ud]at he;obtain⟨rfl,rfl⟩:=List.cons.inj he;have My:=cI i8;unfold RN at wQ;split at wQ
   case h_2=>cases wQ
   rename_i av hav;obtain⟨I,hI⟩:∃I:Rd,I=⟨aa l,[],λt=>if bM wr t then none else a.tmps[t]?⟩:=⟨_,rfl⟩;have hIF:I.F=Fence.wide.inRound l:=by rw[hI];rfl
   unfold RO at c7 c8;simp only[bq]at c7 c8;have Hj:∀t∈wr,I.eX n t=ab:=λt ht=>by unfold Rd.eX;rw[hd t ht,hI];simp only[et.2 ht,aH];rfl
   have hwa:∀t∈writes assign,t∈wr:=λt ht=>by rw[Mq];unfold xN;simp[ht]
   have hwb:∀t∈writes body,t∈wr:=λt ht=>by rw[Mq];unfold xN;simp[ht]
   have wZ:Kn {ci with lk:=lk,sl:=(p1,av)::ci.sl} (eI gy (ZA Z) 3) W ((p1,pack (ad.agg (D c.el)) cs)::lG a):=by have h1:Kn {ci with lk:=lk} (eI gy (ZA Z) 3) W (lG a):=(i3.lk lk).wz (c:=3) (.inr rfl) (λb hb _=> .inl (i6 b hb)) (.refl _ W);refine⟨h1.sr.cons ?_,h1.ob,h1.cI⟩;rw[hR.ag];exact aa7 (V1 (λ_ hx=>by cases hx) ((hR.rd c.el _ _ _ _).1 (sy (In (eI gy (ZA Z) 3).o []) W))) hav
   have aup: @Fr I n ((p1,pack (ad.agg (D c.el)) cs)::lG a) {tmps:=(#[p1].zip #[pack (ad.agg (D c.el)) cs]).foldl (λtmps (t,a)=>tmps.setIfInBounds t a) a.tmps,defers:=[]}:=by
    have e0:(#[p1].zip #[pack (ad.agg (D c.el)) cs]).foldl (λtmps (t,a)=>tmps.setIfInBounds t a) a.tmps=a.tmps.setIfInBounds p1 (pack (ad.agg (D c.el)) cs):=by simp
    rw[e0];have l1:p1<a.tmps.size:=by rw[UJ];exact dm (hd p1 yu)
    refine @Fr.mk I n _ _ (by simp[UJ]) (by rw[hI];rfl) (λt v hv=>?_) (λt v hv=>?_)
    ·by_cases h1:p1=t
     ·subst h1;rw[iH]at hv;simp[l1];exact jM hv
     ·rw[gW _ _ h1]at hv;simp[Fy,h1];exact GW.1 hv
    ·rw[hI]at hv;dsimp only at hv;split at hv
     ·cases hv
     ·rename_i hm;have h1:p1≠t:=λe=>hm (et.2 (e▸yu));simp[Fy,h1];exact hv
   rw[<-hIF];refine sV (I:=I) (n:=n) hP hR cK hm assign xn c7.1.1 (.inr c7.2) (Lb.none c7.1.2) wQ (λt ht=>Hj t (hwa t ht)) wZ ?_ _ aup;intro o aM aP w1 L1 m1 m2 m3 m4;cases o with
   |exit id=>cases m4
   |goto l=>cases m4
   |ret=>cases m4
   |normal=>
   intro a1 M1;have DU:∀b,ZA Z b->aP.o b=3∧w1.heap[b]? =W.heap[b]? :=λb hb=>by have:=m2.ro b (HQ i7 My b hb) (.inr (gL hb));exact⟨this.1.trans (gL hb),this.2⟩
   have xf:ZA Z l:=by rw[kn];exact .inl MN
   have M8:ZA Z w.heap.size:=by rw[kn];exact .inl hDZ
   have nJ:w1.heap[l]? =aa (.loop (rec .ready none)):=(DU l xf).2.trans i8;have hD1:w1.heap[w.heap.size]? =aa (.deferred (aa [])):=(DU _ M8).2.trans i9;refine⟨_,run_beginRound nJ (by rw[yr]),?_⟩;obtain⟨w2,fP⟩:∃w2,w2=w1.putObj l (.loop {rec .ready none with state:= .busy}):=⟨_,rfl⟩;rw[<-fP];have vv:w2.heap[l]? =aa (.loop {rec .ready none with state:= .busy}):=by rw[fP];exact ax.putObj_heap_same (jx.1 nJ).1
   have hD2:w2.heap[w.heap.size]? =aa (.deferred (aa [])):=by rw[fP];exact(ax.putObj_heap_other M7).trans hD1
   have Dx:WZ (ZA Z) w1 w2:=by rw[fP];exact .put xf
   have qq:Kn aM (eI aP (ZA Z) 3) w2 L1:=m1.wz (.inr rfl) (λb hb _=> .inr (DU b hb).1) Dx;refine sV (I:=I) (n:=n) hP hR cK hm body l_ c8.1.1 (.inr c8.2) (Lb.none c8.1.2) m4 (λt ht=>Hj t (hwb t ht)) qq ?_ _ M1;intro o bH bf w3 L2 n1 n2 n3 n4;have sz1:=m2.size;have sz2:=Dx.size;have sz3:=n2.size;have rF:∀b,ZA Z b->bf.o b=3∧w3.heap[b]? =w2.heap[b]? :=λb hb=>by have:=n2.ro b (by have:=HQ i7 My b hb;omega) (.inr (gL hb));exact⟨this.1.trans (gL hb),this.2⟩
   have DM:=(rF l xf).2.trans vv;have hD3:=(rF _ M8).2.trans hD2;have adD:fW (ZA Z) γ w bf w3:=(((i4.trans (.wz (c:=3) (.refl (ZA Z) W))).trans (.of m2)).trans (.wz (c:=3) Dx)).trans (.of n2);have HJ:cg wr {gl with lk:=lk} bH:=by
    have e1:cg wr {ci with lk:=lk} {ci with lk:=lk,sl:=(p1,av)::ci.sl}:=⟨λt ht=>by
     have bQ:aT p1 t=ai:=by
      cases hb:aT p1 t with
      |true=>have:=bA hb;subst this;exact(ht yu).elim
      |false=>rfl
     simp only[aE,bQ,rV],rfl,λ_ _=>rfl,bw _⟩
    exact((i5.trans e1).trans (m3.mono hwa)).trans (n3.mono hwb)
   have nE:∀O:Obj,Xr (λb=>Z b∨(b<W1.heap.size∧uJ.o b=0)) W (w3.putObj l O):=λO=>by
    refine⟨n2.os.trans (Dx.os.trans m2.os),n2.tape.trans (Dx.tape.trans m2.tape),n2.output.trans (Dx.output.trans m2.output),by rw[ax.putObj_size];omega,λb hb aU=>?_⟩;have uj:b≠l:=by
     rintro rfl;rcases hb with hb|⟨_,hb⟩
     ·have:=(i7 _ hb).1;omega
     ·rcases MC b with⟨_,h1|h1⟩|h1
      ·rw[wO,gL MN]at h1;omega
      ·have:=wY _ h1;rw[wO,gL MN]at this;omega
      ·omega
    rw[ax.putObj_heap_other uj];have Zh:ZA Z b->w3.heap[b]? =W.heap[b]? :=λhA=>by refine(rF b hA).2.trans (Eq.trans ?_ (DU b hA).2);rw[fP];exact ax.putObj_heap_other uj
    rcases hb with hb|⟨hbs,hb⟩
    ·exact Zh (by rw[kn];exact .inr (.inr hb))
    ·rcases MC b with⟨_,h1|h1⟩|h1
     ·
      have Hn:¬ZA Z b:=λhA=>by
       rw[kn]at hA;rcases hA with hA|hA|hA
       ·rw[wO,gL hA]at h1;omega
       ·exact(US b hA).2.2.2 h1
       ·have:=(i7 b hA).1;omega
      have hz:¬Zm b:=λh=>Hn (by rw[kn];exact .inl h)
      have Uh:γ.o b=0:=by rw[wO,mo hz]at h1;exact h1
      have UE:b<w.heap.size:=by
       rcases Nat.lt_or_ge b w.heap.size with h2|h2
       ·exact h2
       ·exact(hz (by rw[A'];omega)).elim
      have t1:=(i4.ro b Hn UE (.inl Uh)).1
      have t2:=m2.ro b aU (.inl (by rw[mo Hn,t1];exact Uh))
      have t3:=n2.ro b (by omega) (.inl (by rw[mo Hn,t2.1,mo Hn,t1];exact Uh))
      rw[t3.2,fP,ax.putObj_heap_other uj,t2.2]
     ·exact Zh (by rw[kn];exact .inr (.inl (by rw[xe];exact⟨hbs,h1⟩)))
     ·omega
   have xc:∀{a2:Act},@Fr I n L2 a2->∀t v,t∉wr->Dp.look L2 t=aa v->Dp.look (lG a) t=aa v:=by
    intro a2 m9 t v ht hv;have g1:=m9.get t v hv;have yn:t<a.tmps.size:=by have:=(jx.1 g1).1;rw[m9.size]at this;rw[UJ];exact this
    have g2:a2.tmps[t]? =aa a.tmps[t]:=m9.fix t _ (by
     have hb:bM wr t=ai:=by
      cases hb:bM wr t with
      |true=>exact(ht (et.1 hb)).elim
      |false=>rfl
     rw[hI];simp[hb,yn])
    rw[g1]at g2;cases g2;exact GW.2 (Array.getElem?_eq_getElem yn)
   have hZ4:∀O:Obj,∀b,Z b->W1.heap.size<=b∧b<(w3.putObj l O).heap.size:=λO b hb=>by have:=i7 b hb;rw[ax.putObj_size];omega
   cases o with
   |exit id=>cases n4
   |goto l=>cases n4
   |normal=>
    intro a2 m9;dsimp only at n4;rw[kk1]at n4;obtain⟨h2,pt,e⟩:=sQ n4;cases e;obtain⟨W4,uk⟩:∃W4,W4=w3.putObj l (.loop (rec .ready none)):=⟨_,rfl⟩;have Az:WZ (ZA Z) w3 W4:=by rw[uk];exact .put xf
    have wX:nB step N' (h2,xs.drop (m'+1))=aa x:=by
     rcases DG with⟨s',e,h⟩|e
     ·cases e;exact h
     ·cases e
    have hI4:Inv (m'+1) Z W4:=by
     have T8:=n1.wz (c:=3) (.inr rfl) (λb hb _=> .inr (rF b hb).1) Az;refine head wX T8 HJ pt (adD.trans (.wz Az)) (λb hb=>⟨gL hb,?_⟩) (by rw[uk];exact hZ4 _) ?_ ?_ (xc m9)
     ·have:=HQ i7 My b hb;have:=Az.size;omega
     ·rw[uk];exact ax.putObj_heap_same (jx.1 DM).1
     ·rw[uk];exact(ax.putObj_heap_other M7).trans hD3
    refine⟨_,_,run_endRound none DM,_,rfl,nE _,.inl ⟨rfl,?_⟩⟩;have e4:w3.putObj l (.loop {({rec .ready none with state:= .busy}:Loop)with state:=if(none:Option bL).isNone then .ready else .done,pending:=none})=W4:=by rw[uk,yr];rfl
    rw[e4];exact hI4
   |ret=>
    intro a2 m9;dsimp only at n4;rw[kk2]at n4;obtain⟨W4,uk⟩:∃W4,W4=w3.putObj l (.loop (rec .done (aa .ret))):=⟨_,rfl⟩;have Az:WZ (ZA Z) w3 W4:=by rw[uk];exact .put xf
    have T8:=n1.wz (c:=3) (.inr rfl) (λb hb _=> .inr (rF b hb).1) Az;have hR4:R Z W4:=by
     obtain⟨oX,akF,q1,q2,q3,q4⟩:=abV (Z:=Z) i1 hs n4 (T8.drop wr) (HJ.trans ⟨λt ht=>by rw[Bt,aK ht],rfl,λ_ _=>rfl,bw _⟩) (λt ht=>by rw[Bt,aG ht]) (adD.trans (.wz Az)) (λb hb=>⟨gL hb,by have:=HQ i7 My b hb;have:=Az.size;omega⟩) (xc m9)
     rw[M2];refine⟨.done,aa .ret,.ret,oX,akF,by simp,?_,?_,q1,q2,q3,by rw[uk];exact hZ4 _,?_,.inr ⟨rfl,rfl⟩⟩
     ·rw[uk];exact ax.putObj_heap_same (jx.1 DM).1
     ·rw[uk];exact(ax.putObj_heap_other M7).trans hD3
     ·rw[Hx]at q4;exact q4
    refine⟨_,_,run_endRound (aa .ret) DM,_,rfl,nE _,.inr ⟨rfl,?_⟩⟩;have e4:w3.putObj l (.loop {({rec .ready none with state:= .busy}:Loop)with state:=if(aa bL.ret).isNone then .ready else .done,pending:=aa .ret})=W4:=by rw[uk,yr];rfl
    rw[e4];exact hR4
 refine⟨l,[mark w.heap.size],W1,{target:= .fn (.func c.f) yO.toArray,args:= #[.func (.yield l) #[] #[]]},W1,c.f, #[.func (.yield l) #[] #[]]++yO.toArray,W1,?_,?_,?_,?_,λh=>by simp[Rd.F,Fence.wide]at h,?_⟩
 ·rw[<-pE,yr,hl];exact run_enterLoop_outer _ _ _ _ _
 ·have:a.eval (.tmp g)= .func (.func c.f) #[] yO.toArray:=by rw[aum.ev (x:= .tmp g) (v:=gv) hgv,auh]
  simp only[resolve,this];simp[go_sem]
 ·intro f' hf';trivial
 ·simp[invoke,go_sem,UQ.Vl]
 ·have h3:=(callsIn_wide (n:=0)).2 auQ;have e9: #[ah.func (.yield l) #[] #[]]++yO.toArray=(nt l::yO).toArray:=by simp[nt]
  rw[e9];refine(h3:CallsIn Fence.wide 0 P c.f _ W1 _).mono ?_;rintro e w' ⟨v,rfl,Z,hr⟩;rw[M2]at hr;obtain⟨st,jump,o,aM,aP,r1,r2,r3,r4,r5,r6,r6b,r7,r8⟩:=hr;have auT:(rec st jump).state≠.busy:=by rw[yr];exact r1
  have fw:=run_endLoop (P:=P) r2 auT;have atr:(rec st jump).pending=jump:=by rw[yr]
  rw[atr]at fw;refine⟨jump,_,fw,?_⟩;have xf:ZA Z l:=by rw[kn];exact .inl MN
  have M8:ZA Z w.heap.size:=by rw[kn];exact .inl hDZ
  have jE:∀(O:Obj) a1,@Fr (Rd.qM w.heap.size) n (lG a) a1->Q (toX o) a1 (w'.putObj l O):=by
   intro O;refine hc w.heap.size o aM (eI aP (ZA Z) 2) _ (lG a) (r4.wz (.inl rfl) (λb hb _=> .inl (r6 b hb)) (.put xf)) ((r5.trans (fW.wz (.put xf))).frame (λb hb=>?_) λb hb=>gL hb) (bw _) ?_ (gL M8) ?_ r7 ?_
   ·rw[kn]at hb;rcases hb with hb|hb|hb
    ·exact .inl (adZ b hb)
    ·exact .inr ⟨(US b hb).2.1,(US b hb).2.2.1⟩
    ·have:=(r6b b hb).1;exact .inl (by omega)
   ·rw[ax.putObj_size];exact(jx.1 r3).1
   ·rw[ax.putObj_heap_other M7];exact r3
   ·rcases r8 with⟨_,h⟩|⟨_,h⟩
    ·exact .inl h
    ·exact .inr h
  have hfa: @Fr (Rd.qM w.heap.size) n (lG a) {a with defers:=[mark w.heap.size]++a.defers}:=by refine @Fr.mk (Rd.qM w.heap.size) n (lG a) _ ha.size ?_ (λt v h=>GW.1 h) (λ_ _ h=>by cases h);show [mark w.heap.size]++a.defers=[mark w.heap.size];rw[ha.defers];rfl
  rcases r8 with⟨rfl,rfl⟩|⟨rfl,rfl⟩
  ·exact jE _ _ hfa
  ·exact wpIn_ret (jE _ _ hfa)
def xO:bL->Option (bL×Nat×Nat×Nat×bL×bL)
 | .seq r (.block id (.rangeFunc (.tmp g) ps assign body))=>match ps.toList with
   |[p1]=>aa (r,id,g,p1,assign,body)
   |_=>none
 |_=>none
def aav:An->Option (J×Bool×List (Out×J)×An)
 | .loop j pr E x=>aa (j,pr,E,x)
 |_=>none
def Il(T:bb D)(Φ:List (az D))(kz:List (It D)):bL->An->∀{ρ:Type},S D->(Out->S D->Option ρ)->Option ρ
 | .seq a b,an,_,σ,k=>match xO (.seq a b)with
   |some (r,id,g,p1,assign,body)=>match aav an.b with
    |some (j,pr,E,x)=>oG an.a.fz σ λσ=>fQ T Φ r an.a.un σ λo aM=>match o with
     | .normal=>Ll T Φ kz g p1 assign body j pr E x.a x.b aM k
     |o=>k o aM
    |none=>none
   |none=>match xO a with
   |some (r,id,g,p1,assign,body)=>match aav an.a.b with
    |some (j,pr,E,x)=>oG an.a.a.fz σ λσ=>fQ T Φ r an.a.a.un σ λo aM=>match o with
     | .normal=>Ll T Φ kz g p1 assign body j pr E x.a x.b aM λo bH=>match o with
       | .normal=>fQ T Φ b an.b bH k
       |o=>k o bH
     |o=>k o aM
    |none=>none
   |none=>oG an.a.fz σ λσ=>fQ T Φ a an.a.un σ λo aM=>match o with
    | .normal=>Il T Φ kz b an.b aM k
    |o=>k o aM
 |_,_,_,_,_=>none
def LF:bL->Bool
 | .seq a b=>(match xO (.seq a b)with
   |some x=>gz x.1&&iT x.1
   |none=>match xO a with
   |some x=>gz x.1&&iT x.1&&gz b&&iT b
   |none=>gz a&&iT a&&LF b)
 |_=>ab
def RD(T:bb D)(Φ:List (az D))(kz:List (It D))(c:az D)(rs:List lc)(code:bL)(an:An)(h:HH D c.ins):Option (HH D c.outs):=match LF code with
 |true=>match yK T c h with
  |some σ=>oG an.fz σ λσ=>Il T Φ kz code an.un σ (uY T c rs)
  |none=>none
 |false=>none
def aau{a:bL}{x:bL×Nat×Nat×Nat×bL×bL}(h:xO a=aa x):a= .seq x.1 (.block x.2.1 (.rangeFunc (.tmp x.2.2.1) #[x.2.2.2.1] x.2.2.2.2.1 x.2.2.2.2.2)):=by
 unfold xO at h;split at h
 case h_2=>cases h
 rename_i r id g ps assign body;split at h
 case h_2=>cases h
 rename_i p1 hp;cases h;have:ps= #[p1]:=by apply Array.ext';rw[hp]
 rw[this]
def aCt(hP:dQ P T)(hR:cE T)(cK:∀c∈Φ,fK P T c)(hm:P.follows .mixedOrders=ab){b:Nat}{c:bL}{an:An}{ρ:Type}{σ:S D}{k:Out->S D->Option ρ}{r:ρ}{fc:Gh D}{w0:ax}{L:List (Nat×ah)}{Q:Exit->Act->ax->Prop}
  (h:fQ T Φ c an σ k=aa r) (hN:gz c=ab) (hS:iT c=ab) (hd:∀t∈writes c,dx t n=ab) (hk:Kn σ γ w L) (eA:Rx.Frame fc w0 γ w) (hb:w0.heap.size<=b) (pD:b<w.heap.size) (cY:γ.o b=2) (bG:w.heap[b]? =aa (.deferred (aa [])))
  (hc:∀o aM aP w1 L1,Kn aM aP w1 L1->Rx.Frame fc w0 aP w1->aP.o b=2->b<w1.heap.size->w1.heap[b]? =aa (.deferred (aa []))->k o aM=aa r->∀a1,@Fr (Rd.qM b) n L1 a1->Q (toX o) a1 w1):
  @CW P n (Rd.qM b) c Q L w:=by
 refine sV (I:=Rd.qM b) hP hR cK hm c an hN (.inl rfl) (@Lb.none P (Rd.qM b) _ _ hS) h (λt ht=>by unfold Rd.eX;rw[hd t ht];rfl) (hk.wz (Z:=λx=>x=b) (c:=3) (.inr rfl) (λb' iw _=>by subst iw;exact .inl cY) (.refl _ w)) ?_
 intro o aM aP w1 L1 m1 m2 m3 m4
 obtain⟨q1,q2⟩:=m2.ro b pD (.inr (gL (Z:=λx=>x=b) rfl))
 have q1:aP.o b=3:=q1.trans (gL (Z:=λx=>x=b) rfl)
 have eK:b<w1.heap.size:=Fs pD m2.size
 refine hc o aM (eI aP (λx=>x=b) 2) w1 L1 (m1.wz (.inl rfl) (λb' iw _=>by subst iw;exact .inr q1) (.refl _ w1)) ?_ (gL (Z:=λx=>x=b) rfl) eK (q2.trans bG) m4
 refine fW.frame (Z:=λx=>x=b) ((((fW.of eA).trans (.wz (.refl _ w))).trans (.of m2)).trans (.wz (.refl _ w1))) (λb' iw=>?_) (λb' iw=>gL iw)
 subst iw
 exact .inl hb
def axP(hP:dQ P T)(hR:cE T)(cK:∀c∈Φ,fK P T c)(hm:P.follows .mixedOrders=ab){kz:List (It D)}(hB:∀q∈kz,BV P T q):∀(c:bL) (an:An) {ρ:Type} {σ:S D} {k:Out->S D->Option ρ} {r:ρ} {γ:Gh D} {w:ax} {L:List (Nat×ah)} {Q:Exit->Act->ax->Prop},LF c=ab->Il T Φ kz c an σ k=aa r->(∀t∈writes c,dx t n=ab)->Kn σ γ w L->
  (∀o aM aP w1 L1,Kn aM aP w1 L1->Rx.Frame γ w aP w1->k o aM=aa r->NK n (Q (toX o)) L1 w1)->
  (∀b o aM aP w1 L1,Kn aM aP w1 L1->Rx.Frame γ w aP w1->aP.o b=2->w.heap.size<=b->b<w1.heap.size->w1.heap[b]? =aa (.deferred (aa []))->k o aM=aa r->∀a1,@Fr (Rd.qM b) n L1 a1->Q (toX o) a1 w1)->CW P n c Q L w:=by
 intro c
 induction c with
 |seq a b tT G5=>
  intro an ρ σ k r γ w L Q hN h hd hk ie km
  unfold LF at hN
  simp only[Il]at h
  have uf:∀t∈writes a,dx t n=ab:=λt ht=>hd t (by simp only[writes];exact bz.2 (.inl ht))
  have w9:∀t∈writes b,dx t n=ab:=λt ht=>hd t (by simp only[writes];exact bz.2 (.inr ht))
  cases TH:xO (.seq a b)with
  |some x=>
   obtain⟨r0,id,g,p1,assign,body⟩:=x
   rw[TH]at hN h
   have he:=aau TH
   dsimp only at hN h he
   injection he with HK DS
   subst HK DS
   simp only[bq]at hN
   split at h
   case h_2=>cases h
   rename_i j pr E x hx
   obtain⟨fb,ic,h⟩:=pG h
   obtain⟨fc,z1,z2,z3⟩:=pF ic hk
   intro a' jV
   refine wpIn_seq ?_
   refine sV hP hR cK hm a _ hN.1 (.inl rfl) (Lb.none hN.2) h (λt ht=>by unfold Rd.eX;rw[uf t ht];rfl) z1 (λo aM aP w1 L1 m1 m2 m3 m4=>?_) a' jV
   have m2:=z2.trans m2
   cases o with
   |normal=>
    refine aaW hP hR cK hm hB m4 m1 (λt ht=>w9 t ?_) ?_
    ·simp only[writes];unfold xN at ht;simp only[cr,bz]at ht⊢;rcases ht with rfl|ht|ht<;>simp[*]
    ·intro b' o bH bf w2 L2 n1 n2 n3 n4 n5 n6 n7 n8;exact km b' o bH bf w2 L2 n1 (m2.trans n2) n5 (lK m2.size n3) n4 n6 n7
   |exit id=>exact ie (.exit id) aM aP w1 L1 m1 m2 m4
   |goto l=>exact ie (.goto l) aM aP w1 L1 m1 m2 m4
   |ret=>exact ie .ret aM aP w1 L1 m1 m2 m4
  |none=>
  rw[TH]at hN h
  dsimp only at hN h
  cases TJ:xO a with
  |none=>
   rw[TJ]at hN h
   simp only[bq]at hN
   obtain⟨fb,ic,h⟩:=pG h
   obtain⟨fc,z1,z2,z3⟩:=pF ic hk
   refine CW.seq λK hK=>?_
   refine sV hP hR cK hm a _ hN.1.1 (.inl rfl) (Lb.none hN.1.2) h (λt ht=>by unfold Rd.eX;rw[uf t ht];rfl) z1 λo aM aP w1 L1 m1 m2 m3 m4=>?_
   have m2:=z2.trans m2
   cases o with
   |normal=>
    refine hK _ _ (G5 _ hN.2 m4 w9 m1 (λo bH bf w2 L2 n1 n2 n3=>ie o bH bf w2 L2 n1 (m2.trans n2) n3) λb' o bH bf w2 L2 n1 n2 n3 n4 n5 n6 n7=>km b' o bH bf w2 L2 n1 (m2.trans n2) n3 (lK m2.size n4) n5 n6 n7)
   |exit id=>exact ie (.exit id) aM aP w1 L1 m1 m2 m4
   |goto l=>exact ie (.goto l) aM aP w1 L1 m1 m2 m4
   |ret=>exact ie .ret aM aP w1 L1 m1 m2 m4
  |some x=>
   obtain⟨r0,id,g,p1,assign,body⟩:=x
   rw[TJ]at hN h
   obtain rfl:=aau TJ
   dsimp only at hN h uf⊢
   simp only[bq]at hN
   split at h
   case h_2=>cases h
   rename_i j pr E x hx
   obtain⟨fb,ic,h⟩:=pG h
   obtain⟨fc,z1,z2,z3⟩:=pF ic hk
   intro a' jV
   refine wpIn_seq (wpIn_seq ?_)
   refine sV hP hR cK hm r0 _ hN.1.1.1 (.inl rfl) (Lb.none hN.1.1.2) h (λt ht=>by unfold Rd.eX;rw[uf t (by simp only[writes];exact bz.2 (.inl ht))];rfl) z1 (λo aM aP w1 L1 m1 m2 m3 m4=>?_) a' jV
   have m2:=z2.trans m2
   cases o with
   |normal=>
    refine aaW hP hR cK hm hB m4 m1 (λt ht=>uf t ?_) ?_
    ·simp only[writes];unfold xN at ht;simp only[cr,bz]at ht⊢;rcases ht with rfl|ht|ht<;>simp[*]
    ·intro b' o bH bf w2 L2 n1 n2 n3 n4 n5 n6 n7 n8;have eA:=m2.trans n2;rcases n8 with rfl|rfl
     ·dsimp only at n7;refine aCt hP hR cK hm n7 hN.1.2 hN.2 w9 n1 eA (lK m2.size n3) n4 n5 n6 ?_;intro o oX jP w3 L3 q1 q2 q3 q4 q5 q6;exact km b' o oX jP w3 L3 q1 q2 q3 (lK m2.size n3) q4 q5 q6
     ·exact km b' .ret bH bf w2 L2 n1 eA n5 (lK m2.size n3) n4 n6 n7
   |exit id=>exact ie (.exit id) aM aP w1 L1 m1 m2 m4
   |goto l=>exact ie (.goto l) aM aP w1 L1 m1 m2 m4
   |ret=>exact ie .ret aM aP w1 L1 m1 m2 m4
 |_=>intro an ρ σ k r γ w L Q hN h;simp[Il]at h
def axw{f:FuncId}{fn:Func}{c:bL}{l:List ah}{R:Ending->ax->Prop}(hf:P.funcs[f]? =aa fn)(hb:fn.body=aa c)(hn:fn.ntmps=n)(hl:ef l.length n=ab)
  (h:CW P n c (bodyPostM Fence.wide 0 P fn R) (sZ 0 l) w):Calls P f l.toArray w R:=by
 have pB:l.length<=n:=by simpa using hl
 refine callsIn_wide.1 (callsIn_of_wp_marks (n:=0) hf hb trivial (h _ ⟨by simp[hn];omega,rfl,λt v hv=>?_,λ_ _ h=>by cases h⟩))
 obtain⟨_,h2⟩:=SK l 0 t v hv
 have ht:t<l.length:=(gH.1 h2).1
 simp only[Nat.sub_zero]at h2
 rw[Array.getElem?_append_left (by simpa using ht)]
 simpa using h2
def aer(hP:dQ P T)(hR:cE T)(cK:∀c∈Φ,fK P T c)(hm:P.follows .mixedOrders=ab){kz:List (It D)}(hB:∀q∈kz,BV P T q){c:az D}{fn:Func}{code:bL}{rs:List lc}{an:An}
  (jT:∀(args:Array ah) (w:ax),(callFunc c.f args).run P w= .ok (.enter c.f args) w)
  (hf:P.funcs[c.f]? =aa fn) (hb:fn.body=aa code) (kR:fn.results=rs.toArray)
  (bU:((writes code).all (λt=>dx t fn.ntmps)&&ef c.args.length fn.ntmps&&sw c.jR c.b7&&mq (c.b7.map bS)&&c.b7.all (λp=>ef 1000 p.1)&&ef c.b7.length 40)=ab)
  (rD:∀h,RD T Φ kz c rs code an h=c.fn h):fK P T c:=by
 simp only[bq]at bU
 obtain⟨⟨⟨⟨⟨hw,hl⟩,jD⟩,AZ⟩,qz⟩,yB⟩:=bU
 refine⟨jT,jD,AZ,qz,yB,λh r hr as eO has nF γ w vs hv bG=>?_⟩
 rw[<-rD]at hr
 unfold RD at hr
 split at hr
 case h_2=>cases hr
 rename_i jp
 split at hr
 case h_2=>cases hr
 rename_i σ lz
 unfold yK at lz
 dsimp only at lz
 split at lz
 case isFalse=>cases lz
 rename_i hc
 rw[has,nF]at lz
 have lz:=jM lz
 subst lz
 simp only[bq,dR]at hc qz hw
 have mx:=O4 (k:=0) hv
 have hlen:=hv.len
 have AX:=Dv has
 refine axw hf hb rfl (by rw[hlen,AX];exact hl) ?_
 obtain⟨fb,ic,hr⟩:=pG hr
 obtain⟨fc,z1,z2,z3⟩:=pF ic (γ:=γ) ⟨mx,bG,bw _⟩
 have fin:∀{bc} {γ':Gh D} {w':ax} {L':List (Nat×ah)},Kn bc γ' w' L'->Rx.Frame γ w γ' w'->uY.fin T c rs bc=aa r->∃vs,zb P L' w' rs vs∧mb (λv w'=>∃U' γ' rs ke,gX T (dE T c.outs r) aa id 3000 c.jR=aa rs∧jC T (dE T c.outs r) aa id 3000 c.b7=aa ke∧
   vS U' γ' w' rs v∧(∀p x,dt ke p=aa x->OR U' γ' w' p x)∧(∀p,(p,p)∈stay c->γ'.g p=γ.g p)∧Frame0 γ w γ' w') (.returned (xP vs)) w':=by
  intro bc γ' w' L' cT eA ho
  obtain⟨vs,h1,bf,uX,ke,h2,h3,h4,h5,h6,h7⟩:=aaw hP hR cT (λq hq=>dm (qz q hq)) (λq hq=>by have:=dm (hc.2 q hq).2;omega) ho
  refine⟨vs,h1,_,rfl,_,bf,uX,ke,h2,h3,h4,h5,λp hp=>?_,eA.toFrame0.trans h7⟩
  rw[h6 p hp]
  refine eA.gk p ?_
  unfold stay at hp
  obtain⟨q,hq,e⟩:=dC.1 hp
  cases e
  obtain⟨q',tZ⟩:=su (List.mem_filter.1 hq).2
  have:=dm (hc.2 _ tZ).2
  simp only at this
  omega
 refine axP hP hR cK hm hB code an.un jp hr hw z1 (λo bc γ' w' L' cT eA ho=>?_) (λb o bc γ' w' L' cT eA cY UE aDk TU ho a1 M1=>?_)
 ·have eA:=z2.trans eA;have one:uY.fin T c rs bc=aa r->∀a,Fr fn.ntmps L' a->LeavesInM Fence.wide 0 P fn a.tmps _ a.defers .returning w':=λho a ha=>by obtain⟨vs,h1,h2⟩:=fin cT eA ho;rw[ha.defers];exact⟨_,zJ (λ_ _ hx=>ha.ev hx) kR h1,h2⟩
  cases o with
  |normal=>exact one ho
  |ret=>exact one ho
  |exit id=>cases ho
  |goto l=>cases ho
 ·have eA:=z2.trans eA;obtain⟨w2,fP⟩:∃w2,w2=w'.putObj b (.deferred none):=⟨_,rfl⟩;have hwz:WZ (λx=>x=b) w' w2:=by rw[fP];exact .put rfl
  have qq:Kn bc (eI γ' (λx=>x=b) 2) w2 L':=cT.wz (.inl rfl) (λb' iw _=>by subst iw;exact .inl cY) hwz;have auo:Rx.Frame γ w (eI γ' (λx=>x=b) 2) w2:=by refine fW.frame (Z:=λx=>x=b) ((fW.of eA).trans (.wz hwz)) (λb' iw=>?_) (λb' iw=>gL iw);subst iw;exact .inl UE
  have one:uY.fin T c rs bc=aa r->LeavesInM Fence.wide 0 P fn a1.tmps _ a1.defers .returning w':=λho=>by
   obtain⟨vs,h1,h2⟩:=fin qq auo ho;rw[@Fr.defers (Rd.qM b) _ _ _ M1];refine⟨by simp,.inl ⟨b,w2,rfl,?_,?_⟩⟩
   ·rw[fP];exact run_takeDeferred TU
   ·exact⟨_,zJ (L:=L') (λ_ _ hx=> @Fr.ev (Rd.qM b) _ _ _ M1 _ _ hx) kR h1,h2⟩
  cases o with
  |normal=>exact one ho
  |ret=>exact one ho
  |exit id=>cases ho
  |goto l=>cases ho
abbrev RC(T:bb D)(Φ:List (az D))(kz:List (It D))(c:az D)(rs:List lc)(code:bL)(an:An):az D:=⟨c.f,c.ins,c.outs,c.args,c.ob,c.jR,c.b7,RD T Φ kz c rs code an⟩
def aoz(hP:dQ P T)(hR:cE T)(cK:∀c∈Φ,fK P T c)(hm:P.follows .mixedOrders=ab){kz:List (It D)}(hB:∀q∈kz,BV P T q){c:az D}{fn:Func}{code:bL}{rs:List lc}{an:An}
  (jT:∀(args:Array ah) (w:ax),(callFunc c.f args).run P w= .ok (.enter c.f args) w)
  (hf:P.funcs[c.f]? =aa fn) (hb:fn.body=aa code) (kR:fn.results=rs.toArray)
  (bU:((writes code).all (λt=>dx t fn.ntmps)&&ef c.args.length fn.ntmps&&sw c.jR c.b7&&mq (c.b7.map bS)&&c.b7.all (λp=>ef 1000 p.1)&&ef c.b7.length 40)=ab):fK P T (RC T Φ kz c rs code an):=
 aer (c:=RC T Φ kz c rs code an) (an:=an) hP hR cK hm hB jT hf hb kR bU λ_=>rfl
