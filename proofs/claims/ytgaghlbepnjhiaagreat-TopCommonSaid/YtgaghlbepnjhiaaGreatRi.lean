import Derived.RangeFuncSeq
import Derived.RangeFuncRecord
import Derived.Test.YtgaghlbepnjhiaaGreatRo
set_option linter.all false
open Array renaming getElem?_eq_some_iff->iR,getElem?_setIfInBounds->F8
open Bool renaming and_eq_true->bt,false->ae,false_eq_true->aC,true->ab
open Go renaming Code->bO,Oper->aV,Operand->ba,Program->cT,ResultVar->lT,TypeId->aX,Value->ai,World->ax
open List renaming all_eq_true->dX,getElem?_eq_some_iff->g9,map_cons->gC,mem_append->bg,mem_cons->cj,mem_map->dk,not_mem_nil->jT
open Nat renaming beq->aW,ble->eN,blt->dJ,eq_of_beq_eq_true->bA,le_of_ble_eq_true->dw,le_refl->bw,le_trans->lR,lt_of_lt_of_le->F1
open Option renaming some->aa
open Option.some renaming inj->kb
open Prod renaming fst->bV
noncomputable section
namespace Go.Proofs.YtgaghlbepnjhiaaGreat
open Go Go.RowKit Dp
namespace Rx
section
variable {P:cT} {Q:Exit->Act->ax->Prop} {L:List (Nat×ai)} {w:ax} {n:Nat}
def OW.round [I:Rd]{o:aV}{R:ai->ax->Prop}(h:∀a,Reads L a->∃l f tmps assign body,(execOp a.eval o).run P w= .ok (.round l f tmps assign body) w∧RoundIn Fence.wide 0 P l f tmps assign body w (mi R)):OW P Q L o w R:=by intro a K ha hK;obtain⟨l,f,tmps,assign,body,h1,h2⟩:=h a ha;unfold aV.wpIn;rw[LG h1 (λ_ h=>by cases h),aV.uponIn_round];refine⟨λf _=>trivial,λh=>by simp[Rd.F,Fence.wide]at h,?_⟩;refine(h2:RoundIn Fence.wide 0 P l f tmps assign body w (mi R)).mono ?_;rintro e w' ⟨v,rfl,hr⟩;exact hK v w' hr
def OW.yield [I:Rd]{x:ba}{args:List ba}{vs:List ai}{l:Nat}{ats:Array aX}{d:Option Tmp}{ty:aX}{pos:String}{af:Array Edge}{g:Option (Nat×Bool)}{R:ai->ax->Prop}(hx:ev L x=aa (.func (.yield l) #[] #[]))(ha:oQ L args=aa vs)
  (hy:YieldAt Fence.wide 0 P l vs.toArray w (mi R)):OW P Q L ⟨d,.call {callee:= .value x,args:=args.toArray,argTypes:=ats},ty,pos,af,g⟩ w R:=by
 obtain⟨fn,tmps,assign,body,h1,h2⟩:=hy
 refine OW.round λa hr=>⟨l,fn,tmps,assign,body,?_,h2⟩
 have h3:args.toArray.map a.eval=vs.toArray:=by rw[<-EB hr _ ha];simp
 simp[execOp,resolve,invoke,Deferred.ofValue,hr _ _ hx]at h3⊢
 rw[h3,h1]
def aDE [I:Rd]{fn:Func}{R:ai->ax->Prop}(sJ:fn.results= #[]){L:List (Nat×ai)}(hI:I.ds=[]){w:ax}(hR:∀v,R v w):NK n (bodyPost P fn (mi R) .ret) L w∧NK n (bodyPost P fn (mi R) .normal) L w:=by
 constructor
 ·exactλa ha=>bodyPost_ret (Ac (rs:=[]) (vs:=[]) (λ_ _ hx=>ha.ev hx) (by rw[sJ]) trivial) (ha.defers.trans hI) ⟨_,rfl,hR _⟩
 ·exactλa ha=>bodyPost_end (Ac (rs:=[]) (vs:=[]) (λ_ _ hx=>ha.ev hx) (by rw[sJ]) trivial) (ha.defers.trans hI) ⟨_,rfl,hR _⟩
def WL.stepG [I:Rd]{ops:Array aV}{rest:List aV}{d gi gs:Nat}{op:Op}{ty:aX}{pos:String}{af:Array Edge}{b:Bool}{og:aV}{R:ai->ax->Prop}(ho:ops[gi]? =aa og)(xa:og.dst=aa gs)(hg:Dp.look L gs=aa (.bool b))(h:OW P Q L ⟨aa d,op,ty,pos,af,aa (gi,b)⟩ w R)(hd:I.fb n d=ab)
  (hk:∀v w',R v w'->WL P n ops Q rest ((d,v)::L) w'):WL P n ops Q (⟨aa d,op,ty,pos,af,aa (gi,b)⟩::rest) L w:=by
 intro a ha
 simp only[wpListIn]
 rw[aI (by simp[Region.wanted,yielded,ho,xa,ha.get gs _ hg])]
 exact h a _ (λx v hx=>ha.ev hx) λv w' hr=>hk v w' hr _ (ha.put hd v)
def WL.aaY [I:Rd]{ops:Array aV}{rest:List aV}{d gi gs:Nat}{op:Op}{ty:aX}{pos:String}{af:Array Edge}{b:Bool}{og:aV}(ho:ops[gi]? =aa og)(xa:og.dst=aa gs)(hg:Dp.look L gs=aa (.bool (!b)))(hd:I.fb n d=ab)
  (hk:WL P n ops Q rest ((d,undef)::L) w):WL P n ops Q (⟨aa d,op,ty,pos,af,aa (gi,b)⟩::rest) L w:=by
 intro a ha
 simp only[wpListIn]
 rw[aK (by cases b<;>simp[Region.wanted,yielded,ho,xa,ha.get gs _ hg])]
 exact⟨λ_ _=>trivial,hk _ (ha.put hd undef)⟩
end
section
variable {D:Nat->Type} [∀n,ad (D n)]
variable {P:cT} {T:bc D} {Φ:List (az D)} {n:Nat}
variable {γ γ' Cn:Gh D} {w w' uY:ax} {Z:Nat->Prop}
structure gf(Z:Nat->Prop)(γ:Gh D)(w:ax)(γ':Gh D)(w':ax):Prop where
 os:w'.os=w.os
 tape:w'.tape=w.tape
 output:w'.output=w.output
 size:w.heap.size<=w'.heap.size
 ro:∀b,¬Z b->b<w.heap.size->(γ.o b=0∨γ.o b=3)->γ'.o b=γ.o b∧w'.heap[b]? =w.heap[b]?
 back:∀b,¬Z b->b<w'.heap.size->(γ'.o b=0∨γ'.o b=3)->b<w.heap.size∧γ.o b=γ'.o b
 gk:∀i,i<2000->γ'.g i=γ.g i
def gf.of(h:Rx.Frame γ w γ' w'):gf Z γ w γ' w':=⟨h.os,h.tape,h.output,h.size,λb _=>h.ro b,λb _=>h.back b,h.gk⟩
def gf.trans(h:gf Z γ w γ' w')(k:gf Z γ' w' Cn uY):gf Z γ w Cn uY:=by
 refine⟨k.os.trans h.os,k.tape.trans h.tape,k.output.trans h.output,lR h.size k.size,λb hz hb hc=>?_,λb hz hb hc=>?_,λi hi=>(k.gk i hi).trans (h.gk i hi)⟩
 ·obtain⟨h1,h2⟩:=h.ro b hz hb hc;obtain⟨k1,k2⟩:=k.ro b hz (F1 hb h.size) (by rw[h1];exact hc);exact⟨k1.trans h1,k2.trans h2⟩
 ·obtain⟨k1,k2⟩:=k.back b hz hb hc;obtain⟨h1,h2⟩:=h.back b hz k1 (by rw[k2];exact hc);exact⟨h1,h2.trans k2⟩
def gf.frame(h:gf Z γ w γ' w')(h1:∀b,Z b->w.heap.size<=b∨(γ.o b≠0∧γ.o b≠3))(h2:∀b,Z b->γ'.o b=2):Rx.Frame γ w γ' w':=⟨⟨h.os,h.tape,h.output,h.size,λb hb hc=>h.ro b (λhz=>by have:=h1 b hz;omega) hb hc,λb hb hc=>h.back b (λhz=>by rw[h2 b hz]at hc;omega) hb hc⟩,h.gk⟩
open Classical in
def eO(γ:Gh D)(Z:Nat->Prop)(c:Nat):Gh D:=⟨λb=>if Z b then c else γ.o b,γ.g,γ.v⟩
def ia{c b:Nat}(h:Z b):(eO γ Z c).o b=c:=by simp[eO,h]
def mB{c b:Nat}(h:¬Z b):(eO γ Z c).o b=γ.o b:=by simp[eO,h]
structure WZ(Z:Nat->Prop)(w w':ax):Prop where
 os:w'.os=w.os
 tape:w'.tape=w.tape
 output:w'.output=w.output
 size:w.heap.size<=w'.heap.size
 same:∀b,¬Z b->b<w.heap.size->w'.heap[b]? =w.heap[b]?
 new:∀b,b<w'.heap.size->b<w.heap.size∨Z b
def WZ.mono{Z':Nat->Prop}(h:WZ Z w w')(hs:∀b,Z b->Z' b):WZ Z' w w':=⟨h.os,h.tape,h.output,h.size,λb hb=>h.same b λhz=>hb (hs b hz),λb hb=>(h.new b hb).imp id (hs b)⟩
def gf.mono{Z':Nat->Prop}(h:gf Z γ w γ' w')(hs:∀b,Z b->Z' b):gf Z' γ w γ' w':=⟨h.os,h.tape,h.output,h.size,λb hb=>h.ro b λhz=>hb (hs b hz),λb hb=>h.back b λhz=>hb (hs b hz),h.gk⟩
def WZ.refl(Z:Nat->Prop)(w:ax):WZ Z w w:=⟨rfl,rfl,rfl,bw _,λ_ _ _=>rfl,λ_ h=> .inl h⟩
def WZ.put{l:Nat}{o:Obj}(h:Z l):WZ Z w (w.putObj l o):=⟨rfl,rfl,rfl,by simp,λb hb _=>ax.putObj_heap_other λe=>hb (e▸h),λb hb=> .inl (by simpa using hb)⟩
def gf.wz{c:Nat}(h:WZ Z w w'):gf Z γ w (eO γ Z c) w':=⟨h.os,h.tape,h.output,h.size,λb hz hb _=>⟨mB hz,h.same b hz hb⟩,λb hz hb _=>⟨(h.new b hb).resolve_right hz,(mB hz).symm⟩,λ_ _=>rfl⟩
def Kn.wz{σ:S D}{L:List (Nat×ai)}{c:Nat}(hk:Kn σ γ w L)(hc:c=2∨c=3)(hZ:∀b,Z b->b<w.heap.size->γ.o b=2∨γ.o b=3)(h:WZ Z w w'):Kn σ (eO γ Z c) w' L:=by
 have fE:iN (λi=>i<σ.nx) (λi=>i<σ.nx) γ w (eO γ Z c) w':=⟨λ_ h=>h,λ_ _=>rfl,λ_ _=>rfl,λb hb aS=>by
  have hz:¬Z b:=λhz=>by have:=hZ b hz hb;omega
  exact⟨mB hz,h.same b hz hb⟩⟩
 refine⟨hk.sr.dn fE,⟨λi x hx=>?_,λb hb=>?_,hk.ob.ro⟩,hk.cO⟩
 ·obtain⟨h1,h2,h3⟩:=hk.ob.ob i x hx;refine⟨h1,h2,h3.dn fE h2 λb hb NJ=>?_⟩;have hz:¬Z b:=λhz=>by have:=hZ b hz hb;omega
  exact⟨mB hz,h.same b hz hb⟩
 ·have:=hk.cO;by_cases hz:Z b
  ·rw[ia hz];show c<σ.nx;omega
  ·rw[mB hz];exact hk.ob.cl b ((h.new b hb).resolve_right hz)
def uA(wr:List Nat)(σ:S D):S D:={σ with sl:=σ.sl.filter λp=> !(bP wr p.1)}
def BP{wr:List Nat}{σ:S D}{t:Nat}:aF (uA wr σ).sl t=if t∈wr then none else aF σ.sl t:=by
 have:=AE (f:=λt=> !(bP wr t)) (l:=σ.sl) (t:=t);unfold uA;simp only;rw[this];by_cases h:t∈wr
 ·rw[eA.2 h];simp[h]
 ·have:bP wr t=ae:=by
   cases hm:bP wr t with
   |true=>exact(h (eA.1 hm)).elim
   |false=>rfl
  rw[this];simp[h]
def Kn.drop{σ:S D}{L:List (Nat×ai)}(h:Kn σ γ w L)(wr:List Nat):Kn (uA wr σ) γ w L:=
 ⟨λt x hx=>by
   rw[BP]at hx;split at hx
   ·cases hx
   ·exact h.sr t x hx,h.ob,h.cO⟩
def Kn.DB{σ:S D}{L L':List (Nat×ai)}(h:Kn σ γ w L)(hs:∀t x v,aF σ.sl t=aa x->Dp.look L t=aa v->Dp.look L' t=aa v):Kn σ γ w L':=
 ⟨λt x hx=>by obtain⟨v,h1,h2⟩:=h.sr t x hx;exact⟨v,hs t x v hx h1,h2⟩,h.ob,h.cO⟩
def Hr{σ ρ:Type}{step:σ->Option (σ⊕ρ)}{N:Nat}{s:σ}{r:ρ}(h:nM step N s=aa r):∃N' y,N=N'+1∧step s=aa y∧((∃s',y= .inl s'∧nM step N' s'=aa r)∨y= .inr r):=by
 cases N with
 |zero=>cases h
 |succ N'=>
  rw[MV]at h;cases hs:step s with
  |none=>rw[hs]at h;cases h
  |some y=>
   rw[hs]at h;cases y with
   |inl s'=>exact⟨N',_,rfl,rfl,.inl ⟨s',rfl,h⟩⟩
   |inr r'=>cases h;exact⟨N',_,rfl,rfl,.inr rfl⟩
def afe(Z:Nat->Prop)(W W':ax):Nat->Prop:=λb=>Z b∨(W.heap.size<=b∧b<W'.heap.size)
structure QA(Z:Nat->Prop)(W:ax)(Z':Nat->Prop)(W':ax):Prop where
 wz:WZ Z' W W'
 sub:∀b,Z b->Z' b
 new:∀b,Z' b->Z b∨(W.heap.size<=b∧b<W'.heap.size)
structure Yi(Z:Nat->Prop)(W W':ax):Prop where
 os:W'.os=W.os
 tape:W'.tape=W.tape
 output:W'.output=W.output
 size:W.heap.size<=W'.heap.size
 same:∀b,Z b->b<W.heap.size->W'.heap[b]? =W.heap[b]?
def tw(fg:Gh D)(w0:ax)(Z:Nat->Prop)(γ:Gh D)(W:ax):Prop:=(∀b,Z b->b<W.heap.size∧γ.o b≠0∧γ.o b≠3)∧∀b,b<W.heap.size->¬Z b->γ.o b=3∨(γ.o b=0∧b<w0.heap.size∧fg.o b=0)
def tw.step{fg aQ bf:Gh D}{w0 W1 W2:ax}(h:tw fg w0 Z aQ W1)(hf:Rx.Frame aQ W1 bf W2):tw fg w0 (afe Z W1 W2) bf W2∧QA Z W1 (afe Z W1 W2) W2:=by
 have hs:=hf.size;refine⟨⟨λb hb=>?_,λb hb hz=>?_⟩,⟨⟨hf.os,hf.tape,hf.output,hf.size,λb hz hb=>?_,λb hb=>?_⟩,λb hb=> .inl hb,λb hb=>hb⟩⟩
 ·rcases hb with hb|⟨h1,h2⟩
  ·obtain⟨k1,k2,k3⟩:=h.1 b hb;have hn:¬(bf.o b=0∨bf.o b=3):=λhc=>by have:=(hf.back b (by omega) hc).2;omega
   exact⟨by omega,λe=>hn (.inl e),λe=>hn (.inr e)⟩
  ·have hn:¬(bf.o b=0∨bf.o b=3):=λhc=>by
    have:=(hf.back b h2 hc).1;omega
   exact⟨h2,λe=>hn (.inl e),λe=>hn (.inr e)⟩
 ·have Bt:b<W1.heap.size:=by
   rcases Nat.lt_or_ge b W1.heap.size with h1|h1
   ·exact h1
   ·exact(hz (.inr ⟨h1,hb⟩)).elim
  have wY:¬Z b:=λh=>hz (.inl h);rcases h.2 b Bt wY with h1|⟨h1,h2,h3⟩
  ·exact .inl ((hf.ro b Bt (.inr h1)).1.trans h1)
  ·exact .inr ⟨(hf.ro b Bt (.inl h1)).1.trans h1,h2,h3⟩
 ·have wY:¬Z b:=λh=>hz (.inl h);rcases h.2 b hb wY with h1|⟨h1,_⟩
  ·exact(hf.ro b hb (.inr h1)).2
  ·exact(hf.ro b hb (.inl h1)).2
 ·rcases Nat.lt_or_ge b W1.heap.size with h1|h1
  ·exact .inl h1
  ·exact .inr (.inr ⟨h1,hb⟩)
def tw.other{fg aQ:Gh D}{w0 W W':ax}{σ:S D}{L:List (Nat×ai)}(h:tw fg w0 Z aQ W)(hk:Kn σ aQ W L)(hy:Yi (λb=>Z b∨(b<w0.heap.size∧fg.o b=0)) W W'):∃bf,Kn σ bf W' L∧tw fg w0 Z bf W'∧bf.g=aQ.g:=by
 obtain⟨Zn,Io⟩:∃Zn:Nat->Prop,Zn=λb=>¬Z b∧¬(b<W.heap.size∧aQ.o b=0):=⟨_,rfl⟩;have eQ:=hy.size;refine⟨eO aQ Zn 3,hk.wz (.inr rfl) (λb hz hb=>?_) ⟨hy.os,hy.tape,hy.output,hy.size,λb hz hb=>?_,λb hb=>?_⟩,⟨λb hb=>?_,λb hb hz=>?_⟩,rfl⟩
 ·rw[Io]at hz;rcases h.2 b hb hz.1 with h1|⟨h1,_⟩
  ·exact .inr h1
  ·exact(hz.2 ⟨hb,h1⟩).elim
 ·refine hy.same b ?_ hb;rw[Io]at hz;by_cases h1:Z b
  ·exact .inl h1
  ·rcases h.2 b hb h1 with h2|⟨h2,h3,h4⟩
   ·exact(hz ⟨h1,λh3=>by omega⟩).elim
   ·exact .inr ⟨h3,h4⟩
 ·rcases Nat.lt_or_ge b W.heap.size with h1|h1
  ·exact .inl h1
  ·refine .inr ?_;rw[Io];exact⟨λhz=>by have:=(h.1 b hz).1;omega,λh2=>by omega⟩
 ·obtain⟨k1,k2,k3⟩:=h.1 b hb;have hn:¬Zn b:=by rw[Io];exactλh=>h.1 hb
  rw[mB hn];exact⟨by omega,k2,k3⟩
 ·by_cases hn:Zn b
  ·exact .inl (ia hn)
  ·rw[mB hn];rw[Io]at hn;by_cases h1:b<W.heap.size∧aQ.o b=0
   ·exact h.2 b h1.1 hz
   ·exact(hn ⟨hz,h1⟩).elim
structure It(D:Nat->Type)where
 f:Nat
 ins:List Ht
 args:List PC
 el:Nat
 fn:HH D ins->Option (List (D el))
def nH(l:Nat):ai:= .func (.yield l) #[] #[]
structure FN(P:cT)(T:bc D)(c:It D):Prop where
 Wb:∀(args:Array ai) (w:ax),(callFunc c.f args).run P w= .ok (.enter c.f args) w
 lt:dJ c.f 1000000=ab
 flat:(T.lv c.el).all jE=ab
 run:∀(h:HH D c.ins) (xs:List (D c.el)),c.fn h=aa xs->∀as,im T (dK T c.ins h) aa id 1100 c.args=aa as->
  ∀(γ:Gh D) (w:ax) (l:Nat) (vs:List ai),jr U0 γ w as vs->OB U0 γ w []->(∀b,b<w.heap.size->γ.o b=0∨γ.o b=3)->
  ∀(Inv:Nat->(Nat->Prop)->ax->Prop) (R:(Nat->Prop)->ax->Prop),Inv 0 (λ_=>False) w->
   (∀m Z W Z' W',Inv m Z W->QA Z W Z' W'->Inv m Z' W')->(∀Z W Z' W',R Z W->QA Z W Z' W'->R Z' W')->(∀Z W,Inv xs.length Z W->R Z W)->
   (∀m Z W y cs,Inv m Z W->xs[m]? =aa y->(∀S w',ad.rd S w' cs y)->YieldAt Fence.wide 0 P l #[pack (ad.agg (D c.el)) cs] W (mi λv W'=>Yi (λb=>Z b∨(b<w.heap.size∧γ.o b=0)) W W'∧((v= .bool ab∧Inv (m+1) Z W')∨(v= .bool ae∧R Z W'))))->
   Calls P c.f (nH l::vs).toArray w (mi λ_ w'=>∃Z,R Z w')
def TX(R0 R1:bO)(b0 b1 r2 r3 r4 r5 tc d3:Nat)(o2 o3 o4 o5:List aV):bO:=.seq R0 (.seq R1 (.block b0 (.loop (.seq (.region r2 o2.toArray ae) (.seq (.cond (.tmp tc) .skip (.exit b0)) (.seq (.block b1 (.seq (.region r3 o3.toArray ae) (.seq (.region r4 o4.toArray ab) (.cond (.tmp d3) .ret .skip)))) (.region r5 o5.toArray ae)))))))
def Hw(fs ys d1 d2 d3 gi gs:Nat)(ats:Array aX)(tb:aX)(pos:String)(a1 a2 a3:Array Edge):List aV:=[⟨aa d1,.call {callee:= .value (.tmp fs),args:= #[.tmp ys],argTypes:=ats},tb,pos,a1,aa (gi,ab)⟩,⟨aa d2,.unOp .not tb (.tmp d1),tb,pos,a2,aa (gi,ab)⟩,⟨aa d3,.pick (.tmp gs) (.tmp d2) (.const (.bool ae)),tb,pos,a3,none⟩]
def fu:List (A1 D)->Option (List (DV D))
 |[]=>aa []
 | .v l d _ _::r=>match fu r with
   |some x=>aa (⟨l,d⟩::x)
   |none=>none
 |_=>none
def Wc(T:bc D)(n:Nat):AC D->Option (D n)
 | .agg l=>if T.ag n then(match fu l with
   |some ds=>T.jf n ds
   |none=>none)else none
 |_=>none
@[reducible] def snoc {α:Type} (xs:List α) (y:α):List α:=xs++[y]
def oE(σ:S D)(j:J):List Nat:=(kept σ j.mv).map bV++σ.lk
def AM(T:bc D)(Φ:List (az D))(o5:List aV)(dr:List Nat)(j:J){n:Nat}(acc:List (D n))(σ:S D):Option ((HH D j.cP×List (D n))⊕List (D n)):=jn T Φ o5 o5 0 (uA dr σ) [] λq_ _=>qO T j q_ λh'=>aa (.inl (h',acc))
def DY(T:bc D)(Φ:List (az D))(n:Nat)(o2 o3 pre o5:List aV)(tc fs ys gs:Nat)(wr dr:List Nat)(j:J)(aO:S D)(s:HH D j.cP×List (D n)):Option ((HH D j.cP×List (D n))⊕List (D n)):=match lF T j wr j.mv aO s.1 with
 |none=>none
 |some cm=>jn T Φ o2 o2 0 {cm with lk:=oE aO j} [] λbL _=>match aF bL.sl tc with
  |some (.c (.one (.v .bool d _ _)))=>EZ d (jn T Φ o3 o3 0 bL [] λpd _=>jn T Φ pre pre 0 pd [] λol lg=>match yB (jq pre []) lg with
   |true=>match aF ol.sl gs with
    |some (.c (.one (.v .bool d _ _)))=>EZ d (match aF ol.sl fs,aF ol.sl ys with
      |some (.c (.one (.own i))),aa (.c a)=>if aW i 1999 then(match Wc T n a with
       |some y=>AM T Φ o5 dr j (snoc s.2 y) ol
       |none=>none)else none
      |_,_=>none) (AM T Φ o5 dr j s.2 ol)
    |_=>none
   |false=>none) (aa (.inr s.2))
  |_=>none
def TV(T:bc D)(Φ:List (az D))(c:It D)(R0 R1:bO)(o2 o3 pre o5:List aV)(tc fs ys gs:Nat)(wr dr:List Nat)(j:J)(a0 a1:An)(h:HH D c.ins):Option (List (D c.el)):=
 match im T (dK T c.ins h) aa id 1100 c.args with
 |none=>none
 |some as=>fX T Φ R0 a0 ⟨(0,.c (.one (.own 1999)))::Fs 1 as,[],2000,[]⟩ λo ff=>match o with
  | .normal=>fX T Φ R1 a1 ff λo aO=>match o with
    | .normal=>qO T j {aO with lk:=oE aO j} λh0=>aG (DY T Φ c.el o2 o3 pre o5 tc fs ys gs wr dr j aO) (h0,[])
    |_=>none
  |_=>none
def TW{o5:List aV}{dr:List Nat}{j:J}{n:Nat}{acc:List (D n)}{σ:S D}{x:(HH D j.cP×List (D n))⊕List (D n)}(h:AM T Φ o5 dr j acc σ=aa x):∃h',x= .inl (h',acc):=by unfold AM at h;obtain⟨_,kJ,_,_,h1⟩:=trace h (pV.mk (λ_=>rfl) rfl rfl rfl);obtain⟨h',_,h2⟩:=sW h1;exact⟨h',(kb h2).symm⟩
def ac2{n:Nat}{o2 o3 pre o5:List aV}{tc fs ys gs:Nat}{wr dr:List Nat}{j:J}{aO:S D}{s:HH D j.cP×List (D n)}{x:(HH D j.cP×List (D n))⊕List (D n)}(h:DY T Φ n o2 o3 pre o5 tc fs ys gs wr dr j aO s=aa x):
  (∃h',x= .inl (h',s.2))∨(∃h' y,x= .inl (h',s.2++[y]))∨x= .inr s.2:=by
 unfold DY at h
 split at h
 case h_1=>cases h
 obtain⟨_,bL,_,_,h1⟩:=trace h (pV.mk (λ_=>rfl) rfl rfl rfl)
 split at h1
 case h_2=>cases h1
 rcases zf h1 with⟨_,h1⟩|⟨_,h1⟩
 ·obtain⟨_,pd,_,_,h2⟩:=trace h1 (pV.mk (λ_=>rfl) rfl rfl rfl);obtain⟨_,ol,_,_,h3⟩:=trace h2 (pV.mk (λ_=>rfl) rfl rfl rfl);split at h3
  case h_2=>cases h3
  split at h3
  case h_2=>cases h3
  rcases zf h3 with⟨_,h3⟩|⟨_,h3⟩
  ·split at h3
   case h_2=>cases h3
   split at h3
   case isFalse=>cases h3
   split at h3
   case h_2=>cases h3
   rename_i y _;obtain⟨h',e⟩:=TW h3;exact .inr (.inl ⟨h',y,e⟩)
  ·obtain⟨h',e⟩:=TW h3;exact .inl ⟨h',e⟩
 ·exact .inr (.inr (kb h1).symm)
def atb{n:Nat}{o2 o3 pre o5:List aV}{tc fs ys gs:Nat}{wr dr:List Nat}{j:J}{aO:S D}{xs:List (D n)}:∀{N:Nat} {s:HH D j.cP×List (D n)},nM (DY T Φ n o2 o3 pre o5 tc fs ys gs wr dr j aO) N s=aa xs->∃t,xs=s.2++t:=by
 intro N;induction N with
 |zero=>intro s h;cases h
 |succ N ih=>
  intro s h;rw[MV]at h;split at h
  ·rename_i s' hs;obtain⟨t,ht⟩:=ih h;rcases ac2 hs with⟨h',e⟩|⟨h',y,e⟩|e
   ·cases e;exact⟨t,ht⟩
   ·cases e;exact⟨y::t,by rw[ht];simp⟩
   ·cases e
  ·rename_i r hs;cases h;rcases ac2 hs with⟨h',e⟩|⟨h',y,e⟩|e
   ·cases e
   ·cases e
   ·cases e;exact⟨[],by simp⟩
  ·cases h
def M6:PC->Bool
 | .one (.rp _ _ _)=>ab
 |_=>ae
def abh{γ γ':Gh D}{w:ax}{U U':Nat->Prop}(ho:γ'.o=γ.o){fl:List (DV D)}{tg:Nat}:∀{ps:List PC} {as:List (AC D)} {vs:List ai},ps.all M6=ab->im T fl aa id tg ps=aa as->jr U γ w as vs->jr U' γ' w as vs
 |[],as,vs,_,h,hv=>by
  cases h;cases vs with
  |nil=>trivial
  |cons _ _=>exact hv.elim
 |p::ps,as,vs,hp,h,hv=>by
  simp only[List.all_cons,bt]at hp;simp only[im]at h;split at h
  case h_2=>cases h
  rename_i a1 a2 g1 g2;cases h;cases vs with
  |nil=>exact hv.elim
  |cons v vs=>
   refine⟨?_,abh ho hp.2 g2 hv.2⟩;have vC:=hv.1;have yO:=hp.1;unfold M6 at yO;split at yO
   case h_2=>cases yO
   simp only[vA,jg]at g1;split at g1
   case h_2=>cases g1
   rename_i a3 h0;cases g1;split at h0
   case h_2=>cases h0
   cases h0;obtain⟨pa,e1,e2,e3⟩:=vC;exact⟨pa,e1,by rw[ho];exact e2,e3⟩
def afG{U:Nat->Prop}:∀{l:List (A1 D)} {us:List ai} {ds:List (DV D)},fu l=aa ds->dj U γ w l us->(ds.map DV.l).all jE=ab->∀(S:Nat->Prop) (w':ax),cz S w' us ds
 |[],us,ds,h,hv,_,S,w'=>by
  cases h;cases us with
  |nil=>trivial
  |cons _ _=>exact hv.elim
 |a::l,us,ds,h,hv,eL,S,w'=>by
  cases us with
  |nil=>cases a<;>exact hv.elim
  |cons u us=>
   unfold fu at h;split at h
   case h_1 e=>cases e
   case h_3=>cases h
   rename_i lf d K g r e;cases e;split at h
   case h_2=>cases h
   rename_i x hx;cases h;simp only[gC,List.all_cons,bt]at eL;exact⟨dI.flat eL.1 hv.1.1,afG hx hv.2 eL.2 S w'⟩
def ayP(hR:cK T){U:Nat->Prop}{n:Nat}{a:AC D}{y:D n}{v:ai}(h:Wc T n a=aa y)(eL:(T.lv n).all jE=ab)(hv:nA U γ w a v):∃us,v=pack (ad.agg (D n)) us∧∀S w',ad.rd S w' us y:=by
 unfold Wc at h;split at h
 case h_2=>cases h
 split at h
 case isFalse=>cases h
 rename_i Im;split at h
 case h_2=>cases h
 rename_i ds hds;obtain⟨us,rfl,h2⟩:=hv;refine⟨us,by unfold pack;rw[hR.ag,aI Im],λS w'=>(hR.rd n S w' us y).2 ?_⟩;have e:=hR.jf h;rw[e];refine afG hds h2 ?_ S w';rw[<-e];unfold bc.out;rw[Ti];exact eL
def as_(hP:ef P T)(hR:cK T)(cU:∀c∈Φ,gz P T c)(hm:P.follows .mixedOrders=ab){c:It D}{fn:Func}{R0 R1:bO}{b0 b1 r2 r3 r4 r5 tc d1 d2 d3 fs ys gi gs:Nat}{o2 o3 pre o5:List aV}{ats:Array aX}{tb:aX}{pos:String}{e1 e2 e3:Array Edge}{wr:List Nat}{j:J}{a0 a1:An}
  (kW:∀(args:Array ai) (w:ax),(callFunc c.f args).run P w= .ok (.enter c.f args) w)
  (hf:P.funcs[c.f]? =aa fn) (hb:fn.body=aa (TX R0 R1 b0 b1 r2 r3 r4 r5 tc d3 o2 o3 (pre++Hw fs ys d1 d2 d3 gi gs ats tb pos e1 e2 e3) o5)) (sJ:fn.results= #[])
  (b6:(dJ c.f 1000000&&(T.lv c.el).all jE&&c.args.all M6&&eN (c.args.length+1) fn.ntmps&&gT R0&&je R0&&gT R1&&je R1&&(writes R0++writes R1++wr).all (λt=>dJ t fn.ntmps)&&
    (d1::d2::d3::(dstsOf o2++dstsOf o3++dstsOf pre++dstsOf o5)).all (bP wr)&&E5 pre (Hw fs ys d1 d2 d3 gi gs ats tb pos e1 e2 e3)&&yb pre (jq pre []) 0 pre []&&
    (match pre[gi]? with|some o=>(match o.dst with|some d=>aW d gs|none=>ae)|none=>ae)&& !(aW d1 gs)&& !(aW d2 gs))=ab)
  (rJ:∀h,TV T Φ c R0 R1 o2 o3 pre o5 tc fs ys gs wr [d1,d2,d3] j a0 a1 h=c.fn h):FN P T c:=by
 simp only[bt,Bool.not_eq_true']at b6
 obtain⟨⟨⟨⟨⟨⟨⟨⟨⟨⟨⟨⟨⟨⟨s1,s2⟩,s3⟩,s4⟩,s5⟩,s6⟩,s7⟩,s8⟩,s9⟩,s10⟩,s11⟩,s12⟩,G2⟩,s14⟩,s15⟩:=b6
 refine⟨kW,s1,s2,λh xs hx as has γ w l vs hv bK dh Inv R Eu Bw aEX avS hstep=>?_⟩
 rw[<-rJ]at hx
 unfold TV at hx
 rw[has]at hx
 dsimp only at hx
 obtain⟨og,HU,xa⟩:∃og,(pre++Hw fs ys d1 d2 d3 gi gs ats tb pos e1 e2 e3).toArray[gi]? =aa og∧og.dst=aa gs:=by
  split at G2
  case h_2=>cases G2
  rename_i o ho;split at G2
  case h_2=>cases G2
  rename_i d hd;have:=bA G2;subst this;have aS:=(g9.1 ho).1;refine⟨o,?_,hd⟩;rw[List.getElem?_toArray,List.getElem?_append_left aS];exact ho
 have aeb:d1≠gs:=λe=>by subst e;simp at s14
 have UN:d2≠gs:=λe=>by subst e;simp at s15
 have aS:∀t∈writes R0++writes R1++wr,dJ t fn.ntmps=ab:=λt ht=>dX.1 s9 t ht
 have auP:∀t∈writes R0,Rd.fb Rd.plain fn.ntmps t=ab:=λt ht=>by unfold Rd.fb;rw[aS t (by simp[ht])];rfl
 have auO:∀t∈writes R1,Rd.fb Rd.plain fn.ntmps t=ab:=λt ht=>by unfold Rd.fb;rw[aS t (by simp[ht])];rfl
 have sM:∀t,bP wr t=ab->Rd.fb Rd.plain fn.ntmps t=ab:=λt ht=>by unfold Rd.fb;rw[aS t (bg.2 (.inr (eA.1 ht)))];rfl
 have gU:∀t∈d1::d2::d3::(dstsOf o2++dstsOf o3++dstsOf pre++dstsOf o5),bP wr t=ab:=λt ht=>dX.1 s10 t ht
 have fW:∀t∈dstsOf o2,bP wr t=ab:=λt ht=>gU t (by simp[ht])
 have tZ:∀t∈dstsOf o3,bP wr t=ab:=λt ht=>gU t (by simp[ht])
 have hw4:∀t∈dstsOf pre,bP wr t=ab:=λt ht=>gU t (by simp[ht])
 have hw5:∀t∈dstsOf o5,bP wr t=ab:=λt ht=>gU t (by simp[ht])
 have Ui:=gU d1 (by simp)
 have Nd:=gU d2 (by simp)
 have Nc:=gU d3 (by simp)
 obtain⟨Cm,ads⟩:∃Cm:Gh D,Cm=⟨γ.o,λi=>if i=1999 then nH l else γ.g i,γ.v⟩:=⟨_,rfl⟩
 have hgy:Cm.g 1999=nH l:=by rw[ads];show(if 1999=1999 then nH l else γ.g 1999)=nH l;exact aI rfl
 have Nq:Cm.o=γ.o:=by rw[ads]
 have mJ:Kn ⟨(0,.c (.one (.own 1999)))::Fs 1 as,[],2000,[]⟩ Cm w (tu 0 (nH l::vs)):=by refine⟨SR.cons (PW (k:=1) (abh Nq s3 has hv)) ⟨by show 1999<2000;omega,hgy.symm,rfl⟩,⟨λi x hx=>by simp[dC,aF]at hx,λb hb=>by rw[Nq];exact bK.cl b hb,bK.ro⟩,bw _⟩
 have ab2:tw γ w (λ_=>False) Cm w:=⟨λb h=>h.elim,λb hb _=>by rw[Nq];exact(dh b hb).elim (λh=> .inr ⟨h,hb,h⟩) .inl⟩
 have aeH:∀{Z:Nat->Prop} {W:ax} {L:List (Nat×ai)},R Z W->NK fn.ntmps (bodyPost P fn (mi λ_ w'=>∃Z,R Z w') .ret) L W∧NK fn.ntmps (bodyPost P fn (mi λ_ w'=>∃Z,R Z w') .normal) L W:=λhr=>aDE sJ rfl λ_=>⟨_,hr⟩
 refine enter (n:=fn.ntmps) (l:=nH l::vs) hf hb rfl ?_ ?_
 ·rw[List.length_cons,hv.len,D0 has];exact s4
 unfold TX
 refine CW.seq λKa hKa=>?_
 refine tf hP hR cU hm R0 a0 s5 (.inl rfl) (Lb.none s6) hx auP mJ λo ff fg w0 L0 m1 m2 m3 m4=>?_
 cases o with
 |exit id=>cases m4
 |goto l=>cases m4
 |ret=>cases m4
 |normal=>
 obtain⟨ab1,st1⟩:=ab2.step m2
 have hI1:=Bw _ _ _ _ _ Eu st1
 have yT:=(m2.gk 1999 (by omega)).trans hgy
 refine hKa _ _ ?_
 dsimp only at m4
 refine CW.seq λKb hKb=>?_
 refine tf hP hR cU hm R1 a1 s7 (.inl rfl) (Lb.none s8) m4 auO m1 λo aO aQ w1 L1 n1 n2 n3 n4=>?_
 cases o with
 |exit id=>cases n4
 |goto l=>cases n4
 |ret=>cases n4
 |normal=>
 obtain⟨ari,st2⟩:=ab1.step n2
 have hI2:=Bw _ _ _ _ _ hI1 st2
 have hg2:=(n2.gk 1999 (by omega)).trans yT
 refine hKb _ _ ?_
 dsimp only at n4
 clear m1 m2 m3 m4 hKa hKb ab2 ab1 Eu hI1 yT st1 st2 n2 n3
 obtain⟨h0,pF,yQ⟩:=sW n4
 refine CW.block ?_
 obtain⟨step,Ut⟩:∃step,step=DY T Φ c.el o2 o3 pre o5 tc fs ys gs wr [d1,d2,d3] j aO:=⟨_,rfl⟩
 rw[<-Ut]at yQ
 have head:∀{s:HH D j.cP×List (D c.el)} {q_:S D} {jw:Gh D} {W:ax} {L5:List (Nat×ai)} {Z:Nat->Prop},Kn q_ jw W L5->ck wr {aO with lk:=oE aO j} q_->zA T j q_ s.1->tw γ w Z jw W->Inv s.2.length Z W->jw.g 1999=nH l->∀cm,lF T j wr j.mv aO s.1=aa cm->
   ∃gQ Z,Kn cm gQ W L5∧tw γ w Z gQ W∧Inv s.2.length Z W∧gQ.g 1999=nH l∧ck wr {aO with lk:=oE aO j} {cm with lk:=oE aO j}:=by
  intro s q_ jw W L5 Z k1 k2 k3 k4 k5 k6 cm hi
  obtain⟨bf,q1,q2,q3,_⟩:=AL hR rfl n1 k1 k2 k3 hi
  obtain⟨t1,t2⟩:=k4.step q2
  exact⟨bf,_,q1,t1,Bw _ _ _ _ _ k5 t2,(q2.gk 1999 (by omega)).trans k6,q3⟩
 refine CW.loop step (λs L W=>(∃N,nM step N s=aa xs)∧∀cm,lF T j wr j.mv aO s.1=aa cm->∃gQ Z,Kn cm gQ W L∧tw γ w Z gQ W∧Inv s.2.length Z W∧gQ.g 1999=nH l∧ck wr {aO with lk:=oE aO j} {cm with lk:=oE aO j}) (acH yQ) ⟨⟨_,yQ⟩,head (n1.lk _) (ck.refl _ _) pF ari hI2 hg2⟩ ?_
 rintro K s L' W ⟨⟨N,hN⟩,hinv⟩ x AZ D8 yN
 obtain⟨N',y',_,w8,ub⟩:=Hr hN
 rw[AZ]at w8
 cases w8
 have aEA:=AZ
 rw[Ut]at AZ
 unfold DY at AZ
 split at AZ
 case h_1=>cases AZ
 rename_i cm na
 obtain⟨gQ,Z,k1,k2,k3,k4,k5⟩:=hinv cm na
 have tail:∀{Q':Exit->Act->ax->Prop} {acc:List (D c.el)} {ol:S D} {jw:Gh D} {W5:ax} {L4:List (Nat×ai)} {Z:Nat->Prop} {v1 v2 v3:ai},AM T Φ o5 [d1,d2,d3] j acc ol=aa x->Kn ol jw W5 L4->tw γ w Z jw W5->Inv acc.length Z W5->jw.g 1999=nH l->ck wr {aO with lk:=oE aO j} ol->
   CW P fn.ntmps (.region r5 o5.toArray ae) (Exit.then K Q') ((d3,v3)::(d2,v2)::(d1,v1)::L4) W5:=by
  intro Q' acc ol jw W5 L4 Z v1 v2 v3 hi t1 t2 t3 t4 t5
  have vH:Kn (uA [d1,d2,d3] ol) jw W5 ((d3,v3)::(d2,v2)::(d1,v1)::L4):=(t1.drop _).DB λt y v hy hv=>by
   rw[BP]at hy;split at hy
   case isTrue=>cases hy
   rename_i hn;simp only[cj,jT,kF,not_or]at hn;rw[il _ _ (Ne.symm hn.2.2),il _ _ (Ne.symm hn.2.1),il _ _ (Ne.symm hn.1)];exact hv
  have hed:ck wr {aO with lk:=oE aO j} (uA [d1,d2,d3] ol):=t5.trans ⟨λt ht=>by
   rw[BP,aK];intro hm;simp only[cj,jT,kF]at hm;rcases hm with rfl|rfl|rfl
   ·exact ht (eA.1 Ui)
   ·exact ht (eA.1 Nd)
   ·exact ht (eA.1 Nc),rfl,λ_ _=>rfl,bw _⟩
  unfold AM at hi
  refine CW.region (tp hP hR cU hi (λt ht=>sM t (hw5 t ht)) vH λq_ _ γ6 w6 L6 u1 u2 u3 u4=>?_)
  obtain⟨h',d_,e⟩:=sW u4
  have e:=(kb e).symm
  obtain⟨t6,t7⟩:=t2.step u2
  refine yN (h',acc) L6 w6 e ⟨⟨N',?_⟩,head u1 (hed.trans (u3.mono λt ht=>eA.1 (hw5 t ht))) d_ t6 (Bw _ _ _ _ _ t3 t7) ((u2.gk 1999 (by omega)).trans t4)⟩
  rcases ub with⟨s',q1,q2⟩|q1
  ·rw[e]at q1;cases q1;exact q2
  ·rw[e]at q1;cases q1
 refine CW.seq λK2 iL=>?_
 refine CW.region (tp hP hR cU AZ (λt ht=>sM t (fW t ht)) (k1.lk _) λbL lg2 bf w2 L2 m1 m2 m3 m4=>?_)
 refine iL _ _ ?_
 split at m4
 case h_2=>cases m4
 rename_i d _ _ AY
 obtain⟨vd,f1,f2⟩:=m1.sr _ _ AY
 have f2:vd= .bool d:=f2.1
 subst f2
 obtain⟨p1,p2⟩:=k2.step m2
 have rN:=Bw _ _ _ _ _ k3 p2
 have Ie:=(m2.gk 1999 (by omega)).trans k4
 have hea:=k5.trans (m3.mono λt ht=>eA.1 (fW t ht))
 refine CW.seq λK3 mc=>?_
 refine CW.cond f1 (λhd=>CW.skip (mc _ _ ?_)) (λhd=>CW.exit ?_)
 ·subst hd;rcases zf m4 with⟨_,m4⟩|⟨h,_⟩
  case inr=>cases h
  refine CW.seq λK4 nW=>?_;refine CW.block ?_;refine CW.seq λK5 lJ=>?_;refine CW.region (tp hP hR cU m4 (λt ht=>sM t (tZ t ht)) m1 λpd lg3 jU w3 L3 n1 n2 n3 n4=>lJ _ _ ?_);obtain⟨p3,p4⟩:=p1.step n2;have Iz:=Bw _ _ _ _ _ rN p4;have Nz:=(n2.gk 1999 (by omega)).trans Ie;have heb:=hea.trans (n3.mono λt ht=>eA.1 (tZ t ht));refine CW.seq λK6 Et=>?_;refine akK hP hR cU hm s11 s12 n4 (λt ht=>sM t (hw4 t ht)) n1 λol γ4 w4 L4 q1 q2 q3 q4=>?_;obtain⟨p5,p6⟩:=p3.step q2;have hIc:=Bw _ _ _ _ _ Iz p6;have Ic:=(q2.gk 1999 (by omega)).trans Nz;have hec:=heb.trans (q3.mono λt ht=>eA.1 (hw4 t ht));split at q4
  case h_2=>cases q4
  rename_i dg _ _ Eh;obtain⟨vg,g1,g2⟩:=q1.sr _ _ Eh;have g2:vg= .bool dg:=g2.1;subst g2;have go:∀{v1 v2:ai} {jw:Gh D} {W5:ax} {Z:Nat->Prop} {acc:List (D c.el)},AM T Φ o5 [d1,d2,d3] j acc ol=aa x->Kn ol jw W5 L4->tw γ w Z jw W5->Inv acc.length Z W5->jw.g 1999=nH l->∀{Lx:List (Nat×ai)},Lx=(d3,.bool ae)::(d2,v2)::(d1,v1)::L4->NK fn.ntmps K6 Lx W5:=by intro v1 v2 jw W5 Z acc h1 h2 h3 h4 h5 Lx e;subst e;refine Et _ _ (CW.cond (iX _ _ _) (λh=>by cases h) λ_=>CW.skip (nW _ _ (tail h1 h2 h3 h4 h5 hec)))
  rcases zf q4 with⟨vO,q4⟩|⟨vO,q4⟩
  ·subst vO;split at q4
   case h_2=>cases q4
   rename_i i a hfs nO;split at q4
   case isFalse=>cases q4
   rename_i hi;have hi:=bA hi;subst hi;split at q4
   case h_2=>cases q4
   rename_i y xh;obtain⟨h',HG⟩:=TW q4;obtain⟨ve,f3,f4⟩:=q1.sr _ _ nO;obtain⟨us,rfl,sK⟩:=ayP hR xh s2 f4;obtain⟨vf,f5,f6⟩:=q1.sr _ _ hfs;have f6:vf=nH l:=f6.2.1.trans Ic;subst f6;have auW:xs[s.2.length]? =aa y:=by
    rcases ub with⟨s',t1,t2⟩|t1
    ·rw[HG]at t1;cases t1;rw[Ut]at t2;obtain⟨t,ht⟩:=atb t2;rw[ht];simp
    ·rw[HG]at t1;cases t1
   refine WL.stepG HU xa g1 (OW.yield (args:=[.tmp ys]) f5 (by simp[Dp.oQ,Dp.ev,f3]) (hstep _ _ _ _ _ hIc auW sK)) (sM _ Ui) ?_;rintro v W5 ⟨nO,w_⟩;obtain⟨jw,t1,t2,t3⟩:=p5.other q1 nO;have hg5:jw.g 1999=nH l:=by rw[t3];exact Ic
   have lg:Dp.look ((d1,v)::L4) gs=aa (.bool ab):=by rw[il _ _ aeb];exact g1
   rcases w_ with⟨rfl,hI5⟩|⟨rfl,hR5⟩
   ·refine WL.stepG HU xa lg (OW.pv (v:= .bool ae) (by simp[Dp.pv,Dp.ev,iX])) (sM _ Nd) ?_;rintro _ _ ⟨rfl,rfl⟩;refine WL.v (v:= .bool ae) (by simp[Dp.pv,Dp.ev,iX,il _ _ UN,lg]) (sM _ Nc) ?_;exact WL.nil (go q4 t1 t2 (by rw[List.length_append];exact hI5) hg5 rfl)
   ·refine WL.stepG HU xa lg (OW.pv (v:= .bool ab) (by simp[Dp.pv,Dp.ev,iX])) (sM _ Nd) ?_;rintro _ _ ⟨rfl,rfl⟩;refine WL.v (v:= .bool ab) (by simp[Dp.pv,Dp.ev,iX,il _ _ UN,lg]) (sM _ Nc) ?_;refine WL.nil (Et _ _ (CW.cond (iX _ _ _) (λ_=>?_) λh=>by cases h));intro a' jY;exact wpIn_ret ((aeH hR5).1 a' jY)
  ·subst vO;refine WL.aaY HU xa g1 (sM _ Ui) ?_;have lg:Dp.look ((d1,undef)::L4) gs=aa (.bool ae):=by rw[il _ _ aeb];exact g1
   refine WL.aaY HU xa lg (sM _ Nd) ?_;refine WL.v (v:= .bool ae) (by simp[Dp.pv,Dp.ev,iX,il _ _ UN,lg]) (sM _ Nc) ?_;exact WL.nil (go q4 q1 p5 hIc Ic rfl)
 ·subst hd;rcases zf m4 with⟨h,_⟩|⟨_,m4⟩
  case inl=>cases h
  have e:=kb m4;have e2:=D8 s.2 e.symm;have hIe:R _ w2:=avS _ _ (by rw[<-e2];exact rN);intro a' jY;show(if b0=b0 then bodyPost P fn (mi λ_ w'=>∃Z,R Z w') .normal a' w2 else bodyPost P fn (mi λ_ w'=>∃Z,R Z w') (.exit b0) a' w2);rw[aI rfl];exact(aeH hIe).2 a' jY
structure li where
 R0:bO
 R1:bO
 b0:Nat
 b1:Nat
 r2:Nat
 r3:Nat
 r4:Nat
 r5:Nat
 tc:Nat
 o2:List aV
 o3:List aV
 pre:List aV
 post:List aV
 o5:List aV
def Ta:ba->Nat
 | .tmp t=>t
 |_=>0
def kZ(l:List aV)(k:Nat):Nat:=match l[k]? with
 |some o=>match o.dst with
  |some d=>d
  |none=>0
 |none=>0
def atc:bO->li
 | .seq R0 (.seq R1 (.block b0 (.loop (.seq (.region r2 o2 _) (.seq (.cond x _ _) (.seq (.block b1 (.seq (.region r3 o3 _) (.seq (.region r4 o4 _) _))) (.region r5 o5 _)))))))=>
   ⟨R0,R1,b0,b1,r2,r3,r4,r5,Ta x,o2.toList,o3.toList,o4.toList.take (o4.toList.length-3),o4.toList.drop (o4.toList.length-3),o5.toList⟩
 |_=>⟨.skip,.skip,0,0,0,0,0,0,0,[],[],[],[],[]⟩
def Xa(l:List aV):Option Call:=match l[0]? with
 |some o=>match o.op with
  | .call c=>aa c
  |_=>none
 |none=>none
def li.fs(g:li):Nat:=match Xa g.post with
 |some c=>match c.callee with
  | .value x=>Ta x
  |_=>0
 |none=>0
def li.ys(g:li):Nat:=match Xa g.post with
 |some c=>match c.args.toList with
  |[x]=>Ta x
  |_=>0
 |none=>0
def li.ats(g:li):Array aX:=match Xa g.post with
 |some c=>c.argTypes
 |none=> #[]
def li.gi(g:li):Nat:=match g.post[0]? with
 |some o=>match o.guard with
  |some (i,_)=>i
  |none=>0
 |none=>0
def li.gs(g:li):Nat:=kZ g.pre g.gi
def li.tb(g:li):aX:=match g.post[0]? with
 |some o=>o.type
 |none=>0
def li.pos(g:li):String:=match g.post[0]? with
 |some o=>o.pos
 |none=> ""
def li.e(g:li)(k:Nat):Array Edge:=match g.post[k]? with
 |some o=>o.after
 |none=> #[]
def li.code(g:li):bO:=TX g.R0 g.R1 g.b0 g.b1 g.r2 g.r3 g.r4 g.r5 g.tc (kZ g.post 2) g.o2 g.o3 (g.pre++Hw g.fs g.ys (kZ g.post 0) (kZ g.post 1) (kZ g.post 2) g.gi g.gs g.ats g.tb g.pos (g.e 0) (g.e 1) (g.e 2)) g.o5
def ate(T:bc D)(Φ:List (az D))(c:It D)(g:li)(wr:List Nat)(j:J)(a0 a1:An)(h:HH D c.ins):Option (List (D c.el)):=TV T Φ c g.R0 g.R1 g.o2 g.o3 g.pre g.o5 g.tc g.fs g.ys g.gs wr [kZ g.post 0,kZ g.post 1,kZ g.post 2] j a0 a1 h
def ata(T:bc D)(c:It D)(fn:Func)(g:li)(wr:List Nat):Bool:=dJ c.f 1000000&&(T.lv c.el).all jE&&c.args.all M6&&eN (c.args.length+1) fn.ntmps&&gT g.R0&&je g.R0&&gT g.R1&&je g.R1&&(writes g.R0++writes g.R1++wr).all (λt=>dJ t fn.ntmps)&&
     (kZ g.post 0::kZ g.post 1::kZ g.post 2::(dstsOf g.o2++dstsOf g.o3++dstsOf g.pre++dstsOf g.o5)).all (bP wr)&&E5 g.pre (Hw g.fs g.ys (kZ g.post 0) (kZ g.post 1) (kZ g.post 2) g.gi g.gs g.ats g.tb g.pos (g.e 0) (g.e 1) (g.e 2))&&yb g.pre (jq g.pre []) 0 g.pre []&&
     (match g.pre[g.gi]? with|some o=>(match o.dst with|some d=>aW d g.gs|none=>ae)|none=>ae)&& !(aW (kZ g.post 0) g.gs)&& !(aW (kZ g.post 1) g.gs)
def atd(hP:ef P T)(hR:cK T)(cU:∀c∈Φ,gz P T c)(hm:P.follows .mixedOrders=ab){c:It D}{fn:Func}{g:li}{wr:List Nat}{j:J}{a0 a1:An}
 (kW:∀(args:Array ai) (w:ax),(callFunc c.f args).run P w= .ok (.enter c.f args) w)
 (hf:P.funcs[c.f]? =aa fn) (hb:fn.body=aa g.code) (sJ:fn.results= #[]) (b6:ata T c fn g wr=ab)
 (rJ:∀h,ate T Φ c g wr j a0 a1 h=c.fn h):FN P T c:=as_ hP hR cU hm kW hf hb sJ b6 rJ
def O5(K:List Nat):List (DV D)->List (A1 D)
 |[]=>[]
 |⟨l,d⟩::r=> .v l d (AK K l) 0::O5 K r
def SK(c:bO):Bool:=gT c&&je c&&kU c
def lO(a:Act):List (Nat×ai):=tu 0 a.tmps.toList
def acL:∀(l:List ai) (k t:Nat) (v:ai),k<=t->l[t-k]? =aa v->Dp.look (tu k l) t=aa v
 |[],k,t,v,_,h=>by simp at h
 |u::r,k,t,v,hk,h=>by
  unfold tu;by_cases hkt:k=t
  ·subst hkt;rw[iX];simpa using h
  ·rw[il _ _ hkt];refine acL r (k+1) t v (by omega) ?_;rw[show t-k=(t-(k+1))+1 by omega]at h;simpa using h
def Hs{a:Act}{t:Nat}{v:ai}:Dp.look (lO a) t=aa v↔a.tmps[t]? =aa v:=by
 constructor
 ·intro h;obtain⟨_,h2⟩:=TF _ _ _ _ h;simpa using h2
 ·intro h;exact acL _ _ _ _ (Nat.zero_le _) (by simpa using h)
def Kn.all [Rd]{σ:S D}{L:List (Nat×ai)}{a:Act}(h:Kn σ γ w L)(ha:Fr n L a):Kn σ γ w (lO a):=
 ⟨λt x hx=>by obtain⟨v,h1,h2⟩:=h.sr t x hx;exact⟨v,Hs.2 (ha.get t v h1),h2⟩,h.ob,h.cO⟩
def axt [Rd]{L:List (Nat×ai)}{a:Act}(ha:Fr n L a):Fr n (lO a) a:=⟨ha.size,ha.defers,λt v h=>Hs.1 h,ha.fix⟩
def T6{j:J}{wr mv:List Nat}{σ bL:S D}{h:HH D j.cP}(hi:lF T j wr mv σ h=aa bL){t:Nat}{a:AV D}(ht:aF bL.sl t=aa a):(t∈j.sl.map bV∧t∈wr)∨t∉wr:=by
 unfold lF at hi;dsimp only at hi;split at hi
 case isFalse=>cases hi
 rename_i hc;split at hi
 case h_2=>cases hi
 rename_i sa sb rG Uu;cases hi;simp only[bt,dX]at hc;simp only at ht;rw[kq]at ht;cases hl:aF sa t with
 |some x=>
  unfold qy at rG;split at rG
  case h_2=>cases rG
  cases rG;have hk:=QK hl;obtain⟨q,hq,e⟩:=dk.1 hk;exact .inl ⟨hk,e▸eA.1 (hc.1.2 q hq)⟩
 |none=>rw[hl]at ht;right;intro hw;have:=AE (f:=λt=> !(bP wr t)) (l:=σ.sl) (t:=t);rw[eA.2 hw]at this;simp only[Bool.not_true,aC,aB]at this;simp only at ht;rw[this]at ht;cases ht
def ayx{j:J}{σ:S D}{h:HH D j.cP}(hx:zA T j σ h){t:Nat}(ht:t∈j.sl.map bV):∃a,aF σ.sl t=aa a:=by
 obtain⟨fp,l,m,ha,_⟩:=hx.ex;have key:∀{js:List (Nat×PC)} {fp:List (AV D)},B6 σ.sl js=aa fp->t∈js.map bV->∃a,aF σ.sl t=aa a:=by
  intro js;induction js with
  |nil=>intro fp _ h;simp at h
  |cons q js ih=>
   intro fp h hm;obtain⟨t0,p⟩:=q;simp only[B6]at h;split at h
   case h_2=>cases h
   rename_i x y h1 h2;simp only[gC,cj]at hm;rcases hm with rfl|hm
   ·exact⟨x,h1⟩
   ·exact ih h2 hm
 exact key ha ht
def WY{U:Nat->Prop}{K:List Nat}(hK:eo K):∀{ds:List (DV D)} {us:List ai},cz (In γ.o K) w us ds->dj U γ w (O5 K ds) us
 |[],[],_=>trivial
 |⟨lf,x⟩::ds,u::us,h=>by
  refine⟨⟨?_,.inl rfl,?_⟩,WY hK h.2⟩
  ·have h1:=h.1;cases lf with
   |sl m=>exact h1
   |_=>exact h1
  ·cases lf with
   |sl m=>exact hK
   |_=>exactλ_ h=>by cases h
 |[],_::_,h=>h.elim
 |_::_,[],h=>h.elim
def ab0{U:Nat->Prop}{g:Bool}{cs:List (A1 D)}{us:List ai}{x:AV D}(h:dj U γ w cs us)(hx:vq g cs=aa x):gW U γ w x (pack g us):=by
 unfold vq at hx;cases g with
 |true=>cases hx;exact⟨us,rfl,h⟩
 |false=>
  simp only[aC,aB]at hx;match cs,us,h,hx with
  |[c],[u],h,hx=>cases hx;exact h.1
  |[],[],_,hx=>cases hx
  |c::c'::r,_,_,hx=>cases hx
def mark(b:Nat):Deferred:={target:= .collected b,args:= #[]}
@[reducible] def Rd.qW (b:Nat):Rd:=⟨none,[mark b],λ_=>none⟩
def yg(p1:Nat)(assign body:bO):List Nat:=p1::(writes assign++writes body)
def M5:List (It D)->Nat->Option (It D)
 |[],_=>none
 |c::r,f=>if aW c.f f then aa c else M5 r f
def ac3:∀{l:List (It D)} {f:Nat} {c:It D},M5 l f=aa c->c∈l∧c.f=f
 |[],f,c,h=>by cases h
 |c0::r,f,c,h=>by
  unfold M5 at h;split at h
  ·rename_i hb;cases h;exact⟨by simp,bA hb⟩
  ·obtain⟨h1,h2⟩:=ac3 h;exact⟨by simp[h1],h2⟩
def rS(ku:List Nat)(σ:S D):S D:={σ with ob:=ku.map (λi=>(i,none))++σ.ob}
def ayV{ku:List Nat}{σ:S D}{i:Nat}{x:AO D}(h:dC (rS ku σ).ob i=aa x):i∉ku∧dC σ.ob i=aa x:=by
 induction ku with
 |nil=>exact⟨by simp,h⟩
 |cons q r ih=>
  unfold rS dC at h;simp only[gC,List.cons_append,aF]at h;cases hb:aW q i with
  |true=>simp[hb]at h
  |false=>
   simp only[hb,sd]at h;obtain⟨h1,h2⟩:=ih h;refine⟨λhm=>?_,h2⟩;rcases cj.1 hm with e|hm
   ·subst e;simp at hb
   ·exact h1 hm
def Kn.rS{σ:S D}{γ:Gh D}{w:ax}{L:List (Nat×ai)}(hk:Kn σ γ w L){ku:List Nat}(xf:∀x∈ku,1000<=x):Kn (rS ku σ) (eO γ (λb=>b<w.heap.size∧γ.o b∈ku) 2) w L:=by
 have fE:iN (λi=>i<σ.nx) (λi=>i<σ.nx) γ w (eO γ (λb=>b<w.heap.size∧γ.o b∈ku) 2) w:=⟨λ_ h=>h,λ_ _=>rfl,λ_ _=>rfl,λb hb aS=>⟨mB (Z:=λb=>b<w.heap.size∧γ.o b∈ku) λhz=>by have:=xf _ hz.2;omega,rfl⟩⟩;refine⟨hk.sr.dn fE,⟨λi x hx=>?_,λb hb=>?_,hk.ob.ro⟩,hk.cO⟩
 ·obtain⟨hn,hx⟩:=ayV hx;obtain⟨h1,h2,h3⟩:=hk.ob.ob i x hx;exact⟨h1,h2,h3.dn fE h2 λb hb NJ=>⟨mB (Z:=λb=>b<w.heap.size∧γ.o b∈ku) λhz=>hn (NJ▸hz.2),rfl⟩⟩
 ·have:=hk.cO;by_cases hz:b<w.heap.size∧γ.o b∈ku
  ·rw[ia (Z:=λb=>b<w.heap.size∧γ.o b∈ku) hz];show 2<σ.nx;omega
  ·rw[mB (Z:=λb=>b<w.heap.size∧γ.o b∈ku) hz];exact hk.ob.cl b hb
def SJ(T:bc D)(Φ:List (az D)){n:Nat}(y:D n)(wr:List Nat)(p1:Nat)(assign body:bO)(xC me:An){ρ:Type}(σ:S D)(k:Out->S D->Option ρ):Option ρ:=match vq (T.ag n) (O5 [] (T.out n y))with
 |some a=>fX T Φ assign xC {σ with sl:=(p1,a)::σ.sl} λo aO=>match o with
  | .normal=>fX T Φ body me aO λo bL=>match o with
    | .normal=>k .normal bL
    | .ret=>k .ret (uA wr bL)
    |_=>none
  |_=>none
 |none=>none
def acI(T:bc D)(Φ:List (az D)){n:Nat}(xs:List (D n))(wr:List Nat)(p1:Nat)(assign body:bO)(j:J)(pr:Bool)(E:List (Out×J))(xC me:An){ρ:Type}(σ:S D)(k:Out->S D->Option ρ):Option ρ:=
 qO T j {σ with lk:=(kept σ (j.mv++ru E)).map bV++σ.lk} λh0=>nL (aG (σ:=HH D j.cP×List (D n)) (ρ:=wc D pr ρ E) (λs=>match lF T j wr (j.mv++ru E) σ s.1 with
    |some cm=>match s.2 with
     |[]=>(match toE T pr E (.exit 0) (uA wr {cm with lk:=(kept σ (j.mv++ru E)).map bV++σ.lk}) (k .normal {uA wr cm with lk:=σ.lk})with
      |some x=>aa (.inr x)
      |none=>none)
     |y::ys=>SJ T Φ y wr p1 assign body xC me {cm with lk:=(kept σ (j.mv++ru E)).map bV++σ.lk} λo aO=>match o with
      | .normal=>qO T j aO λh'=>aa (.inl (h',ys))
      | .ret=>(match toE T pr E .ret aO (k .ret {aO with lk:=σ.lk})with
        |some x=>aa (.inr x)
        |none=>none)
      |_=>none
    |none=>none) (h0,xs)) λx=>sU T pr wr (j.mv++ru E) σ (λo aO=>match o with
     | .exit _=>k .normal aO
     | .ret=>k .ret aO
     |_=>none) E x
def Md(T:bc D)(Φ:List (az D))(mj:List (It D))(g p1:Nat)(assign body:bO)(j:J)(pr:Bool)(E:List (Out×J))(xC me:An){ρ:Type}(σ:S D)(k:Out->S D->Option ρ):Option ρ:=match aF σ.sl g with
 |some (.c (.one (.fn f jo)))=>match M5 mj f with
  |some c=>(BI T ab 0 c.ins c.args [] [] σ.nx (jo.map O')).go σ.ob [] λx _=>
    if x.2.kr.all (λq=>aW q 0)&&qS x.2.ku σ.lk&&eN (dK T c.ins x.1).length 900&&(im T (dK T c.ins x.1) aa id 1100 c.args).isSome&&j.sl.isEmpty&&SK assign&&SK body then
     nL (c.fn x.1) λxs=>acI T Φ xs (yg p1 assign body) p1 assign body j pr E xC me (rS x.2.ku σ) k
    else none
  |none=>none
 |_=>none
def abO(hP:ef P T)(hR:cK T)(cU:∀c∈Φ,gz P T c)(hm:P.follows .mixedOrders=ab){mj:List (It D)}(hB:∀q∈mj,FN P T q){id g p1:Nat}{assign body:bO}{j:J}{pr:Bool}{E:List (Out×J)}{xC me:An}{ρ:Type}{σ:S D}{k:Out->S D->Option ρ}{r:ρ}{γ:Gh D}{w:ax}{L:List (Nat×ai)}{Q:Exit->Act->ax->Prop}
  (h:Md T Φ mj g p1 assign body j pr E xC me σ k=aa r) (hk:Kn σ γ w L) (hd:∀t∈yg p1 assign body,dJ t n=ab)
  (hc:∀b o aO aQ w1 L1,Kn aO aQ w1 L1->Rx.Frame γ w aQ w1->w.heap.size<=b->b<w1.heap.size->aQ.o b=2->w1.heap[b]? =aa (.deferred (aa []))->k o aO=aa r->o= .normal∨o= .ret->∀a1,@Fr (Rd.qW b) n L1 a1->Q (toX o) a1 w1):
  CW P n (.block id (.rangeFunc (.tmp g) #[p1] assign body)) Q L w:=by
 intro a ha
 refine wpIn_block (wpIn_rangeFunc λafj _=>?_)
 unfold Md at h
 split at h
 case h_2=>cases h
 rename_i f jo hg
 split at h
 case h_2=>cases h
 rename_i c hit
 obtain⟨xl,rfl⟩:=ac3 hit
 have VK:=hB c xl
 obtain⟨lq,x,hq,h⟩:=Rx.Q.IC h
 obtain⟨hh,m⟩:=x
 dsimp only at h
 split at h
 case isFalse=>cases h
 rename_i sQ
 simp only[bt]at sQ
 obtain⟨⟨⟨⟨⟨⟨c1,c2⟩,c3⟩,c4⟩,c5⟩,c7⟩,c8⟩:=sQ
 obtain⟨xs,eJ,h⟩:=nZ h
 obtain⟨wr,Na⟩:∃wr,wr=yg p1 assign body:=⟨_,rfl⟩
 rw[<-Na]at h hd
 have yO:p1∈wr:=by rw[Na];unfold yg;simp
 have avD:=axt ha
 have VD:=ha.size
 obtain⟨rec,yM⟩:∃rec:LoopState->Option bO->Loop,rec=λst pe=>{state:=st,pending:=pe,fn:=afj,tmps:=a.tmps,params:= #[p1],assign,body,defers:=w.heap.size}:=⟨_,rfl⟩
 obtain⟨W1,pO⟩:∃W1,(w.alloc (.deferred (aa []))).alloc (.loop (rec .ready none))=W1:=⟨_,rfl⟩
 obtain⟨l,hl⟩:∃l,l=w.heap.size+1:=⟨_,rfl⟩
 have Ix:W1.heap[l]? =aa (.loop (rec .ready none)):=by rw[<-pO,hl];have:=ax.alloc_heap_new (w.alloc (.deferred (aa []))) (.loop (rec .ready none));rwa[ax.size_alloc]at this
 have ir:W1.heap[w.heap.size]? =aa (.deferred (aa [])):=by rw[<-pO];exact(Below.heap_alloc _ _ _ (by simp)).trans (ax.alloc_heap_new w _)
 obtain⟨Zm,Bv⟩:∃Zm:Nat->Prop,Zm=λb=>b=w.heap.size∨b=l:=⟨_,rfl⟩
 have Nx:Zm l:=by rw[Bv];exact .inr rfl
 have hDZ:Zm w.heap.size:=by rw[Bv];exact .inl rfl
 have aeU:∀b,Zm b->w.heap.size<=b:=λb hb=>by rw[Bv]at hb;rcases hb with hb|hb<;>omega
 have NR:w.heap.size≠l:=by omega
 have aww:W1.heap.size=w.heap.size+2:=by rw[<-pO];simp
 have Is:WZ Zm w W1:=by
  refine⟨by rw[<-pO];rfl,by rw[<-pO];rfl,by rw[<-pO];rfl,by omega,λb hb aS=>?_,λb hb=>?_⟩
  ·rw[<-pO,Below.heap_alloc _ _ _ (by simp;omega),Below.heap_alloc _ _ _ aS]
  ·rw[Bv];omega
 have H9:Kn σ (eO γ Zm 3) W1 (lO a):=(hk.all ha).wz (.inr rfl) (λb hb aS=>by have:=aeU b hb;omega) Is
 obtain⟨jU,wX⟩:∃jU,jU=eO γ Zm 3:=⟨_,rfl⟩
 rw[<-wX]at H9
 obtain⟨gv,hgv,zd,hgf,Ic⟩:=H9.sr g _ hg
 have avy:gv= .func (.func c.f) #[] zd.toArray:=by rw[hgf];unfold xr;rw[aI VK.lt]
 obtain⟨⟨hex,_⟩,vK⟩:=N7 hR H9.ob hq (O_ Ic)
 dsimp only at hex vK
 have aeq:∀p i,(p,i)∉m.ids:=λp i hp=>by have:=hex.key p i hp;cases this
 obtain⟨Bz,By⟩:=afE (γ:=jU) (w:=W1) H9.ob hex (λi h1 _ h3=>by have h3:i<σ.nx:=h3;omega) rfl (dw c3)
 obtain⟨as,has⟩:=Option.isSome_iff_exists.1 c4
 have AX:=(vK Bz By).1 as has
 obtain⟨uO,adt⟩:∃uO:Gh D,uO=⟨λb=>jx m (jU.o b),qL jU m,gm jU.v 1100 (dK T c.ins hh)⟩:=⟨_,rfl⟩
 rw[<-adt]at AX
 have Nm:∀b,(uO.o b=0∧(jU.o b=0∨jU.o b∈m.ku))∨uO.o b=3:=λb=>by
  rw[adt];rcases Dw m (jU.o b)with⟨p,h1,_⟩|⟨_,h1⟩
  ·exact(aeq _ _ h1).elim
  ·rcases h1 with⟨h1,h2⟩|⟨h1,_⟩
   ·refine .inl ⟨h1,h2.imp (λh3=>?_) λh=>h⟩;exact bA (dX.1 c1 _ h3)
   ·exact .inr h1
 have auU:OB U0 uO W1 []:=⟨λi x hx=>by simp[dC,aF]at hx,λb hb=>by show uO.o b<2000;rcases Nm b with⟨h1,_⟩|h1<;>omega,λx hx=>hx⟩
 have xf:∀x∈m.ku,1000<=x:=λx hx=>(hex.ku x hx).1
 obtain⟨Bx,xp⟩:∃Bx:Nat->Prop,Bx=λb=>b<W1.heap.size∧jU.o b∈m.ku:=⟨_,rfl⟩
 obtain⟨gE,AR⟩:∃gE,gE=rS m.ku σ:=⟨_,rfl⟩
 have vH:Kn gE (eO jU Bx 2) W1 (lO a):=by rw[AR,xp];exact H9.rS xf
 rw[<-AR]at h
 have VM:∀b,Bx b->¬Zm b∧γ.o b≠0∧γ.o b≠3∧jU.o b≠0:=λb hb=>by
  rw[xp]at hb;have:=xf _ hb.2;by_cases hz:Zm b
  ·rw[wX,ia hz]at this;omega
  ·have e:jU.o b=γ.o b:=by rw[wX,mB hz]
   exact⟨hz,by omega,by omega,by omega⟩
 obtain⟨ZA,kA⟩:∃ZA:(Nat->Prop)->Nat->Prop,ZA=λZ b=>Zm b∨Bx b∨Z b:=⟨_,rfl⟩
 have Vh:∀Z,gf (ZA Z) γ w (eO jU Bx 2) W1:=λZ=>by
  have f1:gf Zm γ w jU W1:=by rw[wX];exact .wz Is
  have f2:gf Bx jU W1 (eO jU Bx 2) W1:= .wz (.refl Bx W1);exact(f1.mono λb hb=>by rw[kA];exact .inl hb).trans (f2.mono λb hb=>by rw[kA];exact .inr (.inl hb))
 unfold acI at h
 obtain⟨h0,pF,h⟩:=sW h
 obtain⟨x,hx,hf⟩:=nZ h
 clear h
 obtain⟨mv,Ed⟩:∃mv,mv=j.mv++ru E:=⟨_,rfl⟩
 rw[<-Ed]at hx hf pF
 obtain⟨lk,oK⟩:∃lk,lk=(kept gE mv).map bV++gE.lk:=⟨_,rfl⟩
 rw[<-oK]at hx pF
 obtain⟨yF,H6⟩:∃yF:Out->S D->Option ρ,yF=λo aO=>match o with
  | .exit _=>k .normal aO
  | .ret=>k .ret aO
  |_=>none:=⟨_,rfl⟩
 rw[<-H6]at hf
 obtain⟨step,hstep,hx⟩:∃step:HH D j.cP×List (D c.el)->Option ((HH D j.cP×List (D c.el))⊕wc D pr ρ E),(∀s y,step s=aa y->∃cm,lF T j wr mv gE s.1=aa cm∧
   ((s.2=[]∧(match toE T pr E (.exit 0) (uA wr {cm with lk:=lk}) (yF (.exit 0) {uA wr cm with lk:=gE.lk})with
       |some x=>aa (Sum.inr x)
       |none=>none)=aa y)∨
     ∃z zs,s.2=z::zs∧∃kk:Out->S D->Option ((HH D j.cP×List (D c.el))⊕wc D pr ρ E),(∀aO,kk .normal aO=qO T j aO λh'=>aa (.inl (h',zs)))∧
      (∀aO,kk .ret aO=match toE T pr E .ret aO (yF .ret {aO with lk:=gE.lk})with
        |some x=>aa (.inr x)
        |none=>none)∧SJ T Φ z wr p1 assign body xC me {cm with lk:=lk} kk=aa y))∧aG step (h0,xs)=aa x:=by
  refine⟨_,λs y hy=>?_,hx⟩
  dsimp only at hy
  split at hy
  case h_2=>cases hy
  rename_i cm na
  refine⟨cm,na,?_⟩
  split at hy
  ·rename_i he;exact .inl ⟨he,by rw[H6];exact hy⟩
  ·rename_i z zs he;exact .inr ⟨z,zs,he,_,λ_=>rfl,λ_=>by rw[H6],hy⟩
 have UT:l<W1.heap.size:=by omega
 have hDs:w.heap.size<W1.heap.size:=by omega
 obtain⟨R,NM⟩:∃R:(Nat->Prop)->ax->Prop,R=λZ W=>∃st jump o aO aQ,st≠.busy∧W.heap[l]? =aa (.loop (rec st jump))∧W.heap[w.heap.size]? =aa (.deferred (aa []))∧Kn aO aQ W (lO a)∧gf (ZA Z) γ w aQ W∧(∀b,ZA Z b->aQ.o b=2)∧(∀b,Z b->W1.heap.size<=b∧b<W.heap.size)∧k o aO=aa r∧((jump=none∧o= .normal)∨(jump=aa .ret∧o= .ret)):=⟨_,rfl⟩
 obtain⟨Inv,NO⟩:∃Inv:Nat->(Nat->Prop)->ax->Prop,Inv=λm Z W=>∃N h' cm gQ,nM step N (h',xs.drop m)=aa x∧lF T j wr mv gE h'=aa cm∧Kn cm gQ W (lO a)∧gf (ZA Z) γ w gQ W∧ck wr {gE with lk:=lk} {cm with lk:=lk}∧(∀b,ZA Z b->gQ.o b=2)∧(∀b,Z b->W1.heap.size<=b∧b<W.heap.size)∧W.heap[l]? =aa (.loop (rec .ready none))∧W.heap[w.heap.size]? =aa (.deferred (aa [])):=⟨_,rfl⟩
 have ist:∀{Z:Nat->Prop} {W:ax} {Z':Nat->Prop} {W':ax} {aO:S D} {aQ:Gh D},QA Z W Z' W'->Kn aO aQ W (lO a)->gf (ZA Z) γ w aQ W->(∀b,ZA Z b->aQ.o b=2)->(∀b,Z b->W1.heap.size<=b∧b<W.heap.size)->W1.heap.size<=W.heap.size->
   Kn aO (eO aQ (ZA Z') 2) W' (lO a)∧gf (ZA Z') γ w (eO aQ (ZA Z') 2) W'∧(∀b,ZA Z' b->(eO aQ (ZA Z') 2).o b=2)∧(∀b,Z' b->W1.heap.size<=b∧b<W'.heap.size)∧∀b,b<W1.heap.size->W'.heap[b]? =W.heap[b]? :=by
  intro Z W Z' W' aO aQ hi q1 q2 q3 q4 q5
  have Nj:∀b,ZA Z b->ZA Z' b:=λb hb=>by rw[kA]at hb⊢;exact hb.imp (λh=>h) λh=>h.imp (λh=>h) (hi.sub b)
  have eQ:=hi.wz.size
  have xc:∀b,Z' b->W1.heap.size<=b∧b<W'.heap.size:=λb hb=>by
   rcases hi.new b hb with h1|h1
   ·have:=q4 b h1;omega
   ·omega
  have hw:WZ (ZA Z') W W':=hi.wz.mono λb hb=>by rw[kA];exact .inr (.inr hb)
  refine⟨q1.wz (.inl rfl) (λb hb aS=> .inl (q3 b ?_)) hw,(q2.mono Nj).trans (.wz hw),λb hb=>ia hb,xc,λb hb=>hi.wz.same b (λhz=>by have:=(xc b hz).1;omega) (by omega)⟩
  rw[kA]at hb⊢
  rcases hb with hb|hb|hb
  ·exact .inl hb
  ·exact .inr (.inl hb)
  ·rcases hi.new b hb with h1|h1
   ·exact .inr (.inr h1)
   ·omega
 have av4:∀b,b<W1.heap.size->uO.o b=0∨uO.o b=3:=λb _=>(Nm b).imp (λh=>h.1) λh=>h
 have cO:∀{W:ax} {O:Obj},W.heap[l]? =aa O->W1.heap.size<=W.heap.size:=λh=>by have:=(iR.1 h).1;omega
 have head:∀{m N:Nat} {s:HH D j.cP} {Z:Nat->Prop} {aO:S D} {aQ:Gh D} {W:ax} {L1:List (Nat×ai)},nM step N (s,xs.drop m)=aa x->Kn aO aQ W L1->ck wr {gE with lk:=lk} aO->zA T j aO s->gf (ZA Z) γ w aQ W->(∀b,ZA Z b->aQ.o b=3∧b<W.heap.size)->(∀b,Z b->W1.heap.size<=b∧b<W.heap.size)->W.heap[l]? =aa (.loop (rec .ready none))->W.heap[w.heap.size]? =aa (.deferred (aa []))->
   (∀t v,t∉wr->Dp.look L1 t=aa v->Dp.look (lO a) t=aa v)->Inv m Z W:=by
  intro m N s Z aO aQ W L1 hN eK he hxr eF dh hZs Nb hwD A5
  obtain⟨N',y,_,hs,_⟩:=Hr hN
  obtain⟨cm,na,_⟩:=hstep _ _ hs
  obtain⟨bf,k1,k2,k3,_⟩:=AL hR oK vH eK he hxr na
  have rM:∀b,ZA Z b->bf.o b=3:=λb hb=>by rw[(k2.ro b (dh b hb).2 (.inr (dh b hb).1)).1];exact(dh b hb).1
  rw[NO]
  refine⟨N,s,cm,eO bf (ZA Z) 2,hN,na,(k1.wz (.inl rfl) (λb hb _=> .inr (rM b hb)) (.refl _ W)).DB λt y v hy hv=>A5 t v ?_ hv,(eF.trans (.of k2)).trans (.wz (.refl _ W)),k3,λb hb=>ia hb,hZs,Nb,hwD⟩
  rcases T6 na hy with⟨h1,_⟩|h1
  ·rw[List.isEmpty_iff.1 c5]at h1;cases h1
  ·exact h1
 have acS:∀{o:Out} {s:HH D j.cP×List (D c.el)} {y:(HH D j.cP×List (D c.el))⊕wc D pr ρ E} {N:Nat} {Z:Nat->Prop} {aO:S D} {aQ:Gh D} {W:ax} {L1:List (Nat×ai)},nM step N s=aa x->step s=aa y->(match toE T pr E o aO (yF o {aO with lk:=gE.lk})with|some x=>aa (.inr x)|none=>none)=aa y->
   Kn aO aQ W L1->ck wr {gE with lk:=lk} aO->(∀t,t∈wr->aF aO.sl t=none)->gf (ZA Z) γ w aQ W->(∀b,ZA Z b->aQ.o b=3∧b<W.heap.size)->(∀t v,t∉wr->Dp.look L1 t=aa v->Dp.look (lO a) t=aa v)->∃bL bf,Kn bL bf W (lO a)∧gf (ZA Z) γ w bf W∧(∀b,ZA Z b->bf.o b=2)∧yF o bL=aa r:=by
  intro o s y N Z aO aQ W L1 hN hs hz eK he nQ eF dh A5
  split at hz
  case h_2=>cases hz
  rename_i x' d_
  have hz:=(kb hz).symm
  subst hz
  obtain⟨N',y',_,w8,gp⟩:=Hr hN
  rw[hs]at w8
  cases w8
  rcases gp with⟨s',h1,_⟩|h1
  ·cases h1
  cases h1
  have fin:∀{bL:S D} {bf:Gh D},Kn bL bf W L1->Rx.Frame aQ W bf W->(∀t x,aF bL.sl t=aa x->t∉wr)->yF o bL=aa r->∃bL bf,Kn bL bf W (lO a)∧gf (ZA Z) γ w bf W∧(∀b,ZA Z b->bf.o b=2)∧yF o bL=aa r:=by
   intro bL bf k1 k2 k3 k4;have rM:∀b,ZA Z b->bf.o b=3:=λb hb=>by rw[(k2.ro b (dh b hb).2 (.inr (dh b hb).1)).1];exact(dh b hb).1
   exact⟨bL,eO bf (ZA Z) 2,(k1.wz (.inl rfl) (λb hb _=> .inr (rM b hb)) (.refl _ W)).DB λt y v hy hv=>A5 t v (k3 t y hy) hv,(eF.trans (.of k2)).trans (.wz (.refl _ W)),λb hb=>ia hb,k4⟩
  rcases Gp d_ hf with⟨j',y2,bL,h1,h2,h3⟩|h1
  ·obtain⟨bf,k1,k2,k3,_⟩:=AL hR oK vH eK he h1 h2;refine fin k1 k2 (λt z ht=>?_) h3;rcases T6 h2 ht with⟨m1,m2⟩|m1
   ·obtain⟨z',oH⟩:=ayx h1 m1;rw[nQ t m2]at oH;cases oH
   ·exact m1
  ·refine fin (eK.lk _) (Rx.Frame.refl _ _) (λt z ht hw=>?_) h1;have ht:aF aO.sl t=aa z:=ht;rw[nQ t hw]at ht;cases ht
 have Ip:∀{Z:Nat->Prop} {W:ax},(∀b,Z b->W1.heap.size<=b∧b<W.heap.size)->W1.heap.size<=W.heap.size->∀b,ZA Z b->b<W.heap.size:=λhz hs b hb=>by
  rw[kA]at hb;rcases hb with hb|hb|hb
  ·rw[Bv]at hb;omega
  ·rw[xp]at hb;have:=hb.1;omega
  ·exact(hz b hb).2
 have av6:Calls P c.f (nH l::zd).toArray W1 (mi λ_ w'=>∃Z,R Z w'):=by
  refine VK.run hh xs eJ as has uO W1 l zd AX auU av4 Inv R ?_ ?_ ?_ ?_ ?_
  ·unfold aG at hx;have hZ0:∀b,ZA (λ_=>False) b->(Zm b∨Bx b)∧b<W1.heap.size:=λb hb=>by
    rw[kA]at hb;rcases hb with hb|hb|hb
    ·refine⟨.inl hb,?_⟩;rw[Bv]at hb;omega
    ·refine⟨.inr hb,?_⟩;rw[xp]at hb;exact hb.1
    ·exact hb.elim
   refine head (m:=0) (Z:=λ_=>False) hx ((vH.lk lk).wz (Z:=ZA λ_=>False) (c:=3) (.inr rfl) (λb hb _=>?_) (.refl _ _)) (.refl _ _) pF ((Vh _).trans (.wz (.refl _ _))) (λb hb=>⟨ia hb,(hZ0 b hb).2⟩) (λb hb=>hb.elim) Ix ir λt v _ hv=>hv;by_cases vP:Bx b
   ·exact .inl (ia vP)
   ·rw[mB vP];right;rcases(hZ0 b hb).1 with h1|h1
    ·rw[wX];exact ia h1
    ·exact(vP h1).elim
  ·intro m Z W Z' W' hi hs;rw[NO]at hi⊢;obtain⟨N,h',cm,gQ,i1,i2,i3,i4,i5,i6,i7,i8,i9⟩:=hi;obtain⟨q1,q2,q3,q4,q5⟩:=ist hs i3 i4 i6 i7 (cO i8);exact⟨N,h',cm,_,i1,i2,q1,q2,i5,q3,q4,(q5 l UT).trans i8,(q5 _ hDs).trans i9⟩
  ·intro Z W Z' W' hi hs;rw[NM]at hi⊢;obtain⟨st,jump,o,aO,aQ,i1,i2,i3,i4,i5,i6,i7,i8,i9⟩:=hi;obtain⟨q1,q2,q3,q4,q5⟩:=ist hs i4 i5 i6 i7 (cO i2);exact⟨st,jump,o,aO,_,i1,(q5 l UT).trans i2,(q5 _ hDs).trans i3,q1,q2,q3,q4,i8,i9⟩
  ·intro Z W hi;rw[NO]at hi;obtain⟨N,h',cm,gQ,i1,i2,i3,i4,i5,i6,i7,i8,i9⟩:=hi;obtain⟨N',y,_,hs,_⟩:=Hr i1;obtain⟨alP,na,hy⟩:=hstep _ _ hs;rw[i2]at na;cases na;rcases hy with⟨_,hy⟩|⟨z,zs,he,_⟩
   ·obtain⟨bL,bf,m1,m2,m3,m4⟩:=acS (Z:=Z) i1 hs hy (((i3.lk lk).drop wr).wz (c:=3) (.inr rfl) (λb hb _=> .inl (i6 b hb)) (.refl (ZA Z) W)) ⟨λt ht=>by rw[BP,aK ht];exact i5.sl t ht,rfl,i5.ob,i5.nx⟩ (λt ht=>by rw[BP,aI ht]) (i4.trans (.wz (.refl _ W))) (λb hb=>⟨ia hb,Ip i7 (cO i8) b hb⟩) (λt v ht hv=>hv);rw[NM];refine⟨.ready,none,.normal,bL,bf,by simp,i8,i9,m1,m2,m3,i7,?_,.inl ⟨rfl,rfl⟩⟩;rw[H6]at m4;exact m4
   ·simp at he
  ·intro m' Z W y cs hi hy sK;rw[NO]at hi;obtain⟨N,h',cm,gQ,i1,i2,i3,i4,i5,i6,i7,i8,i9⟩:=hi;have hyl:=run_yield (P:=P) (args:= #[pack (ad.agg (D c.el)) cs]) i8 (by rw[yM];rfl);rw[yM]at hyl;refine⟨afj,_,assign,body,hyl,roundIn_of_wpIn trivial ?_⟩;obtain⟨N',yy,hN',hs,Eb⟩:=Hr i1;obtain⟨alP,na,wZ⟩:=hstep _ _ hs;rw[i2]at na;cases na;have ug:xs.drop m'=y::xs.drop (m'+1):=by obtain⟨aS,e⟩:=g9.1 hy;rw[List.drop_eq_getElem_cons aS,e]
   rcases wZ with⟨he,_⟩|⟨z,zs,he,kk,kk1,kk2,wZ⟩
   ·rw[ug]at he;cases he
   rw[ug]at he;obtain⟨rfl,rfl⟩:=List.cons.inj he;have Ni:=cO i8;unfold SJ at wZ;split at wZ
   case h_2=>cases wZ
   rename_i av hav;obtain⟨I,hI⟩:∃I:Rd,I=⟨aa l,[],λt=>if bP wr t then none else a.tmps[t]?⟩:=⟨_,rfl⟩;have hIF:I.F=Fence.wide.inRound l:=by rw[hI];rfl
   unfold SK at c7 c8;simp only[bt]at c7 c8;have HT:∀t∈wr,I.fb n t=ab:=λt ht=>by unfold Rd.fb;rw[hd t ht,hI];simp only[eA.2 ht,aH];rfl
   have hwa:∀t∈writes assign,t∈wr:=λt ht=>by rw[Na];unfold yg;simp[ht]
   have hwb:∀t∈writes body,t∈wr:=λt ht=>by rw[Na];unfold yg;simp[ht]
   have xg:Kn {cm with lk:=lk,sl:=(p1,av)::cm.sl} (eO gQ (ZA Z) 3) W ((p1,pack (ad.agg (D c.el)) cs)::lO a):=by have h1:Kn {cm with lk:=lk} (eO gQ (ZA Z) 3) W (lO a):=(i3.lk lk).wz (c:=3) (.inr rfl) (λb hb _=> .inl (i6 b hb)) (.refl _ W);refine⟨h1.sr.cons ?_,h1.ob,h1.cO⟩;rw[hR.ag];exact ab0 (WY (λ_ hx=>by cases hx) ((hR.rd c.el _ _ _ _).1 (sK (In (eO gQ (ZA Z) 3).o []) W))) hav
   have avG: @Fr I n ((p1,pack (ad.agg (D c.el)) cs)::lO a) {tmps:=(#[p1].zip #[pack (ad.agg (D c.el)) cs]).foldl (λtmps (t,a)=>tmps.setIfInBounds t a) a.tmps,defers:=[]}:=by
    have e0:(#[p1].zip #[pack (ad.agg (D c.el)) cs]).foldl (λtmps (t,a)=>tmps.setIfInBounds t a) a.tmps=a.tmps.setIfInBounds p1 (pack (ad.agg (D c.el)) cs):=by simp
    rw[e0];have l1:p1<a.tmps.size:=by rw[VD];exact dw (hd p1 yO)
    refine @Fr.mk I n _ _ (by simp[VD]) (by rw[hI];rfl) (λt v hv=>?_) (λt v hv=>?_)
    ·by_cases h1:p1=t
     ·subst h1;rw[iX]at hv;simp[l1];exact kb hv
     ·rw[il _ _ h1]at hv;simp[F8,h1];exact Hs.1 hv
    ·rw[hI]at hv;dsimp only at hv;split at hv
     ·cases hv
     ·rename_i hm;have h1:p1≠t:=λe=>hm (eA.2 (e▸yO));simp[F8,h1];exact hv
   rw[<-hIF];refine tf (I:=I) (n:=n) hP hR cU hm assign xC c7.1.1 (.inr c7.2) (Lb.none c7.1.2) wZ (λt ht=>HT t (hwa t ht)) xg ?_ _ avG;intro o aO aQ w1 L1 m1 m2 m3 m4;cases o with
   |exit id=>cases m4
   |goto l=>cases m4
   |ret=>cases m4
   |normal=>
   intro a1 NL;have En:∀b,ZA Z b->aQ.o b=3∧w1.heap[b]? =W.heap[b]? :=λb hb=>by have:=m2.ro b (Ip i7 Ni b hb) (.inr (ia hb));exact⟨this.1.trans (ia hb),this.2⟩
   have xq:ZA Z l:=by rw[kA];exact .inl Nx
   have NS:ZA Z w.heap.size:=by rw[kA];exact .inl hDZ
   have ni:w1.heap[l]? =aa (.loop (rec .ready none)):=(En l xq).2.trans i8;have hD1:w1.heap[w.heap.size]? =aa (.deferred (aa [])):=(En _ NS).2.trans i9;refine⟨_,run_beginRound ni (by rw[yM]),?_⟩;obtain⟨w2,fW⟩:∃w2,w2=w1.putObj l (.loop {rec .ready none with state:= .busy}):=⟨_,rfl⟩;rw[<-fW];have ud:w2.heap[l]? =aa (.loop {rec .ready none with state:= .busy}):=by rw[fW];exact ax.putObj_heap_same (iR.1 ni).1
   have hD2:w2.heap[w.heap.size]? =aa (.deferred (aa [])):=by rw[fW];exact(ax.putObj_heap_other NR).trans hD1
   have D3:WZ (ZA Z) w1 w2:=by rw[fW];exact .put xq
   have oL:Kn aO (eO aQ (ZA Z) 3) w2 L1:=m1.wz (.inr rfl) (λb hb _=> .inr (En b hb).1) D3;refine tf (I:=I) (n:=n) hP hR cU hm body me c8.1.1 (.inr c8.2) (Lb.none c8.1.2) m4 (λt ht=>HT t (hwb t ht)) oL ?_ _ NL;intro o bL bf w3 L2 n1 n2 n3 n4;have sz1:=m2.size;have sz2:=D3.size;have sz3:=n2.size;have rM:∀b,ZA Z b->bf.o b=3∧w3.heap[b]? =w2.heap[b]? :=λb hb=>by have:=n2.ro b (by have:=Ip i7 Ni b hb;omega) (.inr (ia hb));exact⟨this.1.trans (ia hb),this.2⟩
   have Ef:=(rM l xq).2.trans ud;have hD3:=(rM _ NS).2.trans hD2;have aey:gf (ZA Z) γ w bf w3:=(((i4.trans (.wz (c:=3) (.refl (ZA Z) W))).trans (.of m2)).trans (.wz (c:=3) D3)).trans (.of n2);have Ih:ck wr {gE with lk:=lk} bL:=by
    have e1:ck wr {cm with lk:=lk} {cm with lk:=lk,sl:=(p1,av)::cm.sl}:=⟨λt ht=>by
     have bM:aW p1 t=ae:=by
      cases hb:aW p1 t with
      |true=>have:=bA hb;subst this;exact(ht yO).elim
      |false=>rfl
     simp only[aF,bM,sd],rfl,λ_ _=>rfl,bw _⟩
    exact((i5.trans e1).trans (m3.mono hwa)).trans (n3.mono hwb)
   have nO:∀O:Obj,Yi (λb=>Z b∨(b<W1.heap.size∧uO.o b=0)) W (w3.putObj l O):=λO=>by
    refine⟨n2.os.trans (D3.os.trans m2.os),n2.tape.trans (D3.tape.trans m2.tape),n2.output.trans (D3.output.trans m2.output),by rw[ax.putObj_size];omega,λb hb aS=>?_⟩;have um:b≠l:=by
     rintro rfl;rcases hb with hb|⟨_,hb⟩
     ·have:=(i7 _ hb).1;omega
     ·rcases Nm b with⟨_,h1|h1⟩|h1
      ·rw[wX,ia Nx]at h1;omega
      ·have:=xf _ h1;rw[wX,ia Nx]at this;omega
      ·omega
    rw[ax.putObj_heap_other um];have aaf:ZA Z b->w3.heap[b]? =W.heap[b]? :=λhA=>by refine(rM b hA).2.trans (Eq.trans ?_ (En b hA).2);rw[fW];exact ax.putObj_heap_other um
    rcases hb with hb|⟨hbs,hb⟩
    ·exact aaf (by rw[kA];exact .inr (.inr hb))
    ·rcases Nm b with⟨_,h1|h1⟩|h1
     ·
      have HX:¬ZA Z b:=λhA=>by
       rw[kA]at hA;rcases hA with hA|hA|hA
       ·rw[wX,ia hA]at h1;omega
       ·exact(VM b hA).2.2.2 h1
       ·have:=(i7 b hA).1;omega
      have hz:¬Zm b:=λh=>HX (by rw[kA];exact .inl h)
      have Vd:γ.o b=0:=by rw[wX,mB hz]at h1;exact h1
      have Vz:b<w.heap.size:=by
       rcases Nat.lt_or_ge b w.heap.size with h2|h2
       ·exact h2
       ·exact(hz (by rw[Bv];omega)).elim
      have t1:=(i4.ro b HX Vz (.inl Vd)).1
      have t2:=m2.ro b aS (.inl (by rw[mB HX,t1];exact Vd))
      have t3:=n2.ro b (by omega) (.inl (by rw[mB HX,t2.1,mB HX,t1];exact Vd))
      rw[t3.2,fW,ax.putObj_heap_other um,t2.2]
     ·exact aaf (by rw[kA];exact .inr (.inl (by rw[xp];exact⟨hbs,h1⟩)))
     ·omega
   have xn:∀{a2:Act},@Fr I n L2 a2->∀t v,t∉wr->Dp.look L2 t=aa v->Dp.look (lO a) t=aa v:=by
    intro a2 nl t v ht hv;have g1:=nl.get t v hv;have yI:t<a.tmps.size:=by have:=(iR.1 g1).1;rw[nl.size]at this;rw[VD];exact this
    have g2:a2.tmps[t]? =aa a.tmps[t]:=nl.fix t _ (by
     have hb:bP wr t=ae:=by
      cases hb:bP wr t with
      |true=>exact(ht (eA.1 hb)).elim
      |false=>rfl
     rw[hI];simp[hb,yI])
    rw[g1]at g2;cases g2;exact Hs.2 (Array.getElem?_eq_getElem yI)
   have hZ4:∀O:Obj,∀b,Z b->W1.heap.size<=b∧b<(w3.putObj l O).heap.size:=λO b hb=>by have:=i7 b hb;rw[ax.putObj_size];omega
   cases o with
   |exit id=>cases n4
   |goto l=>cases n4
   |normal=>
    intro a2 nl;dsimp only at n4;rw[kk1]at n4;obtain⟨h2,pE,e⟩:=sW n4;cases e;obtain⟨W4,uo⟩:∃W4,W4=w3.putObj l (.loop (rec .ready none)):=⟨_,rfl⟩;have AW:WZ (ZA Z) w3 W4:=by rw[uo];exact .put xq
    have xe:nM step N' (h2,xs.drop (m'+1))=aa x:=by
     rcases Eb with⟨s',e,h⟩|e
     ·cases e;exact h
     ·cases e
    have hI4:Inv (m'+1) Z W4:=by
     have U3:=n1.wz (c:=3) (.inr rfl) (λb hb _=> .inr (rM b hb).1) AW;refine head xe U3 Ih pE (aey.trans (.wz AW)) (λb hb=>⟨ia hb,?_⟩) (by rw[uo];exact hZ4 _) ?_ ?_ (xn nl)
     ·have:=Ip i7 Ni b hb;have:=AW.size;omega
     ·rw[uo];exact ax.putObj_heap_same (iR.1 Ef).1
     ·rw[uo];exact(ax.putObj_heap_other NR).trans hD3
    refine⟨_,_,run_endRound none Ef,_,rfl,nO _,.inl ⟨rfl,?_⟩⟩;have e4:w3.putObj l (.loop {({rec .ready none with state:= .busy}:Loop)with state:=if(none:Option bO).isNone then .ready else .done,pending:=none})=W4:=by rw[uo,yM];rfl
    rw[e4];exact hI4
   |ret=>
    intro a2 nl;dsimp only at n4;rw[kk2]at n4;obtain⟨W4,uo⟩:∃W4,W4=w3.putObj l (.loop (rec .done (aa .ret))):=⟨_,rfl⟩;have AW:WZ (ZA Z) w3 W4:=by rw[uo];exact .put xq
    have U3:=n1.wz (c:=3) (.inr rfl) (λb hb _=> .inr (rM b hb).1) AW;have hR4:R Z W4:=by
     obtain⟨pd,alR,q1,q2,q3,q4⟩:=acS (Z:=Z) i1 hs n4 (U3.drop wr) (Ih.trans ⟨λt ht=>by rw[BP,aK ht],rfl,λ_ _=>rfl,bw _⟩) (λt ht=>by rw[BP,aI ht]) (aey.trans (.wz AW)) (λb hb=>⟨ia hb,by have:=Ip i7 Ni b hb;have:=AW.size;omega⟩) (xn nl)
     rw[NM];refine⟨.done,aa .ret,.ret,pd,alR,by simp,?_,?_,q1,q2,q3,by rw[uo];exact hZ4 _,?_,.inr ⟨rfl,rfl⟩⟩
     ·rw[uo];exact ax.putObj_heap_same (iR.1 Ef).1
     ·rw[uo];exact(ax.putObj_heap_other NR).trans hD3
     ·rw[H6]at q4;exact q4
    refine⟨_,_,run_endRound (aa .ret) Ef,_,rfl,nO _,.inr ⟨rfl,?_⟩⟩;have e4:w3.putObj l (.loop {({rec .ready none with state:= .busy}:Loop)with state:=if(aa bO.ret).isNone then .ready else .done,pending:=aa .ret})=W4:=by rw[uo,yM];rfl
    rw[e4];exact hR4
 refine⟨l,[mark w.heap.size],W1,{target:= .fn (.func c.f) zd.toArray,args:= #[.func (.yield l) #[] #[]]},W1,c.f, #[.func (.yield l) #[] #[]]++zd.toArray,W1,?_,?_,?_,?_,λh=>by simp[Rd.F,Fence.wide]at h,?_⟩
 ·rw[<-pO,yM,hl];exact run_enterLoop_outer _ _ _ _ _
 ·have:a.eval (.tmp g)= .func (.func c.f) #[] zd.toArray:=by rw[avD.ev (x:= .tmp g) (v:=gv) hgv,avy]
  simp only[resolve,this];simp[go_sem]
 ·intro f' hf';trivial
 ·simp[invoke,go_sem,VK.Wb]
 ·have h3:=(callsIn_wide (n:=0)).2 av6;have e9: #[ai.func (.yield l) #[] #[]]++zd.toArray=(nH l::zd).toArray:=by simp[nH]
  rw[e9];refine(h3:CallsIn Fence.wide 0 P c.f _ W1 _).mono ?_;rintro e w' ⟨v,rfl,Z,hr⟩;rw[NM]at hr;obtain⟨st,jump,o,aO,aQ,r1,r2,r3,r4,r5,r6,r6b,r7,r8⟩:=hr;have av9:(rec st jump).state≠.busy:=by rw[yM];exact r1
  have fD:=run_endLoop (P:=P) r2 av9;have auL:(rec st jump).pending=jump:=by rw[yM]
  rw[auL]at fD;refine⟨jump,_,fD,?_⟩;have xq:ZA Z l:=by rw[kA];exact .inl Nx
  have NS:ZA Z w.heap.size:=by rw[kA];exact .inl hDZ
  have jO:∀(O:Obj) a1,@Fr (Rd.qW w.heap.size) n (lO a) a1->Q (toX o) a1 (w'.putObj l O):=by
   intro O;refine hc w.heap.size o aO (eO aQ (ZA Z) 2) _ (lO a) (r4.wz (.inl rfl) (λb hb _=> .inl (r6 b hb)) (.put xq)) ((r5.trans (gf.wz (.put xq))).frame (λb hb=>?_) λb hb=>ia hb) (bw _) ?_ (ia NS) ?_ r7 ?_
   ·rw[kA]at hb;rcases hb with hb|hb|hb
    ·exact .inl (aeU b hb)
    ·exact .inr ⟨(VM b hb).2.1,(VM b hb).2.2.1⟩
    ·have:=(r6b b hb).1;exact .inl (by omega)
   ·rw[ax.putObj_size];exact(iR.1 r3).1
   ·rw[ax.putObj_heap_other NR];exact r3
   ·rcases r8 with⟨_,h⟩|⟨_,h⟩
    ·exact .inl h
    ·exact .inr h
  have hfa: @Fr (Rd.qW w.heap.size) n (lO a) {a with defers:=[mark w.heap.size]++a.defers}:=by refine @Fr.mk (Rd.qW w.heap.size) n (lO a) _ ha.size ?_ (λt v h=>Hs.1 h) (λ_ _ h=>by cases h);show [mark w.heap.size]++a.defers=[mark w.heap.size];rw[ha.defers];rfl
  rcases r8 with⟨rfl,rfl⟩|⟨rfl,rfl⟩
  ·exact jO _ _ hfa
  ·exact wpIn_ret (jO _ _ hfa)
def yi:bO->Option (bO×Nat×Nat×Nat×bO×bO)
 | .seq r (.block id (.rangeFunc (.tmp g) ps assign body))=>match ps.toList with
   |[p1]=>aa (r,id,g,p1,assign,body)
   |_=>none
 |_=>none
def abm:An->Option (J×Bool×List (Out×J)×An)
 | .loop j pr E x=>aa (j,pr,E,x)
 |_=>none
def IY(T:bc D)(Φ:List (az D))(mj:List (It D)):bO->An->∀{ρ:Type},S D->(Out->S D->Option ρ)->Option ρ
 | .seq a b,an,_,σ,k=>match yi (.seq a b)with
   |some (r,id,g,p1,assign,body)=>match abm an.b with
    |some (j,pr,E,x)=>oP an.a.fz σ λσ=>fX T Φ r an.a.un σ λo aO=>match o with
     | .normal=>Md T Φ mj g p1 assign body j pr E x.a x.b aO k
     |o=>k o aO
    |none=>none
   |none=>match yi a with
   |some (r,id,g,p1,assign,body)=>match abm an.a.b with
    |some (j,pr,E,x)=>oP an.a.a.fz σ λσ=>fX T Φ r an.a.a.un σ λo aO=>match o with
     | .normal=>Md T Φ mj g p1 assign body j pr E x.a x.b aO λo bL=>match o with
       | .normal=>fX T Φ b an.b bL k
       |o=>k o bL
     |o=>k o aO
    |none=>none
   |none=>oP an.a.fz σ λσ=>fX T Φ a an.a.un σ λo aO=>match o with
    | .normal=>IY T Φ mj b an.b aO k
    |o=>k o aO
 |_,_,_,_,_=>none
def Mv:bO->Bool
 | .seq a b=>(match yi (.seq a b)with
   |some x=>gT x.1&&je x.1
   |none=>match yi a with
   |some x=>gT x.1&&je x.1&&gT b&&je b
   |none=>gT a&&je a&&Mv b)
 |_=>ab
def Sz(T:bc D)(Φ:List (az D))(mj:List (It D))(c:az D)(rs:List lT)(code:bO)(an:An)(h:HH D c.ins):Option (HH D c.outs):=match Mv code with
 |true=>match y8 T c h with
  |some σ=>oP an.fz σ λσ=>IY T Φ mj code an.un σ (vc T c rs)
  |none=>none
 |false=>none
def abl{a:bO}{x:bO×Nat×Nat×Nat×bO×bO}(h:yi a=aa x):a= .seq x.1 (.block x.2.1 (.rangeFunc (.tmp x.2.2.1) #[x.2.2.2.1] x.2.2.2.2.1 x.2.2.2.2.2)):=by
 unfold yi at h;split at h
 case h_2=>cases h
 rename_i r id g ps assign body;split at h
 case h_2=>cases h
 rename_i p1 hp;cases h;have:ps= #[p1]:=by apply Array.ext';rw[hp]
 rw[this]
def aDZ(hP:ef P T)(hR:cK T)(cU:∀c∈Φ,gz P T c)(hm:P.follows .mixedOrders=ab){b:Nat}{c:bO}{an:An}{ρ:Type}{σ:S D}{k:Out->S D->Option ρ}{r:ρ}{fg:Gh D}{w0:ax}{L:List (Nat×ai)}{Q:Exit->Act->ax->Prop}
  (h:fX T Φ c an σ k=aa r) (hN:gT c=ab) (hS:je c=ab) (hd:∀t∈writes c,dJ t n=ab) (hk:Kn σ γ w L) (eF:Rx.Frame fg w0 γ w) (hb:w0.heap.size<=b) (pN:b<w.heap.size) (dh:γ.o b=2) (bK:w.heap[b]? =aa (.deferred (aa [])))
  (hc:∀o aO aQ w1 L1,Kn aO aQ w1 L1->Rx.Frame fg w0 aQ w1->aQ.o b=2->b<w1.heap.size->w1.heap[b]? =aa (.deferred (aa []))->k o aO=aa r->∀a1,@Fr (Rd.qW b) n L1 a1->Q (toX o) a1 w1):
  @CW P n (Rd.qW b) c Q L w:=by
 refine tf (I:=Rd.qW b) hP hR cU hm c an hN (.inl rfl) (@Lb.none P (Rd.qW b) _ _ hS) h (λt ht=>by unfold Rd.fb;rw[hd t ht];rfl) (hk.wz (Z:=λx=>x=b) (c:=3) (.inr rfl) (λb' iq _=>by subst iq;exact .inl dh) (.refl _ w)) ?_
 intro o aO aQ w1 L1 m1 m2 m3 m4
 obtain⟨q1,q2⟩:=m2.ro b pN (.inr (ia (Z:=λx=>x=b) rfl))
 have q1:aQ.o b=3:=q1.trans (ia (Z:=λx=>x=b) rfl)
 have eQ:b<w1.heap.size:=F1 pN m2.size
 refine hc o aO (eO aQ (λx=>x=b) 2) w1 L1 (m1.wz (.inl rfl) (λb' iq _=>by subst iq;exact .inr q1) (.refl _ w1)) ?_ (ia (Z:=λx=>x=b) rfl) eQ (q2.trans bK) m4
 refine gf.frame (Z:=λx=>x=b) ((((gf.of eF).trans (.wz (.refl _ w))).trans (.of m2)).trans (.wz (.refl _ w1))) (λb' iq=>?_) (λb' iq=>ia iq)
 subst iq
 exact .inl hb
def ay7(hP:ef P T)(hR:cK T)(cU:∀c∈Φ,gz P T c)(hm:P.follows .mixedOrders=ab){mj:List (It D)}(hB:∀q∈mj,FN P T q):∀(c:bO) (an:An) {ρ:Type} {σ:S D} {k:Out->S D->Option ρ} {r:ρ} {γ:Gh D} {w:ax} {L:List (Nat×ai)} {Q:Exit->Act->ax->Prop},Mv c=ab->IY T Φ mj c an σ k=aa r->(∀t∈writes c,dJ t n=ab)->Kn σ γ w L->
  (∀o aO aQ w1 L1,Kn aO aQ w1 L1->Rx.Frame γ w aQ w1->k o aO=aa r->NK n (Q (toX o)) L1 w1)->
  (∀b o aO aQ w1 L1,Kn aO aQ w1 L1->Rx.Frame γ w aQ w1->aQ.o b=2->w.heap.size<=b->b<w1.heap.size->w1.heap[b]? =aa (.deferred (aa []))->k o aO=aa r->∀a1,@Fr (Rd.qW b) n L1 a1->Q (toX o) a1 w1)->CW P n c Q L w:=by
 intro c
 induction c with
 |seq a b tW HC=>
  intro an ρ σ k r γ w L Q hN h hd hk jD kz
  unfold Mv at hN
  simp only[IY]at h
  have ui:∀t∈writes a,dJ t n=ab:=λt ht=>hd t (by simp only[writes];exact bg.2 (.inl ht))
  have xk:∀t∈writes b,dJ t n=ab:=λt ht=>hd t (by simp only[writes];exact bg.2 (.inr ht))
  cases Ux:yi (.seq a b)with
  |some x=>
   obtain⟨r0,id,g,p1,assign,body⟩:=x
   rw[Ux]at hN h
   have he:=abl Ux
   dsimp only at hN h he
   injection he with Ii El
   subst Ii El
   simp only[bt]at hN
   split at h
   case h_2=>cases h
   rename_i j pr E x hx
   obtain⟨ff,iD,h⟩:=pQ h
   obtain⟨fg,z1,z2,z3⟩:=pP iD hk
   intro a' jY
   refine wpIn_seq ?_
   refine tf hP hR cU hm a _ hN.1 (.inl rfl) (Lb.none hN.2) h (λt ht=>by unfold Rd.fb;rw[ui t ht];rfl) z1 (λo aO aQ w1 L1 m1 m2 m3 m4=>?_) a' jY
   have m2:=z2.trans m2
   cases o with
   |normal=>
    refine abO hP hR cU hm hB m4 m1 (λt ht=>xk t ?_) ?_
    ·simp only[writes];unfold yg at ht;simp only[cj,bg]at ht⊢;rcases ht with rfl|ht|ht<;>simp[*]
    ·intro b' o bL bf w2 L2 n1 n2 n3 n4 n5 n6 n7 n8;exact kz b' o bL bf w2 L2 n1 (m2.trans n2) n5 (lR m2.size n3) n4 n6 n7
   |exit id=>exact jD (.exit id) aO aQ w1 L1 m1 m2 m4
   |goto l=>exact jD (.goto l) aO aQ w1 L1 m1 m2 m4
   |ret=>exact jD .ret aO aQ w1 L1 m1 m2 m4
  |none=>
  rw[Ux]at hN h
  dsimp only at hN h
  cases Uz:yi a with
  |none=>
   rw[Uz]at hN h
   simp only[bt]at hN
   obtain⟨ff,iD,h⟩:=pQ h
   obtain⟨fg,z1,z2,z3⟩:=pP iD hk
   refine CW.seq λK hK=>?_
   refine tf hP hR cU hm a _ hN.1.1 (.inl rfl) (Lb.none hN.1.2) h (λt ht=>by unfold Rd.fb;rw[ui t ht];rfl) z1 λo aO aQ w1 L1 m1 m2 m3 m4=>?_
   have m2:=z2.trans m2
   cases o with
   |normal=>
    refine hK _ _ (HC _ hN.2 m4 xk m1 (λo bL bf w2 L2 n1 n2 n3=>jD o bL bf w2 L2 n1 (m2.trans n2) n3) λb' o bL bf w2 L2 n1 n2 n3 n4 n5 n6 n7=>kz b' o bL bf w2 L2 n1 (m2.trans n2) n3 (lR m2.size n4) n5 n6 n7)
   |exit id=>exact jD (.exit id) aO aQ w1 L1 m1 m2 m4
   |goto l=>exact jD (.goto l) aO aQ w1 L1 m1 m2 m4
   |ret=>exact jD .ret aO aQ w1 L1 m1 m2 m4
  |some x=>
   obtain⟨r0,id,g,p1,assign,body⟩:=x
   rw[Uz]at hN h
   obtain rfl:=abl Uz
   dsimp only at hN h ui⊢
   simp only[bt]at hN
   split at h
   case h_2=>cases h
   rename_i j pr E x hx
   obtain⟨ff,iD,h⟩:=pQ h
   obtain⟨fg,z1,z2,z3⟩:=pP iD hk
   intro a' jY
   refine wpIn_seq (wpIn_seq ?_)
   refine tf hP hR cU hm r0 _ hN.1.1.1 (.inl rfl) (Lb.none hN.1.1.2) h (λt ht=>by unfold Rd.fb;rw[ui t (by simp only[writes];exact bg.2 (.inl ht))];rfl) z1 (λo aO aQ w1 L1 m1 m2 m3 m4=>?_) a' jY
   have m2:=z2.trans m2
   cases o with
   |normal=>
    refine abO hP hR cU hm hB m4 m1 (λt ht=>ui t ?_) ?_
    ·simp only[writes];unfold yg at ht;simp only[cj,bg]at ht⊢;rcases ht with rfl|ht|ht<;>simp[*]
    ·intro b' o bL bf w2 L2 n1 n2 n3 n4 n5 n6 n7 n8;have eF:=m2.trans n2;rcases n8 with rfl|rfl
     ·dsimp only at n7;refine aDZ hP hR cU hm n7 hN.1.2 hN.2 xk n1 eF (lR m2.size n3) n4 n5 n6 ?_;intro o pd jU w3 L3 q1 q2 q3 q4 q5 q6;exact kz b' o pd jU w3 L3 q1 q2 q3 (lR m2.size n3) q4 q5 q6
     ·exact kz b' .ret bL bf w2 L2 n1 eF n5 (lR m2.size n3) n4 n6 n7
   |exit id=>exact jD (.exit id) aO aQ w1 L1 m1 m2 m4
   |goto l=>exact jD (.goto l) aO aQ w1 L1 m1 m2 m4
   |ret=>exact jD .ret aO aQ w1 L1 m1 m2 m4
 |_=>intro an ρ σ k r γ w L Q hN h;simp[IY]at h
def ayO{f:FuncId}{fn:Func}{c:bO}{l:List ai}{R:Ending->ax->Prop}(hf:P.funcs[f]? =aa fn)(hb:fn.body=aa c)(hn:fn.ntmps=n)(hl:eN l.length n=ab)
  (h:CW P n c (bodyPostM Fence.wide 0 P fn R) (tu 0 l) w):Calls P f l.toArray w R:=by
 have pL:l.length<=n:=by simpa using hl
 refine callsIn_wide.1 (callsIn_of_wp_marks (n:=0) hf hb trivial (h _ ⟨by simp[hn];omega,rfl,λt v hv=>?_,λ_ _ h=>by cases h⟩))
 obtain⟨_,h2⟩:=TF l 0 t v hv
 have ht:t<l.length:=(g9.1 h2).1
 simp only[Nat.sub_zero]at h2
 rw[Array.getElem?_append_left (by simpa using ht)]
 simpa using h2
def afl(hP:ef P T)(hR:cK T)(cU:∀c∈Φ,gz P T c)(hm:P.follows .mixedOrders=ab){mj:List (It D)}(hB:∀q∈mj,FN P T q){c:az D}{fn:Func}{code:bO}{rs:List lT}{an:An}
  (kW:∀(args:Array ai) (w:ax),(callFunc c.f args).run P w= .ok (.enter c.f args) w)
  (hf:P.funcs[c.f]? =aa fn) (hb:fn.body=aa code) (l8:fn.results=rs.toArray)
  (b6:((writes code).all (λt=>dJ t fn.ntmps)&&eN c.args.length fn.ntmps&&tU c.kl c.cn&&mZ (c.cn.map bV)&&c.cn.all (λp=>eN 1000 p.1)&&eN c.cn.length 40)=ab)
  (rJ:∀h,Sz T Φ mj c rs code an h=c.fn h):gz P T c:=by
 simp only[bt]at b6
 obtain⟨⟨⟨⟨⟨hw,hl⟩,ji⟩,Bj⟩,qK⟩,yU⟩:=b6
 refine⟨kW,ji,Bj,qK,yU,λh r hr as eU has nP γ w vs hv bK=>?_⟩
 rw[<-rJ]at hr
 unfold Sz at hr
 split at hr
 case h_2=>cases hr
 rename_i jB
 split at hr
 case h_2=>cases hr
 rename_i σ lG
 unfold y8 at lG
 dsimp only at lG
 split at lG
 case isFalse=>cases lG
 rename_i hc
 rw[has,nP]at lG
 have lG:=kb lG
 subst lG
 simp only[bt,dX]at hc qK hw
 have mG:=PW (k:=0) hv
 have hlen:=hv.len
 have Bh:=D0 has
 refine ayO hf hb rfl (by rw[hlen,Bh];exact hl) ?_
 obtain⟨ff,iD,hr⟩:=pQ hr
 obtain⟨fg,z1,z2,z3⟩:=pP iD (γ:=γ) ⟨mG,bK,bw _⟩
 have fin:∀{be} {γ':Gh D} {w':ax} {L':List (Nat×ai)},Kn be γ' w' L'->Rx.Frame γ w γ' w'->vc.fin T c rs be=aa r->∃vs,zv P L' w' rs vs∧mi (λv w'=>∃U' γ' rs ko,im T (dK T c.outs r) aa id 3000 c.kl=aa rs∧jN T (dK T c.outs r) aa id 3000 c.cn=aa ko∧
   v_ U' γ' w' rs v∧(∀p x,dC ko p=aa x->OR U' γ' w' p x)∧(∀p,(p,p)∈stay c->γ'.g p=γ.g p)∧Frame0 γ w γ' w') (.returned (yj vs)) w':=by
  intro be γ' w' L' da eF ho
  obtain⟨vs,h1,bf,u_,ko,h2,h3,h4,h5,h6,h7⟩:=abn hP hR da (λq hq=>dw (qK q hq)) (λq hq=>by have:=dw (hc.2 q hq).2;omega) ho
  refine⟨vs,h1,_,rfl,_,bf,u_,ko,h2,h3,h4,h5,λp hp=>?_,eF.toFrame0.trans h7⟩
  rw[h6 p hp]
  refine eF.gk p ?_
  unfold stay at hp
  obtain⟨q,hq,e⟩:=dk.1 hp
  cases e
  obtain⟨q',ua⟩:=sH (List.mem_filter.1 hq).2
  have:=dw (hc.2 _ ua).2
  simp only at this
  omega
 refine ay7 hP hR cU hm hB code an.un jB hr hw z1 (λo be γ' w' L' da eF ho=>?_) (λb o be γ' w' L' da eF dh Vz aET UL ho a1 NL=>?_)
 ·have eF:=z2.trans eF;have one:vc.fin T c rs be=aa r->∀a,Fr fn.ntmps L' a->LeavesInM Fence.wide 0 P fn a.tmps _ a.defers .returning w':=λho a ha=>by obtain⟨vs,h1,h2⟩:=fin da eF ho;rw[ha.defers];exact⟨_,Ac (λ_ _ hx=>ha.ev hx) l8 h1,h2⟩
  cases o with
  |normal=>exact one ho
  |ret=>exact one ho
  |exit id=>cases ho
  |goto l=>cases ho
 ·have eF:=z2.trans eF;obtain⟨w2,fW⟩:∃w2,w2=w'.putObj b (.deferred none):=⟨_,rfl⟩;have hwz:WZ (λx=>x=b) w' w2:=by rw[fW];exact .put rfl
  have oL:Kn be (eO γ' (λx=>x=b) 2) w2 L':=da.wz (.inl rfl) (λb' iq _=>by subst iq;exact .inl dh) hwz;have avF:Rx.Frame γ w (eO γ' (λx=>x=b) 2) w2:=by refine gf.frame (Z:=λx=>x=b) ((gf.of eF).trans (.wz hwz)) (λb' iq=>?_) (λb' iq=>ia iq);subst iq;exact .inl Vz
  have one:vc.fin T c rs be=aa r->LeavesInM Fence.wide 0 P fn a1.tmps _ a1.defers .returning w':=λho=>by
   obtain⟨vs,h1,h2⟩:=fin oL avF ho;rw[@Fr.defers (Rd.qW b) _ _ _ NL];refine⟨by simp,.inl ⟨b,w2,rfl,?_,?_⟩⟩
   ·rw[fW];exact run_takeDeferred UL
   ·exact⟨_,Ac (L:=L') (λ_ _ hx=> @Fr.ev (Rd.qW b) _ _ _ NL _ _ hx) l8 h1,h2⟩
  cases o with
  |normal=>exact one ho
  |ret=>exact one ho
  |exit id=>cases ho
  |goto l=>cases ho
abbrev aEn(T:bc D)(Φ:List (az D))(mj:List (It D))(c:az D)(rs:List lT)(code:bO)(an:An):az D:=⟨c.f,c.ins,c.outs,c.args,c.ob,c.kl,c.cn,Sz T Φ mj c rs code an⟩
