import Derived.Maps.RangeRun
import Derived.Test.YtmngjhagbjgmfaaGreatRi
set_option linter.all false
open Bool renaming and_eq_true->bt,false->ai,true->ab
open Go renaming Code->bM,MapEntry->gL,Oper->aT,Operand->a_,TypeId->aY,Value->ah,World->ay
open List renaming all_eq_true->dU,filter_eq_self->FA,map_cons->gz,mem_append->bA,mem_cons->cu,mem_map->dE,not_mem_nil->jQ
open Nat renaming beq->aU,ble->eh,blt->dz,eq_of_beq_eq_true->bB,le_refl->bx
open Option renaming none->ak,some->aa
open Prod renaming fst->bT,snd->oT
noncomputable section
namespace Go.Proofs.YtmngjhagbjgmfaaGreat
open Go Go.RowKit Dp
namespace Rx
section
open Classical in
def BQ{α ρ:Type}(xs:List α)(f:List α->Option ρ):Option ρ:=match xs with
 |[]=>f []
 |[x]=>f [x]
 |x::y::l=>if ∀zs,zs.Perm (x::y::l)->f zs=f (x::y::l)then f (x::y::l)else ak
def aCs{α ρ:Type}{xs:List α}{f:List α->Option ρ}{r:ρ}(h:BQ xs f=aa r):∀zs,zs.Perm xs->f zs=aa r:=by
 intro zs hz;unfold BQ at h;split at h
 ·rw[List.Perm.eq_nil hz];exact h
 ·rw[List.perm_singleton.1 hz];exact h
 ·split at h
  ·rename_i hh;rw[hh zs hz];exact h
  ·cases h
def aCr{α ρ:Type}{xs:List α}{f:List α->Option ρ}{r:ρ}(h:∀zs,zs.Perm xs->f zs=aa r):BQ xs f=aa r:=by
 unfold BQ;split
 ·exact h _ (.refl _)
 ·exact h _ (.refl _)
 ·rw[aH λzs hz=>(h zs hz).trans (h _ (.refl _)).symm];exact h _ (.refl _)
def sT{α σ:Type}(f:σ->α->Option σ):σ->List α->Option σ
 |s,[]=>aa s
 |s,y::ys=>nD (f s y) λs'=>sT f s' ys
def aa7{α:Type}{key:α->Nat}:∀{l:List α},(l.map key).Nodup->∀{p:α},p∈l->l.Perm (p::l.filter λq=> !(key q==key p))
 |[],_,p,hp=>by cases hp
 |a::l,hn,p,hp=>by
  rw[gz]at hn;have DM:=List.nodup_cons.1 hn;rcases cu.1 hp with rfl|hp
  ·have e1:(p::l).filter (λq=> !(key q==key p))=l:=by
    rw[List.filter_cons_of_neg (by simp)];refine FA.2 λq hq=>?_;have:key q≠key p:=λe=>DM.1 (dE.2 ⟨q,hq,e⟩);simpa using this
   rw[e1]
  ·have bR:key a≠key p:=λe=>DM.1 (dE.2 ⟨p,hp,e.symm⟩);rw[List.filter_cons_of_pos (by simpa using bR)];exact((aa7 DM.2 hp).cons a).trans (.swap _ _ _)
def cd:Nat->Option (Nat⊕Unit)
 |0=>aa (.inr ())
 |k+1=>aa (.inl k)
def aff:∀k,nE cd (k+1) k=aa ()
 |0=>by rw[Me];rfl
 |k+1=>by rw[Me];exact aff k
def jO.zip{α:Type}{R:gL->α->Prop}:∀{es:List gL} {xs:List α},jO R es xs->(es.zip xs).map bT=es∧(es.zip xs).map oT=xs∧∀p∈es.zip xs,R p.1 p.2
 |[],[],_=>⟨rfl,rfl,λ_ h=>by cases h⟩
 |e::es,x::xs,h=>by
  obtain⟨h1,h2,h3⟩:=jO.zip h.2;refine⟨by rw[List.zip_cons_cons,gz,h1],by rw[List.zip_cons_cons,gz,h2],λp hp=>?_⟩;rw[List.zip_cons_cons]at hp;rcases cu.1 hp with rfl|hp
  ·exact h.1
  ·exact h3 p hp
 |[],_::_,h=>h.elim
 |_::_,[],h=>h.elim
end
structure lc where
 r0:Nat
 b:Nat
 r1:Nat
 b5:Nat
 r2:Nat
 LP:List aT
 B2:bM
 t:aY
 ms:Nat
 mv:Nat
 it:Nat
 nx:Nat
 ex:Nat
 en:Nat
 kt:Nat
 y:List aY
 p:List String
 a:List (Array Edge)
def yc(m:lc)(k d:Nat)(op:Op):aT:=⟨aa d,op,m.y.getD k 0,m.p.getD k "",m.a.getD k #[],ak⟩
def lc.wN(m:lc):List aT:=yc m 4 m.en (.entry (.tmp m.it))::yc m 5 m.kt (.extract (.tmp m.en) 0)::m.LP
def lc.body(m:lc):bM:= .seq (.region m.r1 [yc m 2 m.nx (.next (.tmp m.it) ai),yc m 3 m.ex (.extract (.tmp m.nx) 0)].toArray ai) (.seq (.cond (.tmp m.ex) .skip (.exit m.b)) (.block m.b5 (.seq (.region m.r2 m.wN.toArray ai) m.B2)))
def lc.code(m:lc):bM:= .seq (.region m.r0 [yc m 0 m.mv (.move (.tmp m.ms)),yc m 1 m.it (.range m.t (.tmp m.mv))].toArray ai) (.block m.b (.loop m.body))
def abi(l:List aT)(k:Nat):Option Op:=match l[k]? with
 |some o=>aa o.op
 |none=>ak
def rgT:Option Op->aY
 |some (.range t _)=>t
 |_=>0
def mvX:Option Op->Nat
 |some (.move (.tmp x))=>x
 |_=>0
def aqT:bM->lc
 | .seq (.region r0 o0 _) (.block b (.loop (.seq (.region r1 o1 _) (.seq _ (.block b5 (.seq (.region r2 o2 _) B2))))))=>
   let l:=o0.toList++(o1.toList++o2.toList.take 2)
   {r0,b,r1,b5,r2,LP:=o2.toList.drop 2,B2,
    t:=rgT (abi o0.toList 1),ms:=mvX (abi o0.toList 0),
    mv:=kX l 0,it:=kX l 1,nx:=kX l 2,ex:=kX l 3,en:=kX l 4,kt:=kX l 5,
    y:=l.map λo=>o.type,p:=l.map λo=>o.pos,a:=l.map λo=>o.after}
 |_=>⟨0,0,0,0,0,[],.skip,0,0,0,0,0,0,0,0,[],[],[]⟩
def jE(m:lc):List Nat:=m.nx::m.ex::m.en::m.kt::(dstsOf m.LP++writes m.B2)
section
variable {D:Nat->Type} [∀n,ad (D n)]
variable {P:Program} {T:bc D} {Φ:List (aA D)} {n:Nat}
def ab8(T:bc D){n:Nat}(y:D n):Option (AV D):=vh (match(T.out n y).dropLast with|[_]=>ai|_=>ab) (N8 [] (T.out n y).dropLast)
def KX(T:bc D)(Φ:List (aA D))(m:lc)(j:J)(an:An){n:Nat}(σ:S D)(h:HH D j.cM)(y:D n):Option (HH D j.cM):=match lB T j (jE m) j.mv σ h with
 |some cj=>match ab8 T y with
  |some a=>je T Φ m.wN m.LP 2 {cj with sl:=(m.kt,a)::cj.sl,lk:=oA σ j} [] λbI _=>fS T Φ m.B2 an bI λo o7=>match o with
   | .normal=>qH T j o7 λh'=>aa h'
   |_=>ak
  |none=>ak
 |none=>ak
def abt(m:lc)(j:J):Bool:=gE m.B2&&iW m.B2&& !(bN (jE m) m.it)&&j.sl.all (λp=> !(bN [m.nx,m.ex,m.en,m.kt] p.1))&& !(aU m.nx m.ex)&& !(aU m.en m.kt)&& !(aU m.mv m.it)
def R5(T:bc D)(Φ:List (aA D))(m:lc)(j:J)(an:An){ρ:Type}(σ:S D)(k:S D->Option ρ):Option ρ:=match aF σ.sl m.ms with
 |some (.c (.one (.own i)))=>match dw σ.ob i with
  |some (.mp n xs)=>match aF T.qf m.t,aF σ.sl m.it,aF σ.sl m.mv with
   |some kt,ak,ak=>match aU kt.2.2 n&&abt m j with
    |true=>qH T j {rN [i] σ with lk:=oA (rN [i] σ) j} λh0=>BQ xs λzs=>nD (sT (KX T Φ m j an (rN [i] σ)) h0 zs) λh'=>match lB T j (jE m) j.mv (rN [i] σ) h' with
     |some kH=>k kH
     |none=>ak
    |false=>ak
   |_,_,_=>ak
  |_=>ak
 |_=>ak
section
variable {Q:Exit->Act->ay->Prop} {L:List (Nat×ah)} {w:ay} {ty:aY} {pos:String} {af:Array Edge} {g:Option (Nat×Bool)} {d:Option Tmp}
def OW.rangeMap [Rd]{t k e:aY}{x:a_}{b:Nat}{es:Array gL}{clock:Nat}(ht:P.underlying t=aa (.map k e))(hx:ev L x=aa (.map (aa b)))(hb:w.heap[b]? =aa (.map es clock)):
  OW P Q L ⟨d,.range t x,ty,pos,af,g⟩ w (λv w'=>v=fP w.heap.size 0∧w'=w.alloc (.mapIter (aa b) clock #[] clock)):=
 OW.run λa ha=>⟨_,_,by simp[execOp,ha _ _ hx,run_range_map w t k e b es clock ht hb];rfl,rfl,rfl⟩
def OW.aqN [Rd]{x:a_}{r bm since c0:Nat}{seen:Array Nat}{es:Array gL}{clock:Nat}(hx:ev L x=aa (fP r 0))(hr:w.heap[r]? =aa (.mapIter (aa bm) since seen c0))(hb:w.heap[bm]? =aa (.map es clock))
  (hold:∀y∈es.toList,y.born<since) (hsc:since<=c0):
  OW P Q L ⟨d,.next x ai,ty,pos,af,g⟩ w (λv w'=>(v= .tuple #[.bool ai]∧w'=w∧(leftOf es seen).size=0)∨∃e∈(leftOf es seen).toList,v= .tuple #[.bool ab,e.key,e.val]∧∃w1:ay,(w1=w∨w1=w.drew)∧w'=ChangeMaps.setBlock w1 r (.mapIter (aa bm) since (seen.push e.born) clock)):=by
 refine OW.run λa ha=>?_
 have e0:a.eval x= .pointer (aa ⟨r,0,ak⟩):=ha _ _ hx
 rcases run_next_at (P:=P) w ty r bm since c0 seen es clock hr hb hold hsc with⟨h0,fy⟩|⟨e,he,w1,hal,fy⟩
 ·exact⟨_,w,by simp[execOp,e0,fy],.inl ⟨rfl,rfl,h0⟩⟩
 ·exact⟨_,_,by simp[execOp,e0,fy],.inr ⟨e,he,rfl,w1,hal,rfl⟩⟩
def OW.axz [Rd]{x:a_}{r bm since:Nat}{seen:Array Nat}{es:Array gL}{clock:Nat}{e:gL}(hx:ev L x=aa (fP r 0))(hr:w.heap[r]? =aa (.mapIter (aa bm) since (seen.push e.born) clock))(hb:w.heap[bm]? =aa (.map es clock))
  (he:e∈es.toList) (hn:(es.toList.map (·.born)).Nodup):OW P Q L ⟨d,.entry x,ty,pos,af,g⟩ w (λv w'=>v= .tuple #[e.key,e.val]∧w'=w):=
 OW.run λa ha=>⟨_,w,by have e0:a.eval x= .pointer (aa ⟨r,0,ak⟩):=ha _ _ hx;simp[execOp,e0,run_entry_at (P:=P) w r bm since seen es clock e hr hb he hn],rfl,rfl⟩
def OW.Vh [Rd]{x:a_}{vs:Array ah}{i:Nat}{v:ah}(hx:ev L x=aa (.tuple vs))(hi:vs[i]? =aa v):OW P Q L ⟨d,.extract x i,ty,pos,af,g⟩ w (λv' w'=>v'=v∧w'=w):=OW.run λa ha=>⟨_,w,by simp[execOp,ha _ _ hx,Instr.extract,hi],rfl,rfl⟩
def CW.aw9 [I:Rd]{ops:Array aT}{l:List aT}{t:Nat}{v:ah}(hf:I.fix t=aa v)(h:WL P n ops Q l ((t,v)::L) w):WL P n ops Q l L w:=λa ha=>h a ⟨ha.size,ha.defers,λt' v' h'=>by
 by_cases e:t=t'
 ·subst e;rw[iK]at h';cases h';exact ha.fix _ _ hf
 ·rw[gZ _ _ e]at h';exact ha.get _ _ h',ha.fix⟩
def CW.aw_ [I:Rd]{c:bM}{t:Nat}{v:ah}(hf:I.fix t=aa v)(h:CW P n c Q ((t,v)::L) w):CW P n c Q L w:=λa ha=>h a ⟨ha.size,ha.defers,λt' v' h'=>by
 by_cases e:t=t'
 ·subst e;rw[iK]at h';cases h';exact ha.fix _ _ hf
 ·rw[gZ _ _ e]at h';exact ha.get _ _ h',ha.fix⟩
end
@[reducible] def Rd.vU (t:Nat) (v:ah):Rd:=⟨ak,[],λt'=>if t'=t then aa v else ak⟩
def awf{t:Nat}{v:ah}{L:List (Nat×ah)}{a:Act}(h: @Fr (Rd.vU t v) n L a): @Fr Rd.plain n L a:= @Fr.mk Rd.plain _ _ _ (@Fr.size (Rd.vU t v) _ _ _ h) (@Fr.defers (Rd.vU t v) _ _ _ h) (@Fr.get (Rd.vU t v) _ _ _ h) (λ_ _ h=>by cases h)
def awg{t:Nat}{v:ah}{L:List (Nat×ah)}{a:Act}(h: @Fr Rd.plain n L a)(hl:Dp.look L t=aa v): @Fr (Rd.vU t v) n L a:= @Fr.mk (Rd.vU t v) _ _ _ (@Fr.size Rd.plain _ _ _ h) (@Fr.defers Rd.plain _ _ _ h) (@Fr.get Rd.plain _ _ _ h) (λt' v' hv=>by
 by_cases e:t'=t
 ·subst e;have:aa v=aa v':=by rw[<-hv];exact(aH rfl).symm
  cases this;exact @Fr.get Rd.plain _ _ _ h _ _ hl
 ·have:(Rd.vU t v).fix t'=ak:=aL e;rw[this]at hv;cases hv)
def aoz{Z:Nat->Prop}{w w1:ay}{r:Nat}{o o':Obj}(hz:Z r)(hr:w.heap[r]? =aa o)(h1:w1=w∨w1=w.drew):WZ Z w (ChangeMaps.setBlock w1 r o')∧(ChangeMaps.setBlock w1 r o').heap[r]? =aa o'∧(∀b,b≠r->(ChangeMaps.setBlock w1 r o').heap[b]? =w.heap[b]?)∧(ChangeMaps.setBlock w1 r o').heap.size=w.heap.size:=by
 have DG:w1.heap[r]? =aa o:=by rcases h1 with rfl|rfl<;>exact hr
 have hs:(ChangeMaps.setBlock w1 r o').heap.size=w.heap.size:=by rcases h1 with rfl|rfl<;>simp[ChangeMaps.setBlock]
 obtain⟨k1,k2⟩:=MapKept.heap_set (o':=o') DG;have ho:∀b,b≠r->(ChangeMaps.setBlock w1 r o').heap[b]? =w.heap[b]? :=λb hb=>(k2 b hb).trans (by rcases h1 with rfl|rfl<;>rfl);refine⟨⟨by rcases h1 with rfl|rfl<;>rfl,by rcases h1 with rfl|rfl<;>rfl,by rcases h1 with rfl|rfl<;>rfl,by omega,λb hb _=>ho b λe=>hb (e▸hz),λb hb=> .inl (by omega)⟩,k1,ho,hs⟩
def apN(hP:dS P T)(hR:cF T)(cL:∀c∈Φ,fM P T c)(hm:P.follows .mixedOrders=ab){m:lc}{j:J}{an:An}{ρ:Type}{σ:S D}{k:S D->Option ρ}{r:ρ}{γ:Gh D}{w:ay}{L:List (Nat×ah)}{Q:Exit->Act->ay->Prop}
  (h:R5 T Φ m j an σ k=aa r) (hk:Kn σ γ w L) (hd:∀t∈m.mv::m.it::jE m,dz t n=ab)
  (hc:∀aN aQ w1 L1,Kn aN aQ w1 L1->Rx.Frame γ w aQ w1->k aN=aa r->NK n (Q .normal) L1 w1):CW P n m.code Q L w:=by
 unfold R5 at h
 split at h
 case h_2=>cases h
 rename_i i hms
 split at h
 case h_2=>cases h
 rename_i nn xs ho
 split at h
 case h_2=>cases h
 rename_i kt hmt hit DN
 split at h
 case h_2=>cases h
 rename_i sN
 rw[bt]at sN
 have hn:=bB sN.1
 have jt:=sN.2
 unfold abt at jt
 simp only[bt,Bool.not_eq_true']at jt
 obtain⟨⟨⟨⟨⟨⟨c1,c2⟩,c3⟩,c4⟩,c5⟩,c6⟩,c7⟩:=jt
 obtain⟨ktT,vtT,n0⟩:=kt
 have hn:n0=nn:=hn
 subst hn
 have hM:=hP.qf _ _ _ _ hmt
 obtain⟨fB,_,Hu⟩:=hk.ob.ob i _ ho
 obtain⟨rb,es,clock,hg,hoi,hb,hpw,gG,UK⟩:=Hu
 obtain⟨v0,hL0,Hg⟩:=hk.sr _ _ hms
 have Hg:v0= .map (aa rb):=Hg.2.1.trans hg
 subst Hg
 have hrb:rb<w.heap.size:=(Array.getElem?_eq_some_iff.1 hb).1
 obtain⟨h0,pz,hF⟩:=sU h
 have hF:=aCs hF
 have aDb:m.mv≠m.it:=λe=>by rw[e]at c7;simp at c7
 have adu:m.it∉jE m:=λmF=>by rw[ew.2 mF]at c3;cases c3
 have Hn:∀t∈m.mv::m.it::jE m,Rd.eZ Rd.plain n t=ab:=λt ht=>by unfold Rd.eZ;rw[hd t ht];rfl
 unfold lc.code
 refine CW.seq λK0 H3=>CW.region ?_
 refine WL.v (v:= .map (aa rb)) (by simp[yc,Dp.pv,Dp.ev,hL0]) (Hn _ (by simp)) ?_
 refine WL.step (OW.rangeMap hM.uW (by simp[Dp.ev,iK]) hb) (Hn _ (by simp)) ?_
 rintro v W1 ⟨rfl,pH⟩
 refine WL.nil (H3 _ _ ?_)
 obtain⟨q,hq⟩:∃q,q=w.heap.size:=⟨_,rfl⟩
 rw[<-hq]
 have avi:W1.heap.size=q+1:=by rw[pH,hq];simp
 have avj:W1.heap[q]? =aa (.mapIter (aa rb) clock #[] clock):=by rw[pH,hq];exact ay.alloc_heap_new w _
 have ad6:∀b,b<w.heap.size->W1.heap[b]? =w.heap[b]? :=λb hb=>by rw[pH];exact Below.heap_alloc _ _ _ hb
 obtain⟨L1,H2⟩:∃L1,L1=(m.it,fP q 0)::(m.mv,ah.map (aa rb))::L:=⟨_,rfl⟩
 rw[<-H2]
 obtain⟨Zi,HV⟩:∃Zi:Nat->Prop,Zi=λb=>b=q:=⟨_,rfl⟩
 have HX:WZ Zi w W1:=⟨by rw[pH];rfl,by rw[pH];rfl,by rw[pH];rfl,by omega,λb _ aV=>ad6 b aV,λb hb=>by rw[HV];show _∨b=q;omega⟩
 obtain⟨aQ,G'⟩:∃aQ,aQ=eK γ Zi 3:=⟨_,rfl⟩
 have eI:Kn σ aQ W1 L:=by rw[G'];exact hk.wz (.inr rfl) (λb hb aV=>by rw[HV]at hb;have hb:b=q:=hb;omega) HX
 obtain⟨Bx,xi⟩:∃Bx:Nat->Prop,Bx=λb=>b<W1.heap.size∧aQ.o b∈[i]:=⟨_,rfl⟩
 obtain⟨gp,Az⟩:∃gp,gp=rN [i] σ:=⟨_,rfl⟩
 rw[<-Az]at pz hF
 have at4:Kn gp (eK aQ Bx 2) W1 L:=by rw[Az,xi];exact eI.rN (by simp[fB])
 have vI:gp.lk=σ.lk:=by rw[Az];rfl
 have adR:∀t,aF gp.sl t=aF σ.sl t:=λt=>by rw[Az];rfl
 have vC:Kn gp (eK aQ Bx 2) W1 L1:=at4.C9 λt x v hx hv=>by rw[adR]at hx;rw[H2,gZ _ _ (λe=>by rw[<-e,hit]at hx;cases hx),gZ _ _ (λe=>by rw[<-e,DN]at hx;cases hx)];exact hv
 obtain⟨ZA,kw⟩:∃ZA:Nat->Prop,ZA=λb=>Zi b∨Bx b:=⟨_,rfl⟩
 have ac8:rb≠q:=by omega
 have asB:aQ.o rb=i:=by rw[G',mu (by rw[HV];exact ac8)];exact hoi
 have ave:ZA rb:=by rw[kw];right;rw[xi];exact⟨by omega,by simp[asB]⟩
 have hZq:ZA q:=by rw[kw,HV];exact .inl rfl
 have ad2:∀b,ZA b->(w.heap.size<=b∨(γ.o b≠0∧γ.o b≠3))∧b<W1.heap.size:=λb hb=>by
  rw[kw]at hb;by_cases hz:Zi b
  ·rw[HV]at hz;have hz:b=q:=hz;exact⟨.inl (by omega),by omega⟩
  ·rcases hb with hb|hb
   ·exact(hz hb).elim
   ·rw[xi]at hb;obtain⟨h1,h2⟩:=hb;rw[G',mu hz]at h2;simp only[List.mem_singleton]at h2;exact⟨.inr (by omega),h1⟩
 have Up:fY ZA γ w (eK aQ Bx 2) W1:=by
  have f1:fY Zi γ w aQ W1:=by rw[G'];exact .wz HX
  have f2:fY Bx aQ W1 (eK aQ Bx 2) W1:= .wz (.refl Bx W1);exact(f1.mono λb hb=>by rw[kw];exact .inl hb).trans (f2.mono λb hb=>by rw[kw];exact .inr hb)
 have aur:∀{PV:Gh D} {we:ay},fY ZA γ w PV we->(∀b,ZA b->PV.o b=2)->Rx.Frame γ w PV we:=λhf h2=>hf.frame (λb hb=>(ad2 b hb).1) h2
 obtain⟨ps,pC⟩:∃ps,ps=es.toList.zip xs:=⟨_,rfl⟩
 obtain⟨z1,z2,z3⟩:=jO.zip gG
 rw[<-pC]at z1 z2 z3
 obtain⟨left,Hx⟩:∃left:Array Nat->List (gL×D n0),left=λseen=>ps.filter λp=> !seen.contains p.1.born:=⟨_,rfl⟩
 have au0:(ps.map λp=>p.1.born).Nodup:=by have:=UK.2;rw[<-z1,List.map_map]at this;exact this
 have adn:∀seen,(leftOf es seen).toList=(left seen).map bT:=λseen=>by rw[Hx];unfold leftOf;rw[Array.toList_filter,<-z1,List.filter_map];rfl
 have atu:∀(seen:Array Nat) (p:gL×D n0),p∈left seen->(left seen).Perm (p::left (seen.push p.1.born)):=λseen p hp=>by
  have hnd:((left seen).map λp=>p.1.born).Nodup:=by rw[Hx];exact au0.sublist (List.filter_sublist.map _)
  have e1:left (seen.push p.1.born)=(left seen).filter λq=> !(q.1.born==p.1.born):=by rw[Hx];simp only[List.filter_filter];refine List.filter_congr λq _=>?_;rw[contains_push];cases seen.contains q.1.born<;>cases(q.1.born==p.1.born)<;>rfl
  rw[e1];exact aa7 hnd hp
 have hold:∀y∈es.toList,y.born<clock:=UK.1
 obtain⟨fin,jH⟩:∃fin:HH D j.cM->Option ρ,fin=λh'=>match lB T j (jE m) j.mv gp h' with
  |some kH=>k kH
  |none=>ak:=⟨_,rfl⟩
 obtain⟨bd,sP⟩:∃bd:HH D j.cM->D n0->Option (HH D j.cM),bd=KX T Φ m j an gp:=⟨_,rfl⟩
 rw[<-sP,<-jH]at hF
 have Ug:∀{h':HH D j.cM} {zs:List (D n0)},nD (sT bd h' zs) fin=aa r->∃cj,lB T j (jE m) j.mv gp h'=aa cj:=by
  intro h' zs hz;cases zs with
  |nil=>
   have hz:fin h'=aa r:=hz;rw[jH]at hz;dsimp only at hz;split at hz
   ·rename_i kH he;exact⟨kH,he⟩
   ·cases hz
  |cons y ys=>
   obtain⟨a1,ha,_⟩:=pM hz;obtain⟨a2,nc,_⟩:=pM ha;rw[sP]at nc;unfold KX at nc;split at nc
   ·rename_i cj he;exact⟨cj,he⟩
   ·cases nc
 let I:Rd:=Rd.vU m.it (fP q 0)
 have adM:I.fix m.it=aa (fP q 0):=aH rfl
 have AS:∀t∈jE m,I.eZ n t=ab:=λt ht=>by unfold Rd.eZ;rw[hd t (by simp[ht])];have:I.fix t=ak:=aL λe:t=m.it=>adu (e▸ht);rw[this];rfl
 have atW:Dp.look L1 m.it=aa (fP q 0):=by rw[H2];exact iK _ _ _
 have main: @CW P n I (.block m.b (.loop m.body)) Q L1 W1:=by
  refine CW.block ?_;obtain⟨inv,hinv⟩:∃inv:Nat->List (Nat×ah)->ay->Prop,inv=λkk L W=>∃(seen:Array Nat) (c0:Nat) (h':HH D j.cM) (cj:S D) (gD:Gh D),lB T j (jE m) j.mv gp h'=aa cj∧Kn cj gD W L∧fY ZA γ w gD W∧ci (jE m) {gp with lk:=oA gp j} {cj with lk:=oA gp j}∧
   (∀b,ZA b->gD.o b=2∧b<W.heap.size)∧W.heap[rb]? =aa (.map es clock)∧W.heap[q]? =aa (.mapIter (aa rb) clock seen c0)∧clock<=c0∧(left seen).length=kk∧∀zs,zs.Perm ((left seen).map oT)->nD (sT bd h' zs) fin=aa r:=⟨_,rfl⟩
  have head:∀{h':HH D j.cM} {q_:S D} {jm:Gh D} {W:ay} {L5:List (Nat×ah)} {seen:Array Nat} {c0:Nat},Kn q_ jm W L5->ci (jE m) {gp with lk:=oA gp j} q_->zl T j q_ h'->fY ZA γ w jm W->(∀b,ZA b->jm.o b=3∧b<W.heap.size)->W.heap[rb]? =aa (.map es clock)->W.heap[q]? =aa (.mapIter (aa rb) clock seen c0)->clock<=c0->
    (∀zs,zs.Perm ((left seen).map oT)->nD (sT bd h' zs) fin=aa r)->inv (left seen).length L5 W:=by
   intro h' q_ jm W L5 seen c0 k1 k2 k3 k4 k5 k6 k7 k8 k9
   obtain⟨cj,mX⟩:=Ug (k9 _ (.refl _))
   obtain⟨bg,q1,q2,q3,_⟩:=Au hR rfl vC k1 k2 k3 mX
   have rI:∀b,ZA b->bg.o b=3:=λb hb=>by rw[(q2.ro b (k5 b hb).2 (.inr (k5 b hb).1)).1];exact(k5 b hb).1
   rw[hinv]
   exact⟨seen,c0,h',cj,eK bg ZA 2,mX,q1.wz (.inl rfl) (λb hb _=> .inr (rI b hb)) (.refl _ W),(k4.trans (.of q2)).trans (.wz (.refl _ W)),q3,λb hb=>⟨gP hb,(k5 b hb).2⟩,k6,k7,k8,rfl,k9⟩
  have yC:left #[]=ps:=by rw[Hx];exact FA.2 λ_ _=>by simp
  refine CW.loop cd inv (SL (aff (left #[]).length)) ?_ ?_
  ·refine head (jm:=eK (eK aQ Bx 2) ZA 3) ((vC.lk _).wz (.inr rfl) (λb hb _=>?_) (.refl _ W1)) (ci.refl _ _) pz (Up.trans (.wz (.refl _ W1))) (λb hb=>⟨gP hb,(ad2 b hb).2⟩) ((ad6 rb hrb).trans hb) avj (bx _) (λzs hz=>hF zs (by rw[yC,z2]at hz;exact hz));by_cases vK:Bx b
   ·exact .inl (gP vK)
   ·rw[mu vK];right;rw[kw]at hb;rcases hb with hb|hb
    ·rw[G'];exact gP hb
    ·exact(vK hb).elim
  rintro K kk L' W hi x hx DG yx;rw[hinv]at hi;obtain⟨seen,c0,h',cj,gD,i1,i2,i3,i4,i5,i6,i7,i8,i9,i10⟩:=hi;have Hi:∀t∈[m.nx,m.ex,m.en,m.kt],aF cj.sl t=ak:=λt ht=>by
   cases hl:aF cj.sl t with
   |none=>rfl
   |some a=>
    rcases Th i1 hl with⟨h1,_⟩|h1
    ·obtain⟨p,hp,rfl⟩:=dE.1 h1;have:=dU.1 c4 p hp;rw[ew.2 ht]at this;cases this
    ·exact(h1 (by simp only[cu,jQ,kE]at ht;unfold jE;rcases ht with rfl|rfl|rfl|rfl<;>simp)).elim
  have TF:aF cj.sl m.it=ak:=by have e1:aF cj.sl m.it=aF gp.sl m.it:=i4.sl _ adu;rw[e1,adR,hit]
  refine CW.aw_ adM ?_;unfold lc.body;refine CW.seq λK1 g_=>CW.region ?_;refine WL.step (OW.aqN (iK _ _ _) i7 i6 hold i8) (AS _ (by simp[jE])) ?_;rintro v W2 (⟨rfl,hWe,hz⟩|⟨e,he,rfl,w1,wV,hW2⟩)
  ·
   rw[hWe]
   refine WL.step (OW.Vh (v:= .bool ai) (iK _ _ _) rfl) (AS _ (by simp[jE])) ?_
   rintro v w' ⟨rfl,ua⟩
   rw[ua]
   clear ua w'
   refine WL.nil (g_ _ _ ?_)
   refine CW.seq λK2 iD=>CW.cond (b:=ai) (iK _ _ _) (λh=>by cases h) λ_=>CW.exit ?_
   have yC:left seen=[]:=by have e1:=iq List.length (adn seen);rw[Array.length_toList,hz,List.length_map]at e1;exact List.eq_nil_of_length_eq_zero e1.symm
   have DU:=i10 [] (by rw[yC];exact .refl _)
   have DU:fin h'=aa r:=DU
   rw[jH]at DU
   dsimp only at DU
   rw[i1]at DU
   have HC:Kn cj gD W ((m.ex,.bool ai)::(m.nx,.tuple #[.bool ai])::(m.it,fP q 0)::L'):=i2.C9 λt x v hx hv=>by rw[gZ _ _ (λe=>by subst e;rw[Hi _ (by simp)]at hx;cases hx),gZ _ _ (λe=>by subst e;rw[Hi _ (by simp)]at hx;cases hx),gZ _ _ (λe=>by subst e;rw[TF]at hx;cases hx)];exact hv
   intro a' jY
   show(if m.b=m.b then Q .normal a' W else Q (.exit m.b) a' W)
   rw[aH rfl]
   exact hc cj gD W _ HC (aur i3 λb hb=>(i5 b hb).1) DU a' (awf jY)
  ·
   obtain⟨⟨e',y⟩,hp,rfl⟩:∃p∈left seen,p.1=e:=by rw[adn seen]at he;obtain⟨p,h1,h2⟩:=dE.1 he;exact⟨p,h1,h2⟩
   dsimp only
   have hpm:(e',y)∈ps:=by rw[Hx]at hp;exact(List.mem_filter.1 hp).1
   have hem:e'∈es.toList:=by rw[<-z1];exact dE.2 ⟨_,hpm,rfl⟩
   obtain⟨us,A5,sF⟩:=z3 _ hpm
   have TU:=atu seen _ hp
   obtain⟨s1,s2,s3,s4⟩:=aoz (o':= .mapIter (aa rb) clock (seen.push e'.born) clock) hZq i7 wV
   rw[<-hW2]at s1 s2 s3 s4
   have ac4:W2.heap[rb]? =aa (.map es clock):=(s3 rb ac8).trans i6
   obtain⟨h2,pG,DK⟩:∃h2,bd h' y=aa h2∧∀zs,zs.Perm ((left (seen.push e'.born)).map oT)->nD (sT bd h2 zs) fin=aa r:=by
    have first:=i10 (y::(left (seen.push e'.born)).map oT) ((TU.map oT).symm)
    obtain⟨a1,ha,_⟩:=pM first
    obtain⟨h2,nc,_⟩:=pM ha;refine⟨h2,nc,λzs hz=>?_⟩;have:=i10 (y::zs) (((hz.cons y)).trans (TU.map oT).symm);have e1:sT bd h' (y::zs)=sT bd h2 zs:=by show nD (bd h' y) _=_;rw[nc];rfl
    rw[e1]at this;exact this
   have aDq:=pG
   rw[sP]at pG
   unfold KX at pG
   rw[i1]at pG
   dsimp only at pG
   split at pG
   case h_2=>cases pG
   rename_i ka hka
   refine WL.step (OW.Vh (v:= .bool ab) (iK _ _ _) rfl) (AS _ (by simp[jE])) ?_
   rintro v w' ⟨rfl,ua⟩
   rw[ua]
   clear ua w'
   refine WL.nil (g_ _ _ ?_)
   refine CW.seq λK2 iD=>CW.cond (b:=ab) (iK _ _ _) (λ_=>CW.skip (iD _ _ ?_)) (λh=>by cases h)
   refine CW.block ?_
   refine CW.seq λK5 lE=>CW.region ?_
   refine CW.aw9 adM ?_
   refine WL.step (OW.axz (iK _ _ _) s2 ac4 hem UK.2) (AS _ (by simp[jE])) ?_
   rintro v w' ⟨rfl,ua⟩
   rw[ua]
   clear ua w'
   refine WL.step (OW.Vh (v:=e'.key) (iK _ _ _) rfl) (AS _ (by simp[jE])) ?_
   rintro v w' ⟨rfl,ua⟩
   rw[ua]
   clear ua w'
   have at2:Kn cj (eK gD ZA 3) W2 L':=i2.wz (.inr rfl) (λb hb _=> .inl (i5 b hb).1) s1
   obtain⟨L6,hL6⟩:∃L6,L6=(m.en,ah.tuple #[e'.key,e'.val])::(m.it,fP q 0)::(m.ex,ah.bool ab)::(m.nx,ah.tuple #[.bool ab,e'.key,e'.val])::(m.it,fP q 0)::L':=⟨_,rfl⟩
   rw[<-hL6]
   have T_:Kn cj (eK gD ZA 3) W2 L6:=at2.C9 λt x v hx hv=>by rw[hL6,gZ _ _ (λe=>by subst e;rw[Hi _ (by simp)]at hx;cases hx),gZ _ _ (λe=>by subst e;rw[TF]at hx;cases hx),gZ _ _ (λe=>by subst e;rw[Hi _ (by simp)]at hx;cases hx),gZ _ _ (λe=>by subst e;rw[Hi _ (by simp)]at hx;cases hx),gZ _ _ (λe=>by subst e;rw[TF]at hx;cases hx)];exact hv
   have hkv:gI (λi=>i<cj.nx) (eK gD ZA 3) W2 ka e'.key:=by
    have r1:cn (In (eK gD ZA 3).o []) W2 (us++[e'.val]) (T.out n0 y):=by rw[<-hR.rd];exact ad.mono (λb hb _=>hb.elim) sF
    have a1:=r1.length;have r2:cn (In (eK gD ZA 3).o []) W2 us (T.out n0 y).dropLast:=by
     have:=r1.take us.length;rw[List.take_left]at this;have e3:(T.out n0 y).take us.length=(T.out n0 y).dropLast:=by rw[List.dropLast_eq_take];cR 1;simp at a1;omega
     rwa[e3]at this
    have r3:=V5 (U:=λi=>i<cj.nx) (γ:=eK gD ZA 3) (K:=[]) (λ_ hx=>by cases hx) r2;have hlen:=r2.length;unfold ab8 at hka;have:=aa' r3 hka;rw[A5];have e4:gr us=pack (match(T.out n0 y).dropLast with|[_]=>ai|_=>ab) us:=by
     split
     ·rename_i d1 yG;rw[yG]at hlen;match us,hlen with
      |[u],_=>rfl
     ·rename_i yG;have bR:us.length≠1:=λe1=>by
       rw[e1]at hlen;match auI:(T.out n0 y).dropLast,hlen with
       |[d1],_=>exact yG d1 auI
      rw[abz bR];rfl
    rw[e4];exact this
   have atZ:Kn {cj with sl:=(m.kt,ka)::cj.sl,lk:=oA gp j} (eK gD ZA 3) W2 ((m.kt,e'.key)::L6):=⟨T_.sr.cons hkv,T_.ob,T_.cJ⟩
   refine s_ hP hR cL pG (λt ht=>AS _ (by unfold jE;simp[ht])) atZ λbI _ γ4 W4 L4 m1 m2 m3 m4=>lE _ _ ?_
   refine sZ hP hR cL hm m.B2 an c1 (.inl rfl) (Lb.none c2) m4 (λt ht=>AS _ (by unfold jE;simp[ht])) m1 λo o7 jm W5 L5 n1 n2 n3 n4=>?_
   cases o with
   |exit id=>cases n4
   |goto l=>cases n4
   |ret=>cases n4
   |normal=>
   obtain⟨h3,AD,e3⟩:=sU n4
   cases e3
   have Un:=m2.trans n2
   have M1:∀b,ZA b->jm.o b=3∧b<W5.heap.size∧W5.heap[b]? =W2.heap[b]? :=λb hb=>by
    have h1:(eK gD ZA 3).o b=3:=gP hb;have h2:b<W2.heap.size:=by rw[s4];exact(i5 b hb).2
    obtain⟨h3,h4⟩:=Un.ro b h2 (.inr h1);exact⟨h3.trans h1,Nat.lt_of_lt_of_le h2 Un.size,h4⟩
   have HO:ci (jE m) {gp with lk:=oA gp j} o7:=by
    refine(i4.trans ?_).trans ((m3.mono λt ht=>by unfold jE;simp[ht]).trans (n3.mono λt ht=>by unfold jE;simp[ht]));refine⟨λt ht=>?_,rfl,λ_ _=>rfl,bx _⟩;show aF ((m.kt,ka)::cj.sl) t=aF cj.sl t;simp only[aF];have:aU m.kt t=ai:=by
     cases hbq:aU m.kt t with
     |true=>exact(ht (by rw[<-bB hbq];simp[jE])).elim
     |false=>rfl
    rw[this];rfl
   have hlen:=TU.length_eq
   rw[List.length_cons,i9]at hlen
   subst hlen
   cases hx
   refine yx _ L5 W5 rfl (head n1 HO AD ((i3.trans (.wz s1)).trans (.of Un)) (λb hb=>⟨(M1 b hb).1,(M1 b hb).2.1⟩) ((M1 rb ave).2.2.trans ac4) ((M1 q hZq).2.2.trans s2) (bx _) DK)
 intro a ha
 exact main a (awg ha atW)
def zH:List (bM×An)->bM->bM->bM
 |[],m,b=> .seq m b
 |a::as,m,b=> .seq a.1 (zH as m b)
def ZW:bM->bM
 | .seq a _=>a
 |c=>c
def J1:Nat->bM->bM
 |k+1,.seq _ b=>J1 k b
 |_,c=>c
def ZX(c:bM):Nat->List An->List (bM×An)
 |_,[]=>[]
 |k,x::r=>(ZW (J1 k c),x)::ZX c (k+1) r
def NW(T:bc D)(Φ:List (aA D))(m:lc)(j:J)(an:An)(b:bM)(mc:An){ρ:Type}(k:Out->S D->Option ρ):List (bM×An)->S D->Option ρ
 |[],σ=>R5 T Φ m j an σ λaN=>oJ mc.fz aN λbI=>fS T Φ b mc.un bI k
 |a::as,σ=>oJ a.2.fz σ λσ=>fS T Φ a.1 a.2.un σ λo aN=>match o with
  | .normal=>NW T Φ m j an b mc k as aN
  |o=>k o aN
def aaf(T:bc D)(Φ:List (aA D))(c:aA D)(rs:List ResultVar)(as:List (bM×An))(m:lc)(j:J)(an:An)(b:bM)(mc:An)(h:HH D c.ins):Option (HH D c.outs):=match yO T c h with
 |some σ=>NW T Φ m j an b mc (u6 T c rs) as σ
 |none=>ak
def ae4(hP:dS P T)(hR:cF T)(cL:∀c∈Φ,fM P T c)(hm:P.follows .mixedOrders=ab){m:lc}{j:J}{an mc:An}{b:bM}{ρ:Type}{k:Out->S D->Option ρ}{r:ρ}{Q:Exit->Act->ay->Prop}(hb:gE b=ab∧iW b=ab):
  ∀{as:List (bM×An)} {σ:S D} {γ:Gh D} {w:ay} {L:List (Nat×ah)},NW T Φ m j an b mc k as σ=aa r->(∀a∈as,gE a.1=ab∧iW a.1=ab)->(∀t∈writes (zH as m.code b),dz t n=ab)->Kn σ γ w L->
   (∀o aN aQ w1 L1,Kn aN aQ w1 L1->Rx.Frame γ w aQ w1->k o aN=aa r->NK n (Q (toX o)) L1 w1)->CW P n (zH as m.code b) Q L w
 |[],σ,γ,w,L,h,_,hd,hk,hc=>by
  unfold zH at hd⊢;refine CW.seq λK hK=>?_;refine apN hP hR cL hm h hk (λt ht=>hd t ?_) λaN aQ w1 L1 m1 m2 m3=>hK _ _ ?_
  ·simp only[writes,bA];refine .inl ?_;unfold jE at ht;simp only[cu,bA]at ht;simp only[lc.code,lc.body,lc.wN,yc,writes,dstsOf,bA,List.filterMap_cons,List.filterMap_nil,cu,jQ,kE]at ht⊢;rcases ht with h|h|h|h|h|h|h|h<;>simp[h]
  ·obtain⟨fe,ii,h⟩:=pJ m3;obtain⟨ff,z1,z2,z3⟩:=pI ii m1;exact sZ hP hR cL hm b _ hb.1 (.inl rfl) (Lb.none hb.2) h (λt ht=>by unfold Rd.eZ;rw[hd t (by simp only[writes,bA];exact .inr ht)];rfl) z1 λo bI bg w2 L2 n1 n2 n3 n4=>hc o bI bg w2 L2 n1 (m2.trans (z2.trans n2)) n4
 |a::as,σ,γ,w,L,h,ha,hd,hk,hc=>by
  unfold zH at hd⊢;unfold NW at h;obtain⟨fe,ii,h⟩:=pJ h;obtain⟨ff,z1,z2,z3⟩:=pI ii hk;refine CW.seq λK hK=>?_;refine sZ hP hR cL hm a.1 _ (ha a (by simp)).1 (.inl rfl) (Lb.none (ha a (by simp)).2) h (λt ht=>by unfold Rd.eZ;rw[hd t (by simp only[writes,bA];exact .inl ht)];rfl) z1 λo aN aQ w1 L1 m1 m2 m3 m4=>?_;have m2:=z2.trans m2;cases o with
  |normal=>exact hK _ _ (ae4 hP hR cL hm hb m4 (λx hx=>ha x (by simp[hx])) (λt ht=>hd t (by simp only[writes,bA];exact .inr ht)) m1 λo bI bg w2 L2 n1 n2 n3=>hc o bI bg w2 L2 n1 (m2.trans n2) n3)
  |exit id=>exact hc (.exit id) aN aQ w1 L1 m1 m2 m4
  |goto l=>exact hc (.goto l) aN aQ w1 L1 m1 m2 m4
  |ret=>exact hc .ret aN aQ w1 L1 m1 m2 m4
def awn(hP:dS P T)(hR:cF T)(cL:∀c∈Φ,fM P T c)(hm:P.follows .mixedOrders=ab){c:aA D}{fn:Func}{rs:List ResultVar}{sp:List (bM×An)}{m:lc}{j:J}{an mc:An}{b:bM}
  (jW:∀(args:Array ah) (w:ay),(callFunc c.f args).run P w= .ok (.enter c.f args) w)
  (hf:P.funcs[c.f]? =aa fn) (hb:fn.body=aa (zH sp m.code b)) (kU:fn.results=rs.toArray)
  (bV:(((writes (zH sp m.code b)).all (λt=>dz t fn.ntmps)&&eh c.args.length fn.ntmps&&sD c.jU c.b8&&mw (c.b8.map bT)&&c.b8.all (λp=>eh 1000 p.1)&&eh c.b8.length 40)&&((gE b&&iW b)&&sp.all λa=>gE a.1&&iW a.1))=ab)
  (rG:∀h,aaf T Φ c rs sp m j an b mc h=c.fn h):fM P T c:=by
 rw[bt]at bV
 obtain⟨bV,ME⟩:=bV
 refine aew hP hR jW hf hb kU bV λh r hr=>?_
 simp only[bt]at bV ME
 obtain⟨⟨⟨⟨⟨hw,_⟩,_⟩,_⟩,_⟩,_⟩:=bV
 simp only[dU,bt]at hw ME
 rw[<-rG]at hr
 unfold aaf at hr
 split at hr
 case h_2=>cases hr
 rename_i σ lC
 exact⟨σ,lC,λhk hc=>ae4 hP hR cL hm ME.1 hr (λa ha=>ME.2 a ha) hw hk hc⟩
