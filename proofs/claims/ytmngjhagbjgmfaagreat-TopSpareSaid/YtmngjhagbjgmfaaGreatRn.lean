import Derived.Maps.RangeRun
import Derived.Test.YtmngjhagbjgmfaaGreatRi
set_option linter.all false
open Bool renaming and_eq_true->bq,false->ai,true->ab
open Go renaming Code->bL,MapEntry->gI,Oper->aS,Operand->aZ,TypeId->aX,Value->ah,World->ax
open List renaming all_eq_true->dR,filter_eq_self->Fw,map_cons->gu,mem_append->bz,mem_cons->cr,mem_map->dC,not_mem_nil->jN
open Nat renaming beq->aT,ble->ef,blt->dx,eq_of_beq_eq_true->bA,le_refl->bw
open Option renaming some->aa
open Prod renaming fst->bS,snd->oQ
noncomputable section
namespace Go.Proofs.YtmngjhagbjgmfaaGreat
open Go Go.RowKit Dp
namespace Rx
section
open Classical in
def BM{α ρ:Type}(xs:List α)(f:List α->Option ρ):Option ρ:=match xs with
 |[]=>f []
 |[x]=>f [x]
 |x::y::l=>if ∀zs,zs.Perm (x::y::l)->f zs=f (x::y::l)then f (x::y::l)else none
def aCo{α ρ:Type}{xs:List α}{f:List α->Option ρ}{r:ρ}(h:BM xs f=aa r):∀zs,zs.Perm xs->f zs=aa r:=by
 intro zs hz;unfold BM at h;split at h
 ·rw[List.Perm.eq_nil hz];exact h
 ·rw[List.perm_singleton.1 hz];exact h
 ·split at h
  ·rename_i hh;rw[hh zs hz];exact h
  ·cases h
def aCn{α ρ:Type}{xs:List α}{f:List α->Option ρ}{r:ρ}(h:∀zs,zs.Perm xs->f zs=aa r):BM xs f=aa r:=by
 unfold BM;split
 ·exact h _ (.refl _)
 ·exact h _ (.refl _)
 ·rw[aG λzs hz=>(h zs hz).trans (h _ (.refl _)).symm];exact h _ (.refl _)
def sP{α σ:Type}(f:σ->α->Option σ):σ->List α->Option σ
 |s,[]=>aa s
 |s,y::ys=>nA (f s y) λs'=>sP f s' ys
def aa3{α:Type}{key:α->Nat}:∀{l:List α},(l.map key).Nodup->∀{p:α},p∈l->l.Perm (p::l.filter λq=> !(key q==key p))
 |[],_,p,hp=>by cases hp
 |a::l,hn,p,hp=>by
  rw[gu]at hn;have DI:=List.nodup_cons.1 hn;rcases cr.1 hp with rfl|hp
  ·have e1:(p::l).filter (λq=> !(key q==key p))=l:=by
    rw[List.filter_cons_of_neg (by simp)];refine Fw.2 λq hq=>?_;have:key q≠key p:=λe=>DI.1 (dC.2 ⟨q,hq,e⟩);simpa using this
   rw[e1]
  ·have bQ:key a≠key p:=λe=>DI.1 (dC.2 ⟨p,hp,e.symm⟩);rw[List.filter_cons_of_pos (by simpa using bQ)];exact((aa3 DI.2 hp).cons a).trans (.swap _ _ _)
def cd:Nat->Option (Nat⊕Unit)
 |0=>aa (.inr ())
 |k+1=>aa (.inl k)
def afb:∀k,nB cd (k+1) k=aa ()
 |0=>by rw[Ma];rfl
 |k+1=>by rw[Ma];exact afb k
def jL.zip{α:Type}{R:gI->α->Prop}:∀{es:List gI} {xs:List α},jL R es xs->(es.zip xs).map bS=es∧(es.zip xs).map oQ=xs∧∀p∈es.zip xs,R p.1 p.2
 |[],[],_=>⟨rfl,rfl,λ_ h=>by cases h⟩
 |e::es,x::xs,h=>by
  obtain⟨h1,h2,h3⟩:=jL.zip h.2;refine⟨by rw[List.zip_cons_cons,gu,h1],by rw[List.zip_cons_cons,gu,h2],λp hp=>?_⟩;rw[List.zip_cons_cons]at hp;rcases cr.1 hp with rfl|hp
  ·exact h.1
  ·exact h3 p hp
 |[],_::_,h=>h.elim
 |_::_,[],h=>h.elim
end
structure kY where
 r0:Nat
 b:Nat
 r1:Nat
 b5:Nat
 r2:Nat
 LL:List aS
 B2:bL
 t:aX
 ms:Nat
 mv:Nat
 it:Nat
 nx:Nat
 ex:Nat
 en:Nat
 kt:Nat
 y:List aX
 p:List String
 a:List (Array Edge)
def xZ(m:kY)(k d:Nat)(op:Op):aS:=⟨aa d,op,m.y.getD k 0,m.p.getD k "",m.a.getD k #[],none⟩
def kY.wJ(m:kY):List aS:=xZ m 4 m.en (.entry (.tmp m.it))::xZ m 5 m.kt (.extract (.tmp m.en) 0)::m.LL
def kY.body(m:kY):bL:= .seq (.region m.r1 [xZ m 2 m.nx (.next (.tmp m.it) ai),xZ m 3 m.ex (.extract (.tmp m.nx) 0)].toArray ai) (.seq (.cond (.tmp m.ex) .skip (.exit m.b)) (.block m.b5 (.seq (.region m.r2 m.wJ.toArray ai) m.B2)))
def kY.code(m:kY):bL:= .seq (.region m.r0 [xZ m 0 m.mv (.move (.tmp m.ms)),xZ m 1 m.it (.range m.t (.tmp m.mv))].toArray ai) (.block m.b (.loop m.body))
def abe(l:List aS)(k:Nat):Option Op:=match l[k]? with
 |some o=>aa o.op
 |none=>none
def rgT:Option Op->aX
 |some (.range t _)=>t
 |_=>0
def mvX:Option Op->Nat
 |some (.move (.tmp x))=>x
 |_=>0
def aqP:bL->kY
 | .seq (.region r0 o0 _) (.block b (.loop (.seq (.region r1 o1 _) (.seq _ (.block b5 (.seq (.region r2 o2 _) B2))))))=>
   let l:=o0.toList++(o1.toList++o2.toList.take 2)
   {r0,b,r1,b5,r2,LL:=o2.toList.drop 2,B2,
    t:=rgT (abe o0.toList 1),ms:=mvX (abe o0.toList 0),
    mv:=kU l 0,it:=kU l 1,nx:=kU l 2,ex:=kU l 3,en:=kU l 4,kt:=kU l 5,
    y:=l.map λo=>o.type,p:=l.map λo=>o.pos,a:=l.map λo=>o.after}
 |_=>⟨0,0,0,0,0,[],.skip,0,0,0,0,0,0,0,0,[],[],[]⟩
def jB(m:kY):List Nat:=m.nx::m.ex::m.en::m.kt::(dstsOf m.LL++writes m.B2)
section
variable {D:Nat->Type} [∀n,ad (D n)]
variable {P:Program} {T:bb D} {Φ:List (az D)} {n:Nat}
def ab4(T:bb D){n:Nat}(y:D n):Option (AV D):=u7 (match(T.out n y).dropLast with|[_]=>ai|_=>ab) (N4 [] (T.out n y).dropLast)
def KT(T:bb D)(Φ:List (az D))(m:kY)(j:J)(an:An){n:Nat}(σ:S D)(h:HH D j.cL)(y:D n):Option (HH D j.cL):=match lu T j (jB m) j.mv σ h with
 |some ci=>match ab4 T y with
  |some a=>ja T Φ m.wJ m.LL 2 {ci with sl:=(m.kt,a)::ci.sl,lk:=ov σ j} [] λbH _=>fQ T Φ m.B2 an bH λo oX=>match o with
   | .normal=>qE T j oX λh'=>aa h'
   |_=>none
  |none=>none
 |none=>none
def abo(m:kY)(j:J):Bool:=gz m.B2&&iT m.B2&& !(bM (jB m) m.it)&&j.sl.all (λp=> !(bM [m.nx,m.ex,m.en,m.kt] p.1))&& !(aT m.nx m.ex)&& !(aT m.en m.kt)&& !(aT m.mv m.it)
def RZ(T:bb D)(Φ:List (az D))(m:kY)(j:J)(an:An){ρ:Type}(σ:S D)(k:S D->Option ρ):Option ρ:=match aE σ.sl m.ms with
 |some (.c (.one (.own i)))=>match dt σ.ob i with
  |some (.mp n xs)=>match aE T.qc m.t,aE σ.sl m.it,aE σ.sl m.mv with
   |some kt,none,none=>match aT kt.2.2 n&&abo m j with
    |true=>qE T j {rJ [i] σ with lk:=ov (rJ [i] σ) j} λh0=>BM xs λzs=>nA (sP (KT T Φ m j an (rJ [i] σ)) h0 zs) λh'=>match lu T j (jB m) j.mv (rJ [i] σ) h' with
     |some kE=>k kE
     |none=>none
    |false=>none
   |_,_,_=>none
  |_=>none
 |_=>none
section
variable {Q:Exit->Act->ax->Prop} {L:List (Nat×ah)} {w:ax} {ty:aX} {pos:String} {af:Array Edge} {g:Option (Nat×Bool)} {d:Option Tmp}
def OW.rangeMap [Rd]{t k e:aX}{x:aZ}{b:Nat}{es:Array gI}{clock:Nat}(ht:P.underlying t=aa (.map k e))(hx:ev L x=aa (.map (aa b)))(hb:w.heap[b]? =aa (.map es clock)):
  OW P Q L ⟨d,.range t x,ty,pos,af,g⟩ w (λv w'=>v=fN w.heap.size 0∧w'=w.alloc (.mapIter (aa b) clock #[] clock)):=
 OW.run λa ha=>⟨_,_,by simp[execOp,ha _ _ hx,run_range_map w t k e b es clock ht hb];rfl,rfl,rfl⟩
def OW.aqJ [Rd]{x:aZ}{r bm since c0:Nat}{seen:Array Nat}{es:Array gI}{clock:Nat}(hx:ev L x=aa (fN r 0))(hr:w.heap[r]? =aa (.mapIter (aa bm) since seen c0))(hb:w.heap[bm]? =aa (.map es clock))
  (hold:∀y∈es.toList,y.born<since) (hsc:since<=c0):
  OW P Q L ⟨d,.next x ai,ty,pos,af,g⟩ w (λv w'=>(v= .tuple #[.bool ai]∧w'=w∧(leftOf es seen).size=0)∨∃e∈(leftOf es seen).toList,v= .tuple #[.bool ab,e.key,e.val]∧∃w1:ax,(w1=w∨w1=w.drew)∧w'=ChangeMaps.setBlock w1 r (.mapIter (aa bm) since (seen.push e.born) clock)):=by
 refine OW.run λa ha=>?_
 have e0:a.eval x= .pointer (aa ⟨r,0,none⟩):=ha _ _ hx
 rcases run_next_at (P:=P) w ty r bm since c0 seen es clock hr hb hold hsc with⟨h0,fw⟩|⟨e,he,w1,hal,fw⟩
 ·exact⟨_,w,by simp[execOp,e0,fw],.inl ⟨rfl,rfl,h0⟩⟩
 ·exact⟨_,_,by simp[execOp,e0,fw],.inr ⟨e,he,rfl,w1,hal,rfl⟩⟩
def OW.axv [Rd]{x:aZ}{r bm since:Nat}{seen:Array Nat}{es:Array gI}{clock:Nat}{e:gI}(hx:ev L x=aa (fN r 0))(hr:w.heap[r]? =aa (.mapIter (aa bm) since (seen.push e.born) clock))(hb:w.heap[bm]? =aa (.map es clock))
  (he:e∈es.toList) (hn:(es.toList.map (·.born)).Nodup):OW P Q L ⟨d,.entry x,ty,pos,af,g⟩ w (λv w'=>v= .tuple #[e.key,e.val]∧w'=w):=
 OW.run λa ha=>⟨_,w,by have e0:a.eval x= .pointer (aa ⟨r,0,none⟩):=ha _ _ hx;simp[execOp,e0,run_entry_at (P:=P) w r bm since seen es clock e hr hb he hn],rfl,rfl⟩
def OW.Vd [Rd]{x:aZ}{vs:Array ah}{i:Nat}{v:ah}(hx:ev L x=aa (.tuple vs))(hi:vs[i]? =aa v):OW P Q L ⟨d,.extract x i,ty,pos,af,g⟩ w (λv' w'=>v'=v∧w'=w):=OW.run λa ha=>⟨_,w,by simp[execOp,ha _ _ hx,Instr.extract,hi],rfl,rfl⟩
def CW.aw5 [I:Rd]{ops:Array aS}{l:List aS}{t:Nat}{v:ah}(hf:I.fix t=aa v)(h:WL P n ops Q l ((t,v)::L) w):WL P n ops Q l L w:=λa ha=>h a ⟨ha.size,ha.defers,λt' v' h'=>by
 by_cases e:t=t'
 ·subst e;rw[iH]at h';cases h';exact ha.fix _ _ hf
 ·rw[gW _ _ e]at h';exact ha.get _ _ h',ha.fix⟩
def CW.aw6 [I:Rd]{c:bL}{t:Nat}{v:ah}(hf:I.fix t=aa v)(h:CW P n c Q ((t,v)::L) w):CW P n c Q L w:=λa ha=>h a ⟨ha.size,ha.defers,λt' v' h'=>by
 by_cases e:t=t'
 ·subst e;rw[iH]at h';cases h';exact ha.fix _ _ hf
 ·rw[gW _ _ e]at h';exact ha.get _ _ h',ha.fix⟩
end
@[reducible] def Rd.vP (t:Nat) (v:ah):Rd:=⟨none,[],λt'=>if t'=t then aa v else none⟩
def awb{t:Nat}{v:ah}{L:List (Nat×ah)}{a:Act}(h: @Fr (Rd.vP t v) n L a): @Fr Rd.plain n L a:= @Fr.mk Rd.plain _ _ _ (@Fr.size (Rd.vP t v) _ _ _ h) (@Fr.defers (Rd.vP t v) _ _ _ h) (@Fr.get (Rd.vP t v) _ _ _ h) (λ_ _ h=>by cases h)
def awc{t:Nat}{v:ah}{L:List (Nat×ah)}{a:Act}(h: @Fr Rd.plain n L a)(hl:Dp.look L t=aa v): @Fr (Rd.vP t v) n L a:= @Fr.mk (Rd.vP t v) _ _ _ (@Fr.size Rd.plain _ _ _ h) (@Fr.defers Rd.plain _ _ _ h) (@Fr.get Rd.plain _ _ _ h) (λt' v' hv=>by
 by_cases e:t'=t
 ·subst e;have:aa v=aa v':=by rw[<-hv];exact(aG rfl).symm
  cases this;exact @Fr.get Rd.plain _ _ _ h _ _ hl
 ·have:(Rd.vP t v).fix t'=none:=aK e;rw[this]at hv;cases hv)
def aov{Z:Nat->Prop}{w w1:ax}{r:Nat}{o o':Obj}(hz:Z r)(hr:w.heap[r]? =aa o)(h1:w1=w∨w1=w.drew):WZ Z w (ChangeMaps.setBlock w1 r o')∧(ChangeMaps.setBlock w1 r o').heap[r]? =aa o'∧(∀b,b≠r->(ChangeMaps.setBlock w1 r o').heap[b]? =w.heap[b]?)∧(ChangeMaps.setBlock w1 r o').heap.size=w.heap.size:=by
 have DC:w1.heap[r]? =aa o:=by rcases h1 with rfl|rfl<;>exact hr
 have hs:(ChangeMaps.setBlock w1 r o').heap.size=w.heap.size:=by rcases h1 with rfl|rfl<;>simp[ChangeMaps.setBlock]
 obtain⟨k1,k2⟩:=MapKept.heap_set (o':=o') DC;have ho:∀b,b≠r->(ChangeMaps.setBlock w1 r o').heap[b]? =w.heap[b]? :=λb hb=>(k2 b hb).trans (by rcases h1 with rfl|rfl<;>rfl);refine⟨⟨by rcases h1 with rfl|rfl<;>rfl,by rcases h1 with rfl|rfl<;>rfl,by rcases h1 with rfl|rfl<;>rfl,by omega,λb hb _=>ho b λe=>hb (e▸hz),λb hb=> .inl (by omega)⟩,k1,ho,hs⟩
def apJ(hP:dQ P T)(hR:cE T)(cK:∀c∈Φ,fK P T c)(hm:P.follows .mixedOrders=ab){m:kY}{j:J}{an:An}{ρ:Type}{σ:S D}{k:S D->Option ρ}{r:ρ}{γ:Gh D}{w:ax}{L:List (Nat×ah)}{Q:Exit->Act->ax->Prop}
  (h:RZ T Φ m j an σ k=aa r) (hk:Kn σ γ w L) (hd:∀t∈m.mv::m.it::jB m,dx t n=ab)
  (hc:∀aM aP w1 L1,Kn aM aP w1 L1->Rx.Frame γ w aP w1->k aM=aa r->NK n (Q .normal) L1 w1):CW P n m.code Q L w:=by
 unfold RZ at h
 split at h
 case h_2=>cases h
 rename_i i hms
 split at h
 case h_2=>cases h
 rename_i nn xs ho
 split at h
 case h_2=>cases h
 rename_i kt hmt hit DJ
 split at h
 case h_2=>cases h
 rename_i sJ
 rw[bq]at sJ
 have hn:=bA sJ.1
 have jp:=sJ.2
 unfold abo at jp
 simp only[bq,Bool.not_eq_true']at jp
 obtain⟨⟨⟨⟨⟨⟨c1,c2⟩,c3⟩,c4⟩,c5⟩,c6⟩,c7⟩:=jp
 obtain⟨ktT,vtT,n0⟩:=kt
 have hn:n0=nn:=hn
 subst hn
 have hM:=hP.qc _ _ _ _ hmt
 obtain⟨fy,_,Hp⟩:=hk.ob.ob i _ ho
 obtain⟨rb,es,clock,hg,hoi,hb,hpw,gD,UG⟩:=Hp
 obtain⟨v0,hL0,Hc⟩:=hk.sr _ _ hms
 have Hc:v0= .map (aa rb):=Hc.2.1.trans hg
 subst Hc
 have hrb:rb<w.heap.size:=(Array.getElem?_eq_some_iff.1 hb).1
 obtain⟨h0,pu,hF⟩:=sQ h
 have hF:=aCo hF
 have aC9:m.mv≠m.it:=λe=>by rw[e]at c7;simp at c7
 have adq:m.it∉jB m:=λmB=>by rw[et.2 mB]at c3;cases c3
 have Hj:∀t∈m.mv::m.it::jB m,Rd.eX Rd.plain n t=ab:=λt ht=>by unfold Rd.eX;rw[hd t ht];rfl
 unfold kY.code
 refine CW.seq λK0 HY=>CW.region ?_
 refine WL.v (v:= .map (aa rb)) (by simp[xZ,Dp.pv,Dp.ev,hL0]) (Hj _ (by simp)) ?_
 refine WL.step (OW.rangeMap hM.uS (by simp[Dp.ev,iH]) hb) (Hj _ (by simp)) ?_
 rintro v W1 ⟨rfl,pE⟩
 refine WL.nil (HY _ _ ?_)
 obtain⟨q,hq⟩:∃q,q=w.heap.size:=⟨_,rfl⟩
 rw[<-hq]
 have ave:W1.heap.size=q+1:=by rw[pE,hq];simp
 have avf:W1.heap[q]? =aa (.mapIter (aa rb) clock #[] clock):=by rw[pE,hq];exact ax.alloc_heap_new w _
 have ad2:∀b,b<w.heap.size->W1.heap[b]? =w.heap[b]? :=λb hb=>by rw[pE];exact Below.heap_alloc _ _ _ hb
 obtain⟨L1,HX⟩:∃L1,L1=(m.it,fN q 0)::(m.mv,ah.map (aa rb))::L:=⟨_,rfl⟩
 rw[<-HX]
 obtain⟨Zi,HR⟩:∃Zi:Nat->Prop,Zi=λb=>b=q:=⟨_,rfl⟩
 have HT:WZ Zi w W1:=⟨by rw[pE];rfl,by rw[pE];rfl,by rw[pE];rfl,by omega,λb _ aU=>ad2 b aU,λb hb=>by rw[HR];show _∨b=q;omega⟩
 obtain⟨aP,G7⟩:∃aP,aP=eI γ Zi 3:=⟨_,rfl⟩
 have eG:Kn σ aP W1 L:=by rw[G7];exact hk.wz (.inr rfl) (λb hb aU=>by rw[HR]at hb;have hb:b=q:=hb;omega) HT
 obtain⟨Bx,xe⟩:∃Bx:Nat->Prop,Bx=λb=>b<W1.heap.size∧aP.o b∈[i]:=⟨_,rfl⟩
 obtain⟨gl,Av⟩:∃gl,gl=rJ [i] σ:=⟨_,rfl⟩
 rw[<-Av]at pu hF
 have atY:Kn gl (eI aP Bx 2) W1 L:=by rw[Av,xe];exact eG.rJ (by simp[fy])
 have vE:gl.lk=σ.lk:=by rw[Av];rfl
 have adN:∀t,aE gl.sl t=aE σ.sl t:=λt=>by rw[Av];rfl
 have vw:Kn gl (eI aP Bx 2) W1 L1:=atY.C5 λt x v hx hv=>by rw[adN]at hx;rw[HX,gW _ _ (λe=>by rw[<-e,hit]at hx;cases hx),gW _ _ (λe=>by rw[<-e,DJ]at hx;cases hx)];exact hv
 obtain⟨ZA,kn⟩:∃ZA:Nat->Prop,ZA=λb=>Zi b∨Bx b:=⟨_,rfl⟩
 have ac4:rb≠q:=by omega
 have asx:aP.o rb=i:=by rw[G7,mo (by rw[HR];exact ac4)];exact hoi
 have ava:ZA rb:=by rw[kn];right;rw[xe];exact⟨by omega,by simp[asx]⟩
 have hZq:ZA q:=by rw[kn,HR];exact .inl rfl
 have adY:∀b,ZA b->(w.heap.size<=b∨(γ.o b≠0∧γ.o b≠3))∧b<W1.heap.size:=λb hb=>by
  rw[kn]at hb;by_cases hz:Zi b
  ·rw[HR]at hz;have hz:b=q:=hz;exact⟨.inl (by omega),by omega⟩
  ·rcases hb with hb|hb
   ·exact(hz hb).elim
   ·rw[xe]at hb;obtain⟨h1,h2⟩:=hb;rw[G7,mo hz]at h2;simp only[List.mem_singleton]at h2;exact⟨.inr (by omega),h1⟩
 have Ul:fW ZA γ w (eI aP Bx 2) W1:=by
  have f1:fW Zi γ w aP W1:=by rw[G7];exact .wz HT
  have f2:fW Bx aP W1 (eI aP Bx 2) W1:= .wz (.refl Bx W1);exact(f1.mono λb hb=>by rw[kn];exact .inl hb).trans (f2.mono λb hb=>by rw[kn];exact .inr hb)
 have aun:∀{PR:Gh D} {we:ax},fW ZA γ w PR we->(∀b,ZA b->PR.o b=2)->Rx.Frame γ w PR we:=λhf h2=>hf.frame (λb hb=>(adY b hb).1) h2
 obtain⟨ps,pz⟩:∃ps,ps=es.toList.zip xs:=⟨_,rfl⟩
 obtain⟨z1,z2,z3⟩:=jL.zip gD
 rw[<-pz]at z1 z2 z3
 obtain⟨left,Hs⟩:∃left:Array Nat->List (gI×D n0),left=λseen=>ps.filter λp=> !seen.contains p.1.born:=⟨_,rfl⟩
 have auW:(ps.map λp=>p.1.born).Nodup:=by have:=UG.2;rw[<-z1,List.map_map]at this;exact this
 have adj:∀seen,(leftOf es seen).toList=(left seen).map bS:=λseen=>by rw[Hs];unfold leftOf;rw[Array.toList_filter,<-z1,List.filter_map];rfl
 have atp:∀(seen:Array Nat) (p:gI×D n0),p∈left seen->(left seen).Perm (p::left (seen.push p.1.born)):=λseen p hp=>by
  have hnd:((left seen).map λp=>p.1.born).Nodup:=by rw[Hs];exact auW.sublist (List.filter_sublist.map _)
  have e1:left (seen.push p.1.born)=(left seen).filter λq=> !(q.1.born==p.1.born):=by rw[Hs];simp only[List.filter_filter];refine List.filter_congr λq _=>?_;rw[contains_push];cases seen.contains q.1.born<;>cases(q.1.born==p.1.born)<;>rfl
  rw[e1];exact aa3 hnd hp
 have hold:∀y∈es.toList,y.born<clock:=UG.1
 obtain⟨fin,jE⟩:∃fin:HH D j.cL->Option ρ,fin=λh'=>match lu T j (jB m) j.mv gl h' with
  |some kE=>k kE
  |none=>none:=⟨_,rfl⟩
 obtain⟨bd,sL⟩:∃bd:HH D j.cL->D n0->Option (HH D j.cL),bd=KT T Φ m j an gl:=⟨_,rfl⟩
 rw[<-sL,<-jE]at hF
 have Uc:∀{h':HH D j.cL} {zs:List (D n0)},nA (sP bd h' zs) fin=aa r->∃ci,lu T j (jB m) j.mv gl h'=aa ci:=by
  intro h' zs hz;cases zs with
  |nil=>
   have hz:fin h'=aa r:=hz;rw[jE]at hz;dsimp only at hz;split at hz
   ·rename_i kE he;exact⟨kE,he⟩
   ·cases hz
  |cons y ys=>
   obtain⟨a1,ha,_⟩:=pJ hz;obtain⟨a2,m9,_⟩:=pJ ha;rw[sL]at m9;unfold KT at m9;split at m9
   ·rename_i ci he;exact⟨ci,he⟩
   ·cases m9
 let I:Rd:=Rd.vP m.it (fN q 0)
 have adI:I.fix m.it=aa (fN q 0):=aG rfl
 have AN:∀t∈jB m,I.eX n t=ab:=λt ht=>by unfold Rd.eX;rw[hd t (by simp[ht])];have:I.fix t=none:=aK λe:t=m.it=>adq (e▸ht);rw[this];rfl
 have atS:Dp.look L1 m.it=aa (fN q 0):=by rw[HX];exact iH _ _ _
 have main: @CW P n I (.block m.b (.loop m.body)) Q L1 W1:=by
  refine CW.block ?_;obtain⟨inv,hinv⟩:∃inv:Nat->List (Nat×ah)->ax->Prop,inv=λkk L W=>∃(seen:Array Nat) (c0:Nat) (h':HH D j.cL) (ci:S D) (gy:Gh D),lu T j (jB m) j.mv gl h'=aa ci∧Kn ci gy W L∧fW ZA γ w gy W∧cg (jB m) {gl with lk:=ov gl j} {ci with lk:=ov gl j}∧
   (∀b,ZA b->gy.o b=2∧b<W.heap.size)∧W.heap[rb]? =aa (.map es clock)∧W.heap[q]? =aa (.mapIter (aa rb) clock seen c0)∧clock<=c0∧(left seen).length=kk∧∀zs,zs.Perm ((left seen).map oQ)->nA (sP bd h' zs) fin=aa r:=⟨_,rfl⟩
  have head:∀{h':HH D j.cL} {q7:S D} {jj:Gh D} {W:ax} {L5:List (Nat×ah)} {seen:Array Nat} {c0:Nat},Kn q7 jj W L5->cg (jB m) {gl with lk:=ov gl j} q7->zh T j q7 h'->fW ZA γ w jj W->(∀b,ZA b->jj.o b=3∧b<W.heap.size)->W.heap[rb]? =aa (.map es clock)->W.heap[q]? =aa (.mapIter (aa rb) clock seen c0)->clock<=c0->
    (∀zs,zs.Perm ((left seen).map oQ)->nA (sP bd h' zs) fin=aa r)->inv (left seen).length L5 W:=by
   intro h' q7 jj W L5 seen c0 k1 k2 k3 k4 k5 k6 k7 k8 k9
   obtain⟨ci,mU⟩:=Uc (k9 _ (.refl _))
   obtain⟨bf,q1,q2,q3,_⟩:=Ap hR rfl vw k1 k2 k3 mU
   have rF:∀b,ZA b->bf.o b=3:=λb hb=>by rw[(q2.ro b (k5 b hb).2 (.inr (k5 b hb).1)).1];exact(k5 b hb).1
   rw[hinv]
   exact⟨seen,c0,h',ci,eI bf ZA 2,mU,q1.wz (.inl rfl) (λb hb _=> .inr (rF b hb)) (.refl _ W),(k4.trans (.of q2)).trans (.wz (.refl _ W)),q3,λb hb=>⟨gL hb,(k5 b hb).2⟩,k6,k7,k8,rfl,k9⟩
  have yx:left #[]=ps:=by rw[Hs];exact Fw.2 λ_ _=>by simp
  refine CW.loop cd inv (SH (afb (left #[]).length)) ?_ ?_
  ·refine head (jj:=eI (eI aP Bx 2) ZA 3) ((vw.lk _).wz (.inr rfl) (λb hb _=>?_) (.refl _ W1)) (cg.refl _ _) pu (Ul.trans (.wz (.refl _ W1))) (λb hb=>⟨gL hb,(adY b hb).2⟩) ((ad2 rb hrb).trans hb) avf (bw _) (λzs hz=>hF zs (by rw[yx,z2]at hz;exact hz));by_cases vG:Bx b
   ·exact .inl (gL vG)
   ·rw[mo vG];right;rw[kn]at hb;rcases hb with hb|hb
    ·rw[G7];exact gL hb
    ·exact(vG hb).elim
  rintro K kk L' W hi x hx DC yt;rw[hinv]at hi;obtain⟨seen,c0,h',ci,gy,i1,i2,i3,i4,i5,i6,i7,i8,i9,i10⟩:=hi;have He:∀t∈[m.nx,m.ex,m.en,m.kt],aE ci.sl t=none:=λt ht=>by
   cases hl:aE ci.sl t with
   |none=>rfl
   |some a=>
    rcases Td i1 hl with⟨h1,_⟩|h1
    ·obtain⟨p,hp,rfl⟩:=dC.1 h1;have:=dR.1 c4 p hp;rw[et.2 ht]at this;cases this
    ·exact(h1 (by simp only[cr,jN,kB]at ht;unfold jB;rcases ht with rfl|rfl|rfl|rfl<;>simp)).elim
  have TB:aE ci.sl m.it=none:=by have e1:aE ci.sl m.it=aE gl.sl m.it:=i4.sl _ adq;rw[e1,adN,hit]
  refine CW.aw6 adI ?_;unfold kY.body;refine CW.seq λK1 gY=>CW.region ?_;refine WL.step (OW.aqJ (iH _ _ _) i7 i6 hold i8) (AN _ (by simp[jB])) ?_;rintro v W2 (⟨rfl,hWe,hz⟩|⟨e,he,rfl,w1,wR,hW2⟩)
  ·
   rw[hWe]
   refine WL.step (OW.Vd (v:= .bool ai) (iH _ _ _) rfl) (AN _ (by simp[jB])) ?_
   rintro v w' ⟨rfl,tX⟩
   rw[tX]
   clear tX w'
   refine WL.nil (gY _ _ ?_)
   refine CW.seq λK2 ix=>CW.cond (b:=ai) (iH _ _ _) (λh=>by cases h) λ_=>CW.exit ?_
   have yx:left seen=[]:=by have e1:=ik List.length (adj seen);rw[Array.length_toList,hz,List.length_map]at e1;exact List.eq_nil_of_length_eq_zero e1.symm
   have DQ:=i10 [] (by rw[yx];exact .refl _)
   have DQ:fin h'=aa r:=DQ
   rw[jE]at DQ
   dsimp only at DQ
   rw[i1]at DQ
   have Hy:Kn ci gy W ((m.ex,.bool ai)::(m.nx,.tuple #[.bool ai])::(m.it,fN q 0)::L'):=i2.C5 λt x v hx hv=>by rw[gW _ _ (λe=>by subst e;rw[He _ (by simp)]at hx;cases hx),gW _ _ (λe=>by subst e;rw[He _ (by simp)]at hx;cases hx),gW _ _ (λe=>by subst e;rw[TB]at hx;cases hx)];exact hv
   intro a' jV
   show(if m.b=m.b then Q .normal a' W else Q (.exit m.b) a' W)
   rw[aG rfl]
   exact hc ci gy W _ Hy (aun i3 λb hb=>(i5 b hb).1) DQ a' (awb jV)
  ·
   obtain⟨⟨e',y⟩,hp,rfl⟩:∃p∈left seen,p.1=e:=by rw[adj seen]at he;obtain⟨p,h1,h2⟩:=dC.1 he;exact⟨p,h1,h2⟩
   dsimp only
   have hpm:(e',y)∈ps:=by rw[Hs]at hp;exact(List.mem_filter.1 hp).1
   have hem:e'∈es.toList:=by rw[<-z1];exact dC.2 ⟨_,hpm,rfl⟩
   obtain⟨us,AZ,sy⟩:=z3 _ hpm
   have TQ:=atp seen _ hp
   obtain⟨s1,s2,s3,s4⟩:=aov (o':= .mapIter (aa rb) clock (seen.push e'.born) clock) hZq i7 wR
   rw[<-hW2]at s1 s2 s3 s4
   have ac0:W2.heap[rb]? =aa (.map es clock):=(s3 rb ac4).trans i6
   obtain⟨h2,pD,DG⟩:∃h2,bd h' y=aa h2∧∀zs,zs.Perm ((left (seen.push e'.born)).map oQ)->nA (sP bd h2 zs) fin=aa r:=by
    have first:=i10 (y::(left (seen.push e'.born)).map oQ) ((TQ.map oQ).symm)
    obtain⟨a1,ha,_⟩:=pJ first
    obtain⟨h2,m9,_⟩:=pJ ha;refine⟨h2,m9,λzs hz=>?_⟩;have:=i10 (y::zs) (((hz.cons y)).trans (TQ.map oQ).symm);have e1:sP bd h' (y::zs)=sP bd h2 zs:=by show nA (bd h' y) _=_;rw[m9];rfl
    rw[e1]at this;exact this
   have aDm:=pD
   rw[sL]at pD
   unfold KT at pD
   rw[i1]at pD
   dsimp only at pD
   split at pD
   case h_2=>cases pD
   rename_i ka hka
   refine WL.step (OW.Vd (v:= .bool ab) (iH _ _ _) rfl) (AN _ (by simp[jB])) ?_
   rintro v w' ⟨rfl,tX⟩
   rw[tX]
   clear tX w'
   refine WL.nil (gY _ _ ?_)
   refine CW.seq λK2 ix=>CW.cond (b:=ab) (iH _ _ _) (λ_=>CW.skip (ix _ _ ?_)) (λh=>by cases h)
   refine CW.block ?_
   refine CW.seq λK5 lB=>CW.region ?_
   refine CW.aw5 adI ?_
   refine WL.step (OW.axv (iH _ _ _) s2 ac0 hem UG.2) (AN _ (by simp[jB])) ?_
   rintro v w' ⟨rfl,tX⟩
   rw[tX]
   clear tX w'
   refine WL.step (OW.Vd (v:=e'.key) (iH _ _ _) rfl) (AN _ (by simp[jB])) ?_
   rintro v w' ⟨rfl,tX⟩
   rw[tX]
   clear tX w'
   have atW:Kn ci (eI gy ZA 3) W2 L':=i2.wz (.inr rfl) (λb hb _=> .inl (i5 b hb).1) s1
   obtain⟨L6,hL6⟩:∃L6,L6=(m.en,ah.tuple #[e'.key,e'.val])::(m.it,fN q 0)::(m.ex,ah.bool ab)::(m.nx,ah.tuple #[.bool ab,e'.key,e'.val])::(m.it,fN q 0)::L':=⟨_,rfl⟩
   rw[<-hL6]
   have T6:Kn ci (eI gy ZA 3) W2 L6:=atW.C5 λt x v hx hv=>by rw[hL6,gW _ _ (λe=>by subst e;rw[He _ (by simp)]at hx;cases hx),gW _ _ (λe=>by subst e;rw[TB]at hx;cases hx),gW _ _ (λe=>by subst e;rw[He _ (by simp)]at hx;cases hx),gW _ _ (λe=>by subst e;rw[He _ (by simp)]at hx;cases hx),gW _ _ (λe=>by subst e;rw[TB]at hx;cases hx)];exact hv
   have hkv:gF (λi=>i<ci.nx) (eI gy ZA 3) W2 ka e'.key:=by
    have r1:cm (In (eI gy ZA 3).o []) W2 (us++[e'.val]) (T.out n0 y):=by rw[<-hR.rd];exact ad.mono (λb hb _=>hb.elim) sy
    have a1:=r1.length;have r2:cm (In (eI gy ZA 3).o []) W2 us (T.out n0 y).dropLast:=by
     have:=r1.take us.length;rw[List.take_left]at this;have e3:(T.out n0 y).take us.length=(T.out n0 y).dropLast:=by rw[List.dropLast_eq_take];congr 1;simp at a1;omega
     rwa[e3]at this
    have r3:=V1 (U:=λi=>i<ci.nx) (γ:=eI gy ZA 3) (K:=[]) (λ_ hx=>by cases hx) r2;have hlen:=r2.length;unfold ab4 at hka;have:=aa7 r3 hka;rw[AZ];have e4:gm us=pack (match(T.out n0 y).dropLast with|[_]=>ai|_=>ab) us:=by
     split
     ·rename_i d1 yC;rw[yC]at hlen;match us,hlen with
      |[u],_=>rfl
     ·rename_i yC;have bQ:us.length≠1:=λe1=>by
       rw[e1]at hlen;match auE:(T.out n0 y).dropLast,hlen with
       |[d1],_=>exact yC d1 auE
      rw[abv bQ];rfl
    rw[e4];exact this
   have atV:Kn {ci with sl:=(m.kt,ka)::ci.sl,lk:=ov gl j} (eI gy ZA 3) W2 ((m.kt,e'.key)::L6):=⟨T6.sr.cons hkv,T6.ob,T6.cI⟩
   refine sW hP hR cK pD (λt ht=>AN _ (by unfold jB;simp[ht])) atV λbH _ γ4 W4 L4 m1 m2 m3 m4=>lB _ _ ?_
   refine sV hP hR cK hm m.B2 an c1 (.inl rfl) (Lb.none c2) m4 (λt ht=>AN _ (by unfold jB;simp[ht])) m1 λo oX jj W5 L5 n1 n2 n3 n4=>?_
   cases o with
   |exit id=>cases n4
   |goto l=>cases n4
   |ret=>cases n4
   |normal=>
   obtain⟨h3,Ay,e3⟩:=sQ n4
   cases e3
   have Uj:=m2.trans n2
   have MX:∀b,ZA b->jj.o b=3∧b<W5.heap.size∧W5.heap[b]? =W2.heap[b]? :=λb hb=>by
    have h1:(eI gy ZA 3).o b=3:=gL hb;have h2:b<W2.heap.size:=by rw[s4];exact(i5 b hb).2
    obtain⟨h3,h4⟩:=Uj.ro b h2 (.inr h1);exact⟨h3.trans h1,Nat.lt_of_lt_of_le h2 Uj.size,h4⟩
   have HJ:cg (jB m) {gl with lk:=ov gl j} oX:=by
    refine(i4.trans ?_).trans ((m3.mono λt ht=>by unfold jB;simp[ht]).trans (n3.mono λt ht=>by unfold jB;simp[ht]));refine⟨λt ht=>?_,rfl,λ_ _=>rfl,bw _⟩;show aE ((m.kt,ka)::ci.sl) t=aE ci.sl t;simp only[aE];have:aT m.kt t=ai:=by
     cases hbq:aT m.kt t with
     |true=>exact(ht (by rw[<-bA hbq];simp[jB])).elim
     |false=>rfl
    rw[this];rfl
   have hlen:=TQ.length_eq
   rw[List.length_cons,i9]at hlen
   subst hlen
   cases hx
   refine yt _ L5 W5 rfl (head n1 HJ Ay ((i3.trans (.wz s1)).trans (.of Uj)) (λb hb=>⟨(MX b hb).1,(MX b hb).2.1⟩) ((MX rb ava).2.2.trans ac0) ((MX q hZq).2.2.trans s2) (bw _) DG)
 intro a ha
 exact main a (awc ha atS)
def zD:List (bL×An)->bL->bL->bL
 |[],m,b=> .seq m b
 |a::as,m,b=> .seq a.1 (zD as m b)
def ZS:bL->bL
 | .seq a _=>a
 |c=>c
def JX:Nat->bL->bL
 |k+1,.seq _ b=>JX k b
 |_,c=>c
def ZT(c:bL):Nat->List An->List (bL×An)
 |_,[]=>[]
 |k,x::r=>(ZS (JX k c),x)::ZT c (k+1) r
def NS(T:bb D)(Φ:List (az D))(m:kY)(j:J)(an:An)(b:bL)(l_:An){ρ:Type}(k:Out->S D->Option ρ):List (bL×An)->S D->Option ρ
 |[],σ=>RZ T Φ m j an σ λaM=>oG l_.fz aM λbH=>fQ T Φ b l_.un bH k
 |a::as,σ=>oG a.2.fz σ λσ=>fQ T Φ a.1 a.2.un σ λo aM=>match o with
  | .normal=>NS T Φ m j an b l_ k as aM
  |o=>k o aM
def aab(T:bb D)(Φ:List (az D))(c:az D)(rs:List ResultVar)(as:List (bL×An))(m:kY)(j:J)(an:An)(b:bL)(l_:An)(h:HH D c.ins):Option (HH D c.outs):=match yK T c h with
 |some σ=>NS T Φ m j an b l_ (uY T c rs) as σ
 |none=>none
def ae0(hP:dQ P T)(hR:cE T)(cK:∀c∈Φ,fK P T c)(hm:P.follows .mixedOrders=ab){m:kY}{j:J}{an l_:An}{b:bL}{ρ:Type}{k:Out->S D->Option ρ}{r:ρ}{Q:Exit->Act->ax->Prop}(hb:gz b=ab∧iT b=ab):
  ∀{as:List (bL×An)} {σ:S D} {γ:Gh D} {w:ax} {L:List (Nat×ah)},NS T Φ m j an b l_ k as σ=aa r->(∀a∈as,gz a.1=ab∧iT a.1=ab)->(∀t∈writes (zD as m.code b),dx t n=ab)->Kn σ γ w L->
   (∀o aM aP w1 L1,Kn aM aP w1 L1->Rx.Frame γ w aP w1->k o aM=aa r->NK n (Q (toX o)) L1 w1)->CW P n (zD as m.code b) Q L w
 |[],σ,γ,w,L,h,_,hd,hk,hc=>by
  unfold zD at hd⊢;refine CW.seq λK hK=>?_;refine apJ hP hR cK hm h hk (λt ht=>hd t ?_) λaM aP w1 L1 m1 m2 m3=>hK _ _ ?_
  ·simp only[writes,bz];refine .inl ?_;unfold jB at ht;simp only[cr,bz]at ht;simp only[kY.code,kY.body,kY.wJ,xZ,writes,dstsOf,bz,List.filterMap_cons,List.filterMap_nil,cr,jN,kB]at ht⊢;rcases ht with h|h|h|h|h|h|h|h<;>simp[h]
  ·obtain⟨fb,ic,h⟩:=pG m3;obtain⟨fc,z1,z2,z3⟩:=pF ic m1;exact sV hP hR cK hm b _ hb.1 (.inl rfl) (Lb.none hb.2) h (λt ht=>by unfold Rd.eX;rw[hd t (by simp only[writes,bz];exact .inr ht)];rfl) z1 λo bH bf w2 L2 n1 n2 n3 n4=>hc o bH bf w2 L2 n1 (m2.trans (z2.trans n2)) n4
 |a::as,σ,γ,w,L,h,ha,hd,hk,hc=>by
  unfold zD at hd⊢;unfold NS at h;obtain⟨fb,ic,h⟩:=pG h;obtain⟨fc,z1,z2,z3⟩:=pF ic hk;refine CW.seq λK hK=>?_;refine sV hP hR cK hm a.1 _ (ha a (by simp)).1 (.inl rfl) (Lb.none (ha a (by simp)).2) h (λt ht=>by unfold Rd.eX;rw[hd t (by simp only[writes,bz];exact .inl ht)];rfl) z1 λo aM aP w1 L1 m1 m2 m3 m4=>?_;have m2:=z2.trans m2;cases o with
  |normal=>exact hK _ _ (ae0 hP hR cK hm hb m4 (λx hx=>ha x (by simp[hx])) (λt ht=>hd t (by simp only[writes,bz];exact .inr ht)) m1 λo bH bf w2 L2 n1 n2 n3=>hc o bH bf w2 L2 n1 (m2.trans n2) n3)
  |exit id=>exact hc (.exit id) aM aP w1 L1 m1 m2 m4
  |goto l=>exact hc (.goto l) aM aP w1 L1 m1 m2 m4
  |ret=>exact hc .ret aM aP w1 L1 m1 m2 m4
def awj(hP:dQ P T)(hR:cE T)(cK:∀c∈Φ,fK P T c)(hm:P.follows .mixedOrders=ab){c:az D}{fn:Func}{rs:List ResultVar}{sp:List (bL×An)}{m:kY}{j:J}{an l_:An}{b:bL}
  (jT:∀(args:Array ah) (w:ax),(callFunc c.f args).run P w= .ok (.enter c.f args) w)
  (hf:P.funcs[c.f]? =aa fn) (hb:fn.body=aa (zD sp m.code b)) (kR:fn.results=rs.toArray)
  (bU:(((writes (zD sp m.code b)).all (λt=>dx t fn.ntmps)&&ef c.args.length fn.ntmps&&sw c.jR c.b7&&mq (c.b7.map bS)&&c.b7.all (λp=>ef 1000 p.1)&&ef c.b7.length 40)&&((gz b&&iT b)&&sp.all λa=>gz a.1&&iT a.1))=ab)
  (rD:∀h,aab T Φ c rs sp m j an b l_ h=c.fn h):fK P T c:=by
 rw[bq]at bU
 obtain⟨bU,MA⟩:=bU
 refine aes hP hR jT hf hb kR bU λh r hr=>?_
 simp only[bq]at bU MA
 obtain⟨⟨⟨⟨⟨hw,_⟩,_⟩,_⟩,_⟩,_⟩:=bU
 simp only[dR,bq]at hw MA
 rw[<-rD]at hr
 unfold aab at hr
 split at hr
 case h_2=>cases hr
 rename_i σ lz
 exact⟨σ,lz,λhk hc=>ae0 hP hR cK hm MA.1 hr (λa ha=>MA.2 a ha) hw hk hc⟩
