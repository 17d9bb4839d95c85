import Derived.Maps.RangeRun
import Derived.Test.YtgaghlbepnjhiaaGreatRi
set_option linter.all false
open Bool renaming and_eq_true->bt,false->ae,true->ab
open Go renaming Code->bO,MapEntry->gP,Oper->aV,Operand->ba,TypeId->aX,Value->ai,World->ax
open List renaming all_eq_true->dX,filter_eq_self->F6,map_cons->gC,mem_append->bg,mem_cons->cj,mem_map->dk,not_mem_nil->jT
open Nat renaming beq->aW,ble->eN,blt->dJ,eq_of_beq_eq_true->bA,le_refl->bw
open Option renaming some->aa
open Prod renaming fst->bV,snd->oY
noncomputable section
namespace Go.Proofs.YtgaghlbepnjhiaaGreat
open Go Go.RowKit Dp
namespace Rx
section
open Classical in
def B_{α ρ:Type}(xs:List α)(f:List α->Option ρ):Option ρ:=match xs with
 |[]=>f []
 |[x]=>f [x]
 |x::y::l=>if ∀zs,zs.Perm (x::y::l)->f zs=f (x::y::l)then f (x::y::l)else none
def aDU{α ρ:Type}{xs:List α}{f:List α->Option ρ}{r:ρ}(h:B_ xs f=aa r):∀zs,zs.Perm xs->f zs=aa r:=by
 intro zs hz;unfold B_ at h;split at h
 ·rw[List.Perm.eq_nil hz];exact h
 ·rw[List.perm_singleton.1 hz];exact h
 ·split at h
  ·rename_i hh;rw[hh zs hz];exact h
  ·cases h
def aDT{α ρ:Type}{xs:List α}{f:List α->Option ρ}{r:ρ}(h:∀zs,zs.Perm xs->f zs=aa r):B_ xs f=aa r:=by
 unfold B_;split
 ·exact h _ (.refl _)
 ·exact h _ (.refl _)
 ·rw[aI λzs hz=>(h zs hz).trans (h _ (.refl _)).symm];exact h _ (.refl _)
def sV{α σ:Type}(f:σ->α->Option σ):σ->List α->Option σ
 |s,[]=>aa s
 |s,y::ys=>nL (f s y) λs'=>sV f s' ys
def abW{α:Type}{key:α->Nat}:∀{l:List α},(l.map key).Nodup->∀{p:α},p∈l->l.Perm (p::l.filter λq=> !(key q==key p))
 |[],_,p,hp=>by cases hp
 |a::l,hn,p,hp=>by
  rw[gC]at hn;have Ec:=List.nodup_cons.1 hn;rcases cj.1 hp with rfl|hp
  ·have e1:(p::l).filter (λq=> !(key q==key p))=l:=by
    rw[List.filter_cons_of_neg (by simp)];refine F6.2 λq hq=>?_;have:key q≠key p:=λe=>Ec.1 (dk.2 ⟨q,hq,e⟩);simpa using this
   rw[e1]
  ·have bM:key a≠key p:=λe=>Ec.1 (dk.2 ⟨p,hp,e.symm⟩);rw[List.filter_cons_of_pos (by simpa using bM)];exact((abW Ec.2 hp).cons a).trans (.swap _ _ _)
def cd:Nat->Option (Nat⊕Unit)
 |0=>aa (.inr ())
 |k+1=>aa (.inl k)
def af9:∀k,nM cd (k+1) k=aa ()
 |0=>by rw[MV];rfl
 |k+1=>by rw[MV];exact af9 k
def ja.zip{α:Type}{R:gP->α->Prop}:∀{es:List gP} {xs:List α},ja R es xs->(es.zip xs).map bV=es∧(es.zip xs).map oY=xs∧∀p∈es.zip xs,R p.1 p.2
 |[],[],_=>⟨rfl,rfl,λ_ h=>by cases h⟩
 |e::es,x::xs,h=>by
  obtain⟨h1,h2,h3⟩:=ja.zip h.2;refine⟨by rw[List.zip_cons_cons,gC,h1],by rw[List.zip_cons_cons,gC,h2],λp hp=>?_⟩;rw[List.zip_cons_cons]at hp;rcases cj.1 hp with rfl|hp
  ·exact h.1
  ·exact h3 p hp
 |[],_::_,h=>h.elim
 |_::_,[],h=>h.elim
end
structure lh where
 r0:Nat
 b:Nat
 r1:Nat
 b5:Nat
 r2:Nat
 MC:List aV
 B2:bO
 t:aX
 ms:Nat
 mv:Nat
 it:Nat
 nx:Nat
 ex:Nat
 en:Nat
 kt:Nat
 y:List aX
 p:List String
 a:List (Array Edge)
def yv(m:lh)(k d:Nat)(op:Op):aV:=⟨aa d,op,m.y.getD k 0,m.p.getD k "",m.a.getD k #[],none⟩
def lh.wS(m:lh):List aV:=yv m 4 m.en (.entry (.tmp m.it))::yv m 5 m.kt (.extract (.tmp m.en) 0)::m.MC
def lh.body(m:lh):bO:= .seq (.region m.r1 [yv m 2 m.nx (.next (.tmp m.it) ae),yv m 3 m.ex (.extract (.tmp m.nx) 0)].toArray ae) (.seq (.cond (.tmp m.ex) .skip (.exit m.b)) (.block m.b5 (.seq (.region m.r2 m.wS.toArray ae) m.B2)))
def lh.code(m:lh):bO:= .seq (.region m.r0 [yv m 0 m.mv (.move (.tmp m.ms)),yv m 1 m.it (.range m.t (.tmp m.mv))].toArray ae) (.block m.b (.loop m.body))
def ab9(l:List aV)(k:Nat):Option Op:=match l[k]? with
 |some o=>aa o.op
 |none=>none
def rgT:Option Op->aX
 |some (.range t _)=>t
 |_=>0
def mvX:Option Op->Nat
 |some (.move (.tmp x))=>x
 |_=>0
def ar5:bO->lh
 | .seq (.region r0 o0 _) (.block b (.loop (.seq (.region r1 o1 _) (.seq _ (.block b5 (.seq (.region r2 o2 _) B2))))))=>
   let l:=o0.toList++(o1.toList++o2.toList.take 2)
   {r0,b,r1,b5,r2,MC:=o2.toList.drop 2,B2,
    t:=rgT (ab9 o0.toList 1),ms:=mvX (ab9 o0.toList 0),
    mv:=kZ l 0,it:=kZ l 1,nx:=kZ l 2,ex:=kZ l 3,en:=kZ l 4,kt:=kZ l 5,
    y:=l.map λo=>o.type,p:=l.map λo=>o.pos,a:=l.map λo=>o.after}
 |_=>⟨0,0,0,0,0,[],.skip,0,0,0,0,0,0,0,0,[],[],[]⟩
def jM(m:lh):List Nat:=m.nx::m.ex::m.en::m.kt::(dstsOf m.MC++writes m.B2)
section
variable {D:Nat->Type} [∀n,ad (D n)]
variable {P:Program} {T:bc D} {Φ:List (az D)} {n:Nat}
def ac1(T:bc D){n:Nat}(y:D n):Option (AV D):=vq (match(T.out n y).dropLast with|[_]=>ae|_=>ab) (O5 [] (T.out n y).dropLast)
def LQ(T:bc D)(Φ:List (az D))(m:lh)(j:J)(an:An){n:Nat}(σ:S D)(h:HH D j.cP)(y:D n):Option (HH D j.cP):=match lF T j (jM m) j.mv σ h with
 |some cm=>match ac1 T y with
  |some a=>jn T Φ m.wS m.MC 2 {cm with sl:=(m.kt,a)::cm.sl,lk:=oE σ j} [] λbL _=>fX T Φ m.B2 an bL λo pd=>match o with
   | .normal=>qO T j pd λh'=>aa h'
   |_=>none
  |none=>none
 |none=>none
def acj(m:lh)(j:J):Bool:=gT m.B2&&je m.B2&& !(bP (jM m) m.it)&&j.sl.all (λp=> !(bP [m.nx,m.ex,m.en,m.kt] p.1))&& !(aW m.nx m.ex)&& !(aW m.en m.kt)&& !(aW m.mv m.it)
def SW(T:bc D)(Φ:List (az D))(m:lh)(j:J)(an:An){ρ:Type}(σ:S D)(k:S D->Option ρ):Option ρ:=match aF σ.sl m.ms with
 |some (.c (.one (.own i)))=>match dC σ.ob i with
  |some (.mp n xs)=>match aF T.qo m.t,aF σ.sl m.it,aF σ.sl m.mv with
   |some kt,none,none=>match aW kt.2.2 n&&acj m j with
    |true=>qO T j {rS [i] σ with lk:=oE (rS [i] σ) j} λh0=>B_ xs λzs=>nL (sV (LQ T Φ m j an (rS [i] σ)) h0 zs) λh'=>match lF T j (jM m) j.mv (rS [i] σ) h' with
     |some kJ=>k kJ
     |none=>none
    |false=>none
   |_,_,_=>none
  |_=>none
 |_=>none
section
variable {Q:Exit->Act->ax->Prop} {L:List (Nat×ai)} {w:ax} {ty:aX} {pos:String} {af:Array Edge} {g:Option (Nat×Bool)} {d:Option Tmp}
def OW.rangeMap [Rd]{t k e:aX}{x:ba}{b:Nat}{es:Array gP}{clock:Nat}(ht:P.underlying t=aa (.map k e))(hx:ev L x=aa (.map (aa b)))(hb:w.heap[b]? =aa (.map es clock)):
  OW P Q L ⟨d,.range t x,ty,pos,af,g⟩ w (λv w'=>v=fT w.heap.size 0∧w'=w.alloc (.mapIter (aa b) clock #[] clock)):=
 OW.run λa ha=>⟨_,_,by simp[execOp,ha _ _ hx,run_range_map w t k e b es clock ht hb];rfl,rfl,rfl⟩
def OW.arZ [Rd]{x:ba}{r bm since c0:Nat}{seen:Array Nat}{es:Array gP}{clock:Nat}(hx:ev L x=aa (fT r 0))(hr:w.heap[r]? =aa (.mapIter (aa bm) since seen c0))(hb:w.heap[bm]? =aa (.map es clock))
  (hold:∀y∈es.toList,y.born<since) (hsc:since<=c0):
  OW P Q L ⟨d,.next x ae,ty,pos,af,g⟩ w (λv w'=>(v= .tuple #[.bool ae]∧w'=w∧(leftOf es seen).size=0)∨∃e∈(leftOf es seen).toList,v= .tuple #[.bool ab,e.key,e.val]∧∃w1:ax,(w1=w∨w1=w.drew)∧w'=ChangeMaps.setBlock w1 r (.mapIter (aa bm) since (seen.push e.born) clock)):=by
 refine OW.run λa ha=>?_
 have e0:a.eval x= .pointer (aa ⟨r,0,none⟩):=ha _ _ hx
 rcases run_next_at (P:=P) w ty r bm since c0 seen es clock hr hb hold hsc with⟨h0,fD⟩|⟨e,he,w1,hal,fD⟩
 ·exact⟨_,w,by simp[execOp,e0,fD],.inl ⟨rfl,rfl,h0⟩⟩
 ·exact⟨_,_,by simp[execOp,e0,fD],.inr ⟨e,he,rfl,w1,hal,rfl⟩⟩
def OW.ayN [Rd]{x:ba}{r bm since:Nat}{seen:Array Nat}{es:Array gP}{clock:Nat}{e:gP}(hx:ev L x=aa (fT r 0))(hr:w.heap[r]? =aa (.mapIter (aa bm) since (seen.push e.born) clock))(hb:w.heap[bm]? =aa (.map es clock))
  (he:e∈es.toList) (hn:(es.toList.map (·.born)).Nodup):OW P Q L ⟨d,.entry x,ty,pos,af,g⟩ w (λv w'=>v= .tuple #[e.key,e.val]∧w'=w):=
 OW.run λa ha=>⟨_,w,by have e0:a.eval x= .pointer (aa ⟨r,0,none⟩):=ha _ _ hx;simp[execOp,e0,run_entry_at (P:=P) w r bm since seen es clock e hr hb he hn],rfl,rfl⟩
def OW.V6 [Rd]{x:ba}{vs:Array ai}{i:Nat}{v:ai}(hx:ev L x=aa (.tuple vs))(hi:vs[i]? =aa v):OW P Q L ⟨d,.extract x i,ty,pos,af,g⟩ w (λv' w'=>v'=v∧w'=w):=OW.run λa ha=>⟨_,w,by simp[execOp,ha _ _ hx,Instr.extract,hi],rfl,rfl⟩
def CW.ayj [I:Rd]{ops:Array aV}{l:List aV}{t:Nat}{v:ai}(hf:I.fix t=aa v)(h:WL P n ops Q l ((t,v)::L) w):WL P n ops Q l L w:=λa ha=>h a ⟨ha.size,ha.defers,λt' v' h'=>by
 by_cases e:t=t'
 ·subst e;rw[iX]at h';cases h';exact ha.fix _ _ hf
 ·rw[il _ _ e]at h';exact ha.get _ _ h',ha.fix⟩
def CW.ayk [I:Rd]{c:bO}{t:Nat}{v:ai}(hf:I.fix t=aa v)(h:CW P n c Q ((t,v)::L) w):CW P n c Q L w:=λa ha=>h a ⟨ha.size,ha.defers,λt' v' h'=>by
 by_cases e:t=t'
 ·subst e;rw[iX]at h';cases h';exact ha.fix _ _ hf
 ·rw[il _ _ e]at h';exact ha.get _ _ h',ha.fix⟩
end
@[reducible] def Rd.v7 (t:Nat) (v:ai):Rd:=⟨none,[],λt'=>if t'=t then aa v else none⟩
def axr{t:Nat}{v:ai}{L:List (Nat×ai)}{a:Act}(h: @Fr (Rd.v7 t v) n L a): @Fr Rd.plain n L a:= @Fr.mk Rd.plain _ _ _ (@Fr.size (Rd.v7 t v) _ _ _ h) (@Fr.defers (Rd.v7 t v) _ _ _ h) (@Fr.get (Rd.v7 t v) _ _ _ h) (λ_ _ h=>by cases h)
def axs{t:Nat}{v:ai}{L:List (Nat×ai)}{a:Act}(h: @Fr Rd.plain n L a)(hl:Dp.look L t=aa v): @Fr (Rd.v7 t v) n L a:= @Fr.mk (Rd.v7 t v) _ _ _ (@Fr.size Rd.plain _ _ _ h) (@Fr.defers Rd.plain _ _ _ h) (@Fr.get Rd.plain _ _ _ h) (λt' v' hv=>by
 by_cases e:t'=t
 ·subst e;have:aa v=aa v':=by rw[<-hv];exact(aI rfl).symm
  cases this;exact @Fr.get Rd.plain _ _ _ h _ _ hl
 ·have:(Rd.v7 t v).fix t'=none:=aK e;rw[this]at hv;cases hv)
def apL{Z:Nat->Prop}{w w1:ax}{r:Nat}{o o':Obj}(hz:Z r)(hr:w.heap[r]? =aa o)(h1:w1=w∨w1=w.drew):WZ Z w (ChangeMaps.setBlock w1 r o')∧(ChangeMaps.setBlock w1 r o').heap[r]? =aa o'∧(∀b,b≠r->(ChangeMaps.setBlock w1 r o').heap[b]? =w.heap[b]?)∧(ChangeMaps.setBlock w1 r o').heap.size=w.heap.size:=by
 have D8:w1.heap[r]? =aa o:=by rcases h1 with rfl|rfl<;>exact hr
 have hs:(ChangeMaps.setBlock w1 r o').heap.size=w.heap.size:=by rcases h1 with rfl|rfl<;>simp[ChangeMaps.setBlock]
 obtain⟨k1,k2⟩:=MapKept.heap_set (o':=o') D8;have ho:∀b,b≠r->(ChangeMaps.setBlock w1 r o').heap[b]? =w.heap[b]? :=λb hb=>(k2 b hb).trans (by rcases h1 with rfl|rfl<;>rfl);refine⟨⟨by rcases h1 with rfl|rfl<;>rfl,by rcases h1 with rfl|rfl<;>rfl,by rcases h1 with rfl|rfl<;>rfl,by omega,λb hb _=>ho b λe=>hb (e▸hz),λb hb=> .inl (by omega)⟩,k1,ho,hs⟩
def aqX(hP:ef P T)(hR:cK T)(cU:∀c∈Φ,gz P T c)(hm:P.follows .mixedOrders=ab){m:lh}{j:J}{an:An}{ρ:Type}{σ:S D}{k:S D->Option ρ}{r:ρ}{γ:Gh D}{w:ax}{L:List (Nat×ai)}{Q:Exit->Act->ax->Prop}
  (h:SW T Φ m j an σ k=aa r) (hk:Kn σ γ w L) (hd:∀t∈m.mv::m.it::jM m,dJ t n=ab)
  (hc:∀aO aQ w1 L1,Kn aO aQ w1 L1->Rx.Frame γ w aQ w1->k aO=aa r->NK n (Q .normal) L1 w1):CW P n m.code Q L w:=by
 unfold SW at h
 split at h
 case h_2=>cases h
 rename_i i hms
 split at h
 case h_2=>cases h
 rename_i nn xs ho
 split at h
 case h_2=>cases h
 rename_i kt hmt hit Ed
 split at h
 case h_2=>cases h
 rename_i sQ
 rw[bt]at sQ
 have hn:=bA sQ.1
 have jB:=sQ.2
 unfold acj at jB
 simp only[bt,Bool.not_eq_true']at jB
 obtain⟨⟨⟨⟨⟨⟨c1,c2⟩,c3⟩,c4⟩,c5⟩,c6⟩,c7⟩:=jB
 obtain⟨ktT,vtT,n0⟩:=kt
 have hn:n0=nn:=hn
 subst hn
 have hM:=hP.qo _ _ _ _ hmt
 obtain⟨fF,_,HY⟩:=hk.ob.ob i _ ho
 obtain⟨rb,es,clock,hg,hoi,hb,hpw,gU,VB⟩:=HY
 obtain⟨v0,hL0,HM⟩:=hk.sr _ _ hms
 have HM:v0= .map (aa rb):=HM.2.1.trans hg
 subst HM
 have hrb:rb<w.heap.size:=(Array.getElem?_eq_some_iff.1 hb).1
 obtain⟨h0,pF,hF⟩:=sW h
 have hF:=aDU hF
 have aEF:m.mv≠m.it:=λe=>by rw[e]at c7;simp at c7
 have aek:m.it∉jM m:=λnR=>by rw[eA.2 nR]at c3;cases c3
 have HT:∀t∈m.mv::m.it::jM m,Rd.fb Rd.plain n t=ab:=λt ht=>by unfold Rd.fb;rw[hd t ht];rfl
 unfold lh.code
 refine CW.seq λK0 Iy=>CW.region ?_
 refine WL.v (v:= .map (aa rb)) (by simp[yv,Dp.pv,Dp.ev,hL0]) (HT _ (by simp)) ?_
 refine WL.step (OW.rangeMap hM.u0 (by simp[Dp.ev,iX]) hb) (HT _ (by simp)) ?_
 rintro v W1 ⟨rfl,pO⟩
 refine WL.nil (Iy _ _ ?_)
 obtain⟨q,hq⟩:∃q,q=w.heap.size:=⟨_,rfl⟩
 rw[<-hq]
 have aww:W1.heap.size=q+1:=by rw[pO,hq];simp
 have awx:W1.heap[q]? =aa (.mapIter (aa rb) clock #[] clock):=by rw[pO,hq];exact ax.alloc_heap_new w _
 have aeX:∀b,b<w.heap.size->W1.heap[b]? =w.heap[b]? :=λb hb=>by rw[pO];exact Below.heap_alloc _ _ _ hb
 obtain⟨L1,Ix⟩:∃L1,L1=(m.it,fT q 0)::(m.mv,ai.map (aa rb))::L:=⟨_,rfl⟩
 rw[<-Ix]
 obtain⟨Zi,Iq⟩:∃Zi:Nat->Prop,Zi=λb=>b=q:=⟨_,rfl⟩
 have Is:WZ Zi w W1:=⟨by rw[pO];rfl,by rw[pO];rfl,by rw[pO];rfl,by omega,λb _ aS=>aeX b aS,λb hb=>by rw[Iq];show _∨b=q;omega⟩
 obtain⟨aQ,HE⟩:∃aQ,aQ=eO γ Zi 3:=⟨_,rfl⟩
 have eK:Kn σ aQ W1 L:=by rw[HE];exact hk.wz (.inr rfl) (λb hb aS=>by rw[Iq]at hb;have hb:b=q:=hb;omega) Is
 obtain⟨Bx,xp⟩:∃Bx:Nat->Prop,Bx=λb=>b<W1.heap.size∧aQ.o b∈[i]:=⟨_,rfl⟩
 obtain⟨gE,AR⟩:∃gE,gE=rS [i] σ:=⟨_,rfl⟩
 rw[<-AR]at pF hF
 have avf:Kn gE (eO aQ Bx 2) W1 L:=by rw[AR,xp];exact eK.rS (by simp[fF])
 have vN:gE.lk=σ.lk:=by rw[AR];rfl
 have aeI:∀t,aF gE.sl t=aF σ.sl t:=λt=>by rw[AR];rfl
 have vH:Kn gE (eO aQ Bx 2) W1 L1:=avf.DB λt x v hx hv=>by rw[aeI]at hx;rw[Ix,il _ _ (λe=>by rw[<-e,hit]at hx;cases hx),il _ _ (λe=>by rw[<-e,Ed]at hx;cases hx)];exact hv
 obtain⟨ZA,kA⟩:∃ZA:Nat->Prop,ZA=λb=>Zi b∨Bx b:=⟨_,rfl⟩
 have ad2:rb≠q:=by omega
 have atP:aQ.o rb=i:=by rw[HE,mB (by rw[Iq];exact ad2)];exact hoi
 have aws:ZA rb:=by rw[kA];right;rw[xp];exact⟨by omega,by simp[atP]⟩
 have hZq:ZA q:=by rw[kA,Iq];exact .inl rfl
 have aeT:∀b,ZA b->(w.heap.size<=b∨(γ.o b≠0∧γ.o b≠3))∧b<W1.heap.size:=λb hb=>by
  rw[kA]at hb;by_cases hz:Zi b
  ·rw[Iq]at hz;have hz:b=q:=hz;exact⟨.inl (by omega),by omega⟩
  ·rcases hb with hb|hb
   ·exact(hz hb).elim
   ·rw[xp]at hb;obtain⟨h1,h2⟩:=hb;rw[HE,mB hz]at h2;simp only[List.mem_singleton]at h2;exact⟨.inr (by omega),h1⟩
 have Vh:gf ZA γ w (eO aQ Bx 2) W1:=by
  have f1:gf Zi γ w aQ W1:=by rw[HE];exact .wz Is
  have f2:gf Bx aQ W1 (eO aQ Bx 2) W1:= .wz (.refl Bx W1);exact(f1.mono λb hb=>by rw[kA];exact .inl hb).trans (f2.mono λb hb=>by rw[kA];exact .inr hb)
 have avE:∀{QJ:Gh D} {we:ax},gf ZA γ w QJ we->(∀b,ZA b->QJ.o b=2)->Rx.Frame γ w QJ we:=λhf h2=>hf.frame (λb hb=>(aeT b hb).1) h2
 obtain⟨ps,pI⟩:∃ps,ps=es.toList.zip xs:=⟨_,rfl⟩
 obtain⟨z1,z2,z3⟩:=ja.zip gU
 rw[<-pI]at z1 z2 z3
 obtain⟨left,H2⟩:∃left:Array Nat->List (gP×D n0),left=λseen=>ps.filter λp=> !seen.contains p.1.born:=⟨_,rfl⟩
 have awa:(ps.map λp=>p.1.born).Nodup:=by have:=VB.2;rw[<-z1,List.map_map]at this;exact this
 have aee:∀seen,(leftOf es seen).toList=(left seen).map bV:=λseen=>by rw[H2];unfold leftOf;rw[Array.toList_filter,<-z1,List.filter_map];rfl
 have auJ:∀(seen:Array Nat) (p:gP×D n0),p∈left seen->(left seen).Perm (p::left (seen.push p.1.born)):=λseen p hp=>by
  have hnd:((left seen).map λp=>p.1.born).Nodup:=by rw[H2];exact awa.sublist (List.filter_sublist.map _)
  have e1:left (seen.push p.1.born)=(left seen).filter λq=> !(q.1.born==p.1.born):=by rw[H2];simp only[List.filter_filter];refine List.filter_congr λq _=>?_;rw[contains_push];cases seen.contains q.1.born<;>cases(q.1.born==p.1.born)<;>rfl
  rw[e1];exact abW hnd hp
 have hold:∀y∈es.toList,y.born<clock:=VB.1
 obtain⟨fin,jO⟩:∃fin:HH D j.cP->Option ρ,fin=λh'=>match lF T j (jM m) j.mv gE h' with
  |some kJ=>k kJ
  |none=>none:=⟨_,rfl⟩
 obtain⟨bd,sS⟩:∃bd:HH D j.cP->D n0->Option (HH D j.cP),bd=LQ T Φ m j an gE:=⟨_,rfl⟩
 rw[<-sS,<-jO]at hF
 have U9:∀{h':HH D j.cP} {zs:List (D n0)},nL (sV bd h' zs) fin=aa r->∃cm,lF T j (jM m) j.mv gE h'=aa cm:=by
  intro h' zs hz;cases zs with
  |nil=>
   have hz:fin h'=aa r:=hz;rw[jO]at hz;dsimp only at hz;split at hz
   ·rename_i kJ he;exact⟨kJ,he⟩
   ·cases hz
  |cons y ys=>
   obtain⟨a1,ha,_⟩:=nZ hz;obtain⟨a2,nl,_⟩:=nZ ha;rw[sS]at nl;unfold LQ at nl;split at nl
   ·rename_i cm he;exact⟨cm,he⟩
   ·cases nl
 let I:Rd:=Rd.v7 m.it (fT q 0)
 have aeD:I.fix m.it=aa (fT q 0):=aI rfl
 have A':∀t∈jM m,I.fb n t=ab:=λt ht=>by unfold Rd.fb;rw[hd t (by simp[ht])];have:I.fix t=none:=aK λe:t=m.it=>aek (e▸ht);rw[this];rfl
 have au':Dp.look L1 m.it=aa (fT q 0):=by rw[Ix];exact iX _ _ _
 have main: @CW P n I (.block m.b (.loop m.body)) Q L1 W1:=by
  refine CW.block ?_;obtain⟨inv,hinv⟩:∃inv:Nat->List (Nat×ai)->ax->Prop,inv=λkk L W=>∃(seen:Array Nat) (c0:Nat) (h':HH D j.cP) (cm:S D) (gQ:Gh D),lF T j (jM m) j.mv gE h'=aa cm∧Kn cm gQ W L∧gf ZA γ w gQ W∧ck (jM m) {gE with lk:=oE gE j} {cm with lk:=oE gE j}∧
   (∀b,ZA b->gQ.o b=2∧b<W.heap.size)∧W.heap[rb]? =aa (.map es clock)∧W.heap[q]? =aa (.mapIter (aa rb) clock seen c0)∧clock<=c0∧(left seen).length=kk∧∀zs,zs.Perm ((left seen).map oY)->nL (sV bd h' zs) fin=aa r:=⟨_,rfl⟩
  have head:∀{h':HH D j.cP} {q_:S D} {jw:Gh D} {W:ax} {L5:List (Nat×ai)} {seen:Array Nat} {c0:Nat},Kn q_ jw W L5->ck (jM m) {gE with lk:=oE gE j} q_->zA T j q_ h'->gf ZA γ w jw W->(∀b,ZA b->jw.o b=3∧b<W.heap.size)->W.heap[rb]? =aa (.map es clock)->W.heap[q]? =aa (.mapIter (aa rb) clock seen c0)->clock<=c0->
    (∀zs,zs.Perm ((left seen).map oY)->nL (sV bd h' zs) fin=aa r)->inv (left seen).length L5 W:=by
   intro h' q_ jw W L5 seen c0 k1 k2 k3 k4 k5 k6 k7 k8 k9
   obtain⟨cm,na⟩:=U9 (k9 _ (.refl _))
   obtain⟨bf,q1,q2,q3,_⟩:=AL hR rfl vH k1 k2 k3 na
   have rM:∀b,ZA b->bf.o b=3:=λb hb=>by rw[(q2.ro b (k5 b hb).2 (.inr (k5 b hb).1)).1];exact(k5 b hb).1
   rw[hinv]
   exact⟨seen,c0,h',cm,eO bf ZA 2,na,q1.wz (.inl rfl) (λb hb _=> .inr (rM b hb)) (.refl _ W),(k4.trans (.of q2)).trans (.wz (.refl _ W)),q3,λb hb=>⟨ia hb,(k5 b hb).2⟩,k6,k7,k8,rfl,k9⟩
  have yR:left #[]=ps:=by rw[H2];exact F6.2 λ_ _=>by simp
  refine CW.loop cd inv (TC (af9 (left #[]).length)) ?_ ?_
  ·refine head (jw:=eO (eO aQ Bx 2) ZA 3) ((vH.lk _).wz (.inr rfl) (λb hb _=>?_) (.refl _ W1)) (ck.refl _ _) pF (Vh.trans (.wz (.refl _ W1))) (λb hb=>⟨ia hb,(aeT b hb).2⟩) ((aeX rb hrb).trans hb) awx (bw _) (λzs hz=>hF zs (by rw[yR,z2]at hz;exact hz));by_cases vP:Bx b
   ·exact .inl (ia vP)
   ·rw[mB vP];right;rw[kA]at hb;rcases hb with hb|hb
    ·rw[HE];exact ia hb
    ·exact(vP hb).elim
  rintro K kk L' W hi x hx D8 yN;rw[hinv]at hi;obtain⟨seen,c0,h',cm,gQ,i1,i2,i3,i4,i5,i6,i7,i8,i9,i10⟩:=hi;have HO:∀t∈[m.nx,m.ex,m.en,m.kt],aF cm.sl t=none:=λt ht=>by
   cases hl:aF cm.sl t with
   |none=>rfl
   |some a=>
    rcases T6 i1 hl with⟨h1,_⟩|h1
    ·obtain⟨p,hp,rfl⟩:=dk.1 h1;have:=dX.1 c4 p hp;rw[eA.2 ht]at this;cases this
    ·exact(h1 (by simp only[cj,jT,kF]at ht;unfold jM;rcases ht with rfl|rfl|rfl|rfl<;>simp)).elim
  have Ur:aF cm.sl m.it=none:=by have e1:aF cm.sl m.it=aF gE.sl m.it:=i4.sl _ aek;rw[e1,aeI,hit]
  refine CW.ayk aeD ?_;unfold lh.body;refine CW.seq λK1 ir=>CW.region ?_;refine WL.step (OW.arZ (iX _ _ _) i7 i6 hold i8) (A' _ (by simp[jM])) ?_;rintro v W2 (⟨rfl,hWe,hz⟩|⟨e,he,rfl,w1,w5,hW2⟩)
  ·
   rw[hWe]
   refine WL.step (OW.V6 (v:= .bool ae) (iX _ _ _) rfl) (A' _ (by simp[jM])) ?_
   rintro v w' ⟨rfl,rD⟩
   rw[rD]
   clear rD w'
   refine WL.nil (ir _ _ ?_)
   refine CW.seq λK2 iL=>CW.cond (b:=ae) (iX _ _ _) (λh=>by cases h) λ_=>CW.exit ?_
   have yR:left seen=[]:=by have e1:=iF List.length (aee seen);rw[Array.length_toList,hz,List.length_map]at e1;exact List.eq_nil_of_length_eq_zero e1.symm
   have Ej:=i10 [] (by rw[yR];exact .refl _)
   have Ej:fin h'=aa r:=Ej
   rw[jO]at Ej
   dsimp only at Ej
   rw[i1]at Ej
   have H7:Kn cm gQ W ((m.ex,.bool ae)::(m.nx,.tuple #[.bool ae])::(m.it,fT q 0)::L'):=i2.DB λt x v hx hv=>by rw[il _ _ (λe=>by subst e;rw[HO _ (by simp)]at hx;cases hx),il _ _ (λe=>by subst e;rw[HO _ (by simp)]at hx;cases hx),il _ _ (λe=>by subst e;rw[Ur]at hx;cases hx)];exact hv
   intro a' jY
   show(if m.b=m.b then Q .normal a' W else Q (.exit m.b) a' W)
   rw[aI rfl]
   exact hc cm gQ W _ H7 (avE i3 λb hb=>(i5 b hb).1) Ej a' (axr jY)
  ·
   obtain⟨⟨e',y⟩,hp,rfl⟩:∃p∈left seen,p.1=e:=by rw[aee seen]at he;obtain⟨p,h1,h2⟩:=dk.1 he;exact⟨p,h1,h2⟩
   dsimp only
   have hpm:(e',y)∈ps:=by rw[H2]at hp;exact(List.mem_filter.1 hp).1
   have hem:e'∈es.toList:=by rw[<-z1];exact dk.2 ⟨_,hpm,rfl⟩
   obtain⟨us,Bj,sK⟩:=z3 _ hpm
   have UH:=auJ seen _ hp
   obtain⟨s1,s2,s3,s4⟩:=apL (o':= .mapIter (aa rb) clock (seen.push e'.born) clock) hZq i7 w5
   rw[<-hW2]at s1 s2 s3 s4
   have adY:W2.heap[rb]? =aa (.map es clock):=(s3 rb ad2).trans i6
   obtain⟨h2,pN,Eb⟩:∃h2,bd h' y=aa h2∧∀zs,zs.Perm ((left (seen.push e'.born)).map oY)->nL (sV bd h2 zs) fin=aa r:=by
    have first:=i10 (y::(left (seen.push e'.born)).map oY) ((UH.map oY).symm)
    obtain⟨a1,ha,_⟩:=nZ first
    obtain⟨h2,nl,_⟩:=nZ ha;refine⟨h2,nl,λzs hz=>?_⟩;have:=i10 (y::zs) (((hz.cons y)).trans (UH.map oY).symm);have e1:sV bd h' (y::zs)=sV bd h2 zs:=by show nL (bd h' y) _=_;rw[nl];rfl
    rw[e1]at this;exact this
   have aEV:=pN
   rw[sS]at pN
   unfold LQ at pN
   rw[i1]at pN
   dsimp only at pN
   split at pN
   case h_2=>cases pN
   rename_i ka hka
   refine WL.step (OW.V6 (v:= .bool ab) (iX _ _ _) rfl) (A' _ (by simp[jM])) ?_
   rintro v w' ⟨rfl,rD⟩
   rw[rD]
   clear rD w'
   refine WL.nil (ir _ _ ?_)
   refine CW.seq λK2 iL=>CW.cond (b:=ab) (iX _ _ _) (λ_=>CW.skip (iL _ _ ?_)) (λh=>by cases h)
   refine CW.block ?_
   refine CW.seq λK5 lJ=>CW.region ?_
   refine CW.ayj aeD ?_
   refine WL.step (OW.ayN (iX _ _ _) s2 adY hem VB.2) (A' _ (by simp[jM])) ?_
   rintro v w' ⟨rfl,rD⟩
   rw[rD]
   clear rD w'
   refine WL.step (OW.V6 (v:=e'.key) (iX _ _ _) rfl) (A' _ (by simp[jM])) ?_
   rintro v w' ⟨rfl,rD⟩
   rw[rD]
   clear rD w'
   have avd:Kn cm (eO gQ ZA 3) W2 L':=i2.wz (.inr rfl) (λb hb _=> .inl (i5 b hb).1) s1
   obtain⟨L6,hL6⟩:∃L6,L6=(m.en,ai.tuple #[e'.key,e'.val])::(m.it,fT q 0)::(m.ex,ai.bool ab)::(m.nx,ai.tuple #[.bool ab,e'.key,e'.val])::(m.it,fT q 0)::L':=⟨_,rfl⟩
   rw[<-hL6]
   have UY:Kn cm (eO gQ ZA 3) W2 L6:=avd.DB λt x v hx hv=>by rw[hL6,il _ _ (λe=>by subst e;rw[HO _ (by simp)]at hx;cases hx),il _ _ (λe=>by subst e;rw[Ur]at hx;cases hx),il _ _ (λe=>by subst e;rw[HO _ (by simp)]at hx;cases hx),il _ _ (λe=>by subst e;rw[HO _ (by simp)]at hx;cases hx),il _ _ (λe=>by subst e;rw[Ur]at hx;cases hx)];exact hv
   have hkv:gW (λi=>i<cm.nx) (eO gQ ZA 3) W2 ka e'.key:=by
    have r1:cz (In (eO gQ ZA 3).o []) W2 (us++[e'.val]) (T.out n0 y):=by rw[<-hR.rd];exact ad.mono (λb hb _=>hb.elim) sK
    have a1:=r1.length;have r2:cz (In (eO gQ ZA 3).o []) W2 us (T.out n0 y).dropLast:=by
     have:=r1.take us.length;rw[List.take_left]at this;have e3:(T.out n0 y).take us.length=(T.out n0 y).dropLast:=by rw[List.dropLast_eq_take];congr 1;simp at a1;omega
     rwa[e3]at this
    have r3:=WY (U:=λi=>i<cm.nx) (γ:=eO gQ ZA 3) (K:=[]) (λ_ hx=>by cases hx) r2;have hlen:=r2.length;unfold ac1 at hka;have:=ab0 r3 hka;rw[Bj];have e4:gG us=pack (match(T.out n0 y).dropLast with|[_]=>ae|_=>ab) us:=by
     split
     ·rename_i d1 yV;rw[yV]at hlen;match us,hlen with
      |[u],_=>rfl
     ·rename_i yV;have bM:us.length≠1:=λe1=>by
       rw[e1]at hlen;match avU:(T.out n0 y).dropLast,hlen with
       |[d1],_=>exact yV d1 avU
      rw[acr bM];rfl
    rw[e4];exact this
   have avc:Kn {cm with sl:=(m.kt,ka)::cm.sl,lk:=oE gE j} (eO gQ ZA 3) W2 ((m.kt,e'.key)::L6):=⟨UY.sr.cons hkv,UY.ob,UY.cO⟩
   refine tp hP hR cU pN (λt ht=>A' _ (by unfold jM;simp[ht])) avc λbL _ γ4 W4 L4 m1 m2 m3 m4=>lJ _ _ ?_
   refine tf hP hR cU hm m.B2 an c1 (.inl rfl) (Lb.none c2) m4 (λt ht=>A' _ (by unfold jM;simp[ht])) m1 λo pd jw W5 L5 n1 n2 n3 n4=>?_
   cases o with
   |exit id=>cases n4
   |goto l=>cases n4
   |ret=>cases n4
   |normal=>
   obtain⟨h3,AU,e3⟩:=sW n4
   cases e3
   have Vf:=m2.trans n2
   have NH:∀b,ZA b->jw.o b=3∧b<W5.heap.size∧W5.heap[b]? =W2.heap[b]? :=λb hb=>by
    have h1:(eO gQ ZA 3).o b=3:=ia hb;have h2:b<W2.heap.size:=by rw[s4];exact(i5 b hb).2
    obtain⟨h3,h4⟩:=Vf.ro b h2 (.inr h1);exact⟨h3.trans h1,Nat.lt_of_lt_of_le h2 Vf.size,h4⟩
   have Ih:ck (jM m) {gE with lk:=oE gE j} pd:=by
    refine(i4.trans ?_).trans ((m3.mono λt ht=>by unfold jM;simp[ht]).trans (n3.mono λt ht=>by unfold jM;simp[ht]));refine⟨λt ht=>?_,rfl,λ_ _=>rfl,bw _⟩;show aF ((m.kt,ka)::cm.sl) t=aF cm.sl t;simp only[aF];have:aW m.kt t=ae:=by
     cases hbq:aW m.kt t with
     |true=>exact(ht (by rw[<-bA hbq];simp[jM])).elim
     |false=>rfl
    rw[this];rfl
   have hlen:=UH.length_eq
   rw[List.length_cons,i9]at hlen
   subst hlen
   cases hx
   refine yN _ L5 W5 rfl (head n1 Ih AU ((i3.trans (.wz s1)).trans (.of Vf)) (λb hb=>⟨(NH b hb).1,(NH b hb).2.1⟩) ((NH rb aws).2.2.trans adY) ((NH q hZq).2.2.trans s2) (bw _) Eb)
 intro a ha
 exact main a (axs ha au')
def zW:List (bO×An)->bO->bO->bO
 |[],m,b=> .seq m b
 |a::as,m,b=> .seq a.1 (zW as m b)
def spL:bO->bO
 | .seq a _=>a
 |c=>c
def KF:Nat->bO->bO
 |k+1,.seq _ b=>KF k b
 |_,c=>c
def spA(c:bO):Nat->List An->List (bO×An)
 |_,[]=>[]
 |k,x::r=>(spL (KF k c),x)::spA c (k+1) r
def OT(T:bc D)(Φ:List (az D))(m:lh)(j:J)(an:An)(b:bO)(me:An){ρ:Type}(k:Out->S D->Option ρ):List (bO×An)->S D->Option ρ
 |[],σ=>SW T Φ m j an σ λaO=>oP me.fz aO λbL=>fX T Φ b me.un bL k
 |a::as,σ=>oP a.2.fz σ λσ=>fX T Φ a.1 a.2.un σ λo aO=>match o with
  | .normal=>OT T Φ m j an b me k as aO
  |o=>k o aO
def aa4(T:bc D)(Φ:List (az D))(c:az D)(rs:List ResultVar)(as:List (bO×An))(m:lh)(j:J)(an:An)(b:bO)(me:An)(h:HH D c.ins):Option (HH D c.outs):=match y8 T c h with
 |some σ=>OT T Φ m j an b me (vc T c rs) as σ
 |none=>none
def afW(hP:ef P T)(hR:cK T)(cU:∀c∈Φ,gz P T c)(hm:P.follows .mixedOrders=ab){m:lh}{j:J}{an me:An}{b:bO}{ρ:Type}{k:Out->S D->Option ρ}{r:ρ}{Q:Exit->Act->ax->Prop}(hb:gT b=ab∧je b=ab):
  ∀{as:List (bO×An)} {σ:S D} {γ:Gh D} {w:ax} {L:List (Nat×ai)},OT T Φ m j an b me k as σ=aa r->(∀a∈as,gT a.1=ab∧je a.1=ab)->(∀t∈writes (zW as m.code b),dJ t n=ab)->Kn σ γ w L->
   (∀o aO aQ w1 L1,Kn aO aQ w1 L1->Rx.Frame γ w aQ w1->k o aO=aa r->NK n (Q (toX o)) L1 w1)->CW P n (zW as m.code b) Q L w
 |[],σ,γ,w,L,h,_,hd,hk,hc=>by
  unfold zW at hd⊢;refine CW.seq λK hK=>?_;refine aqX hP hR cU hm h hk (λt ht=>hd t ?_) λaO aQ w1 L1 m1 m2 m3=>hK _ _ ?_
  ·simp only[writes,bg];refine .inl ?_;unfold jM at ht;simp only[cj,bg]at ht;simp only[lh.code,lh.body,lh.wS,yv,writes,dstsOf,bg,List.filterMap_cons,List.filterMap_nil,cj,jT,kF]at ht⊢;rcases ht with h|h|h|h|h|h|h|h<;>simp[h]
  ·obtain⟨ff,iD,h⟩:=pQ m3;obtain⟨fg,z1,z2,z3⟩:=pP iD m1;exact tf hP hR cU hm b _ hb.1 (.inl rfl) (Lb.none hb.2) h (λt ht=>by unfold Rd.fb;rw[hd t (by simp only[writes,bg];exact .inr ht)];rfl) z1 λo bL bf w2 L2 n1 n2 n3 n4=>hc o bL bf w2 L2 n1 (m2.trans (z2.trans n2)) n4
 |a::as,σ,γ,w,L,h,ha,hd,hk,hc=>by
  unfold zW at hd⊢;unfold OT at h;obtain⟨ff,iD,h⟩:=pQ h;obtain⟨fg,z1,z2,z3⟩:=pP iD hk;refine CW.seq λK hK=>?_;refine tf hP hR cU hm a.1 _ (ha a (by simp)).1 (.inl rfl) (Lb.none (ha a (by simp)).2) h (λt ht=>by unfold Rd.fb;rw[hd t (by simp only[writes,bg];exact .inl ht)];rfl) z1 λo aO aQ w1 L1 m1 m2 m3 m4=>?_;have m2:=z2.trans m2;cases o with
  |normal=>exact hK _ _ (afW hP hR cU hm hb m4 (λx hx=>ha x (by simp[hx])) (λt ht=>hd t (by simp only[writes,bg];exact .inr ht)) m1 λo bL bf w2 L2 n1 n2 n3=>hc o bL bf w2 L2 n1 (m2.trans n2) n3)
  |exit id=>exact hc (.exit id) aO aQ w1 L1 m1 m2 m4
  |goto l=>exact hc (.goto l) aO aQ w1 L1 m1 m2 m4
  |ret=>exact hc .ret aO aQ w1 L1 m1 m2 m4
def axz(hP:ef P T)(hR:cK T)(cU:∀c∈Φ,gz P T c)(hm:P.follows .mixedOrders=ab){c:az D}{fn:Func}{rs:List ResultVar}{sp:List (bO×An)}{m:lh}{j:J}{an me:An}{b:bO}
  (kW:∀(args:Array ai) (w:ax),(callFunc c.f args).run P w= .ok (.enter c.f args) w)
  (hf:P.funcs[c.f]? =aa fn) (hb:fn.body=aa (zW sp m.code b)) (l8:fn.results=rs.toArray)
  (b6:(((writes (zW sp m.code b)).all (λt=>dJ t fn.ntmps)&&eN c.args.length fn.ntmps&&tU c.kl c.cn&&mZ (c.cn.map bV)&&c.cn.all (λp=>eN 1000 p.1)&&eN c.cn.length 40)&&((gT b&&je b)&&sp.all λa=>gT a.1&&je a.1))=ab)
  (rJ:∀h,aa4 T Φ c rs sp m j an b me h=c.fn h):gz P T c:=by
 rw[bt]at b6
 obtain⟨b6,Nk⟩:=b6
 refine afm hP hR kW hf hb l8 b6 λh r hr=>?_
 simp only[bt]at b6 Nk
 obtain⟨⟨⟨⟨⟨hw,_⟩,_⟩,_⟩,_⟩,_⟩:=b6
 simp only[dX,bt]at hw Nk
 rw[<-rJ]at hr
 unfold aa4 at hr
 split at hr
 case h_2=>cases hr
 rename_i σ lG
 exact⟨σ,lG,λhk hc=>afW hP hR cU hm Nk.1 hr (λa ha=>Nk.2 a ha) hw hk hc⟩
