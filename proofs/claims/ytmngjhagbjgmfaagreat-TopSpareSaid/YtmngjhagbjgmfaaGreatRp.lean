import Derived.Test.YtmngjhagbjgmfaaGreatRo
import Derived.Test.YtmngjhagbjgmfaaGreatDz
set_option linter.all false
open Go renaming Program->cP,Value->ah,World->ax
open Option renaming some->aa
open Option.some renaming injEq->fC
namespace Go.Proofs.YtmngjhagbjgmfaaGreat
open Go Go.RowKit Dp
namespace Rx
def uC{α:Type}(p:Nat->α->Prop):List (Nat×α)->Prop
 |[]=>True
 |q::r=>p q.1 q.2∧uC p r
def uC.look{α:Type}{p:Nat->α->Prop}:∀{l:List (Nat×α)},uC p l->∀t d,aE l t=aa d->p t d
 |[],_,t,d,h=>by simp[aE]at h
 |q::r,hp,t,d,h=>by
  unfold aE at h;cases hb:Nat.beq q.1 t with
  |true=>simp only[hb,v5,fC]at h;have:=Nat.eq_of_beq_eq_true hb;subst this;subst h;exact hp.1
  |false=>simp only[hb,rV]at h;exact uC.look hp.2 t d h
section
variable {D:Nat->Type} [∀n,ad (D n)]
variable {P:cP} {T:bb D}
def ij(P:cP)(T:bb D):List (az D)->Prop
 |[]=>True
 |c::r=>fK P T c∧ij P T r
def ij.mem:∀{l:List (az D)},ij P T l->∀c∈l,fK P T c
 |[],_,c,h=>by cases h
 |d::r,hp,c,h=>by
  rcases List.mem_cons.1 h with rfl|h
  ·exact hp.1
  ·exact ij.mem hp.2 c h
def aB(D:Nat->Type)[∀n,ad (D n)](α:Type)[ad α](f:α->List (DV D)):Prop:=∀(S:Nat->Prop) (w:ax) (cs:List ah) (x:α),ad.rd S w cs x↔cm S w cs (f x)
def Jd{S:Nat->Prop}{w:ax}{cs:List ah}{d:DV D}:cm S w cs [d]↔∃v,cs=[v]∧dA S w v d:=by
 constructor
 ·intro h;match cs,h with
  |[v],h=>exact⟨v,rfl,h.1⟩
  |[],h=>exact h.elim
  |_::_::_,h=>exact h.2.elim
 ·rintro⟨v,rfl,h⟩;exact⟨h,trivial⟩
def aka{S:Nat->Prop}{w:ax}:∀{ds es:List (DV D)} {cs:List ah},cm S w cs (ds++es)↔∃a b,cs=a++b∧cm S w a ds∧cm S w b es
 |[],es,cs=>by
  constructor
  ·intro h;exact⟨[],cs,rfl,trivial,h⟩
  ·rintro⟨a,b,rfl,h1,h2⟩;match a,h1 with
   |[],_=>exact h2
   |_::_,h1=>exact h1.elim
 |d::ds,es,cs=>by
  constructor
  ·intro h;match cs,h with
   |[],h=>exact h.elim
   |v::cs,h=>obtain⟨a,b,rfl,h1,h2⟩:=aka.1 h.2;exact⟨v::a,b,rfl,⟨h.1,h1⟩,h2⟩
  ·rintro⟨a,b,rfl,h1,h2⟩;exact h1.append h2
def aB.int:aB D Int (λx=>[⟨.int .i64,x⟩]):=λS w cs x=>by
 rw[Jd];constructor
 ·intro h;exact⟨_,h,rfl⟩
 ·rintro⟨v,rfl,h⟩;have h:v= .int .i64 x:=h;rw[h];rfl
def aB.u8:aB D U8 (λx=>[⟨.int .u8,x.n⟩]):=λS w cs x=>by
 rw[Jd];constructor
 ·intro h;exact⟨_,h,rfl⟩
 ·rintro⟨v,rfl,h⟩;have h:v= .int .u8 x.n:=h;rw[h];rfl
def aB.bool:aB D Bool (λx=>[⟨.bool,x⟩]):=λS w cs x=>by
 rw[Jd];constructor
 ·intro h;exact⟨_,h,rfl⟩
 ·rintro⟨v,rfl,h⟩;have h:v= .bool x:=h;rw[h];rfl
def aB.str:aB D ByteArray (λx=>[⟨.str,x⟩]):=λS w cs x=>by
 rw[Jd];constructor
 ·intro h;exact⟨_,h,rfl⟩
 ·rintro⟨v,rfl,h⟩;have h:v= .string x:=h;rw[h];rfl
def aB.sl(n:Nat):aB D (List (D n)) (λx=>[⟨.sl n,x⟩]):=λS w cs x=>by
 rw[Jd];constructor
 ·intro h;have hl:=ad.len h;match cs,hl,h with
  |[v],_,h=>exact⟨v,rfl,[v],rfl,h⟩
 ·rintro⟨v,rfl,h⟩;obtain⟨cs,h1,h2⟩:Rv S w v x:=h;have hl:=ad.len h2;match cs,hl,h1,h2 with
  |[u],_,h1,h2=>have:v=u:=h1;rw[this];exact h2
def aB.prod{α β:Type}[ad α][ad β]{f:α->List (DV D)}{g:β->List (DV D)}(h:aB D α f)(k:aB D β g):aB D (α×β) (λx=>f x.1++g x.2):=λS w cs x=>by
 rw[aka];constructor
 ·rintro⟨a,b,h1,h2,h3⟩;exact⟨a,b,h1,(h S w a x.1).1 h2,(k S w b x.2).1 h3⟩
 ·rintro⟨a,b,h1,h2,h3⟩;exact⟨a,b,h1,(h S w a x.1).2 h2,(k S w b x.2).2 h3⟩
def bp.of{t:TypeId}{g:Bool}{z:List ah}{d:TypeDesc}(h1:P.underlying t=aa d)(h2:S9 d=g)(h3:(P.info? t).map (λi=>(i.size,i.zero))=aa (z.length,aa (pack g z))):bp P t g z:=by
 refine⟨⟨d,h1,h2⟩,?_⟩;cases hi:P.info? t with
 |none=>simp[hi]at h3
 |some i=>simp[hi]at h3;exact⟨i,rfl,h3.1,h3.2⟩
def abC{α β:Type}{f:α->Option β}:∀{l:List α} {r:List β},l.mapM f=aa r->∀{i:Nat} {b:β},r[i]? =aa b->∃a,l[i]? =aa a∧f a=aa b
 |[],r,h,i,b,hb=>by simp at h;subst h;simp at hb
 |a::l,r,h,i,b,hb=>by
  rw[List.mapM_cons]at h;cases ha:f a with
  |none=>simp[ha]at h
  |some c=>
   cases hl:l.mapM f with
   |none=>simp[ha,hl]at h
   |some r'=>
    simp[ha,hl]at h;subst h;cases i with
    |zero=>simp at hb;subst hb;exact⟨a,rfl,ha⟩
    |succ i=>obtain⟨a',h1,h2⟩:=abC hl (i:=i) (b:=b) (by simpa using hb);exact⟨a',by simpa using h1,h2⟩
def fg{t:TypeId}{l:List (Nat×Nat)}(h:E6 P t l)(hz:l.all (λp=> !(Nat.beq p.2 0))=true):E6 P t l∧∀i off sz,l[i]? =aa (off,sz)->Fj P t i off:=by
 refine⟨h,λi off sz hi=>?_⟩;obtain⟨fs,h1,h2⟩:=h.fs;obtain⟨fd,h3,h4⟩:=abC h2 hi;cases ir:P.info? fd.type with
 |none=>simp[ir]at h4
 |some inf=>simp[ir]at h4;have:=List.all_eq_true.1 hz _ (List.mem_of_getElem? hi);refine⟨fs,fd,h1,by simpa using h3,h4.1,inf,ir,λe=>?_⟩;rw[h4.2]at e;subst e;simp at this
def aqp{c:az D}(jT:∀(args:Array ah) (w:ax),(callFunc c.f args).run P w= .ok (.enter c.f args) w)
  (bU:(sw c.jR c.b7&&mq (c.b7.map Prod.fst)&&c.b7.all (λp=>Nat.ble 1000 p.1)&&Nat.ble c.b7.length 40)=true) (rD:∀h,c.fn h=none):fK P T c:=by
 simp only[Bool.and_eq_true]at bU
 exact⟨jT,bU.1.1.1,bU.1.1.2,bU.1.2,bU.2,λh r hr=>by rw[rD]at hr;cases hr⟩
def dQ.of(h1:uC (λt d=>cj P T t d) T.ty)(h2:uC (λt (x:Nat×Nat)=>P.underlying t=aa (.slice x.1)∧bN P x.1 (D x.2)) T.de)
  (h3:uC (λt l=>E6 P t l∧∀i off sz,l[i]? =aa (off,sz)->Fj P t i off) T.um) (h4:uC (λt ls=>BX P t ls∧ls.all jG=true) T.Bo) (h5:uC (λn (x:Nat×Nat)=>Je P D n x.1 x.2) T.kd)
  (h6:uC (λt (x:Nat×Nat×Nat)=>aku P D t x.1 x.2.1 x.2.2) T.qL) (h7:uC (λt (x:Nat×Nat×Nat)=>PG P T t x.1 x.2.1 x.2.2) T.qc):dQ P T:=
 ⟨λt d h=>h1.look t d h,λt e n h=>h2.look t (e,n) h,λt l h=>h3.look t l h,λt n h=>h4.look t n h,λn tc m h=>h5.look n (tc,m) h,λt m e n h=>h6.look t (m,e,n) h,λt kt vt n h=>h7.look t (kt,vt,n) h⟩
end
end Rx
end Go.Proofs.YtmngjhagbjgmfaaGreat
namespace Go.Proofs.YtmngjhagbjgmfaaGreat
open Go Go.RowKit Dp
namespace Rx
section
variable {D:Nat->Type} [∀n,ad (D n)]
variable {P:cP} {T:bb D}
def aoT(ds:List (DV D)):Nat->DV D:=ga (λ_=>⟨.bool,false⟩) 1100 ds
def Gt(ds:List (DV D)):Gh D:=⟨λ_=>0,λ_=> .pointer none,aoT ds⟩
def aoU{ds:List (DV D)}(hl:ds.length<=800){i:Nat}{d:DV D}(h:ds[i]? =aa d):named U0 (Gt ds) (1100+i) d:=by have aU:=(List.getElem?_eq_some_iff.1 h).1;refine .inr ⟨show 1100+i<2000 by omega,?_⟩;exact GO (f:=λ_=>⟨.bool,false⟩) (g:=1100) h
def arK{c:az D}(hc:fK P T c){h:HH D c.ins}{r:HH D c.outs}(hf:c.fn h=aa r){ac:List (AC D)}{w:ax}{vs:List ah}
  (ha:gX T (dE T c.ins h) aa id 1100 c.args=aa ac) (ho:c.ob=[]) (hv:jf U0 (Gt (dE T c.ins h)) w ac vs):
  Calls P c.f vs.toArray w (mb λv w'=>(∃U' γ' rs,gX T (dE T c.outs r) aa id 3000 c.jR=aa rs∧vS U' γ' w' rs v)∧Below w.heap.size w w'):=by
 have bG:jC T (dE T c.ins h) aa id 1100 c.ob=aa []:=by rw[ho];rfl
 refine(hc.run h r hf ac [] ha bG (Gt (dE T c.ins h)) w vs hv ⟨λi x hx=>by simp[dt,aE]at hx,λb _=>show(0:Nat)<2000 by omega,λx hx=>hx⟩).mono ?_
 rintro e w' ⟨v,rfl,U',γ',rs,ke,h1,h2,h3,h4,h5,h6⟩
 exact⟨v,rfl,⟨U',γ',rs,h1,h3⟩,⟨h6.os,h6.tape,h6.output,h6.size,λk hk=>(h6.ro k hk (.inl rfl)).2⟩⟩
