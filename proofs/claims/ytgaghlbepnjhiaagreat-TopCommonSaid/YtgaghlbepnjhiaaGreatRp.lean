import Derived.Test.YtgaghlbepnjhiaaGreatRo
import Derived.Test.YtgaghlbepnjhiaaGreatDz
set_option linter.all false
open Go renaming Program->cT,Value->ai,World->ax
open Option renaming some->aa
open Option.some renaming injEq->fK
namespace Go.Proofs.YtgaghlbepnjhiaaGreat
open Go Go.RowKit Dp
namespace Rx
def uH{α:Type}(p:Nat->α->Prop):List (Nat×α)->Prop
 |[]=>True
 |q::r=>p q.1 q.2∧uH p r
def uH.look{α:Type}{p:Nat->α->Prop}:∀{l:List (Nat×α)},uH p l->∀t d,aF l t=aa d->p t d
 |[],_,t,d,h=>by simp[aF]at h
 |q::r,hp,t,d,h=>by
  unfold aF at h;cases hb:Nat.beq q.1 t with
  |true=>simp only[hb,wi,fK]at h;have:=Nat.eq_of_beq_eq_true hb;subst this;subst h;exact hp.1
  |false=>simp only[hb,sd]at h;exact uH.look hp.2 t d h
section
variable {D:Nat->Type} [∀n,ad (D n)]
variable {P:cT} {T:bc D}
def jI(P:cT)(T:bc D):List (az D)->Prop
 |[]=>True
 |c::r=>gz P T c∧jI P T r
def jI.mem:∀{l:List (az D)},jI P T l->∀c∈l,gz P T c
 |[],_,c,h=>by cases h
 |d::r,hp,c,h=>by
  rcases List.mem_cons.1 h with rfl|h
  ·exact hp.1
  ·exact jI.mem hp.2 c h
def aD(D:Nat->Type)[∀n,ad (D n)](α:Type)[ad α](f:α->List (DV D)):Prop:=∀(S:Nat->Prop) (w:ax) (cs:List ai) (x:α),ad.rd S w cs x↔cz S w cs (f x)
def JU{S:Nat->Prop}{w:ax}{cs:List ai}{d:DV D}:cz S w cs [d]↔∃v,cs=[v]∧dI S w v d:=by
 constructor
 ·intro h;match cs,h with
  |[v],h=>exact⟨v,rfl,h.1⟩
  |[],h=>exact h.elim
  |_::_::_,h=>exact h.2.elim
 ·rintro⟨v,rfl,h⟩;exact⟨h,trivial⟩
def aln{S:Nat->Prop}{w:ax}:∀{ds es:List (DV D)} {cs:List ai},cz S w cs (ds++es)↔∃a b,cs=a++b∧cz S w a ds∧cz S w b es
 |[],es,cs=>by
  constructor
  ·intro h;exact⟨[],cs,rfl,trivial,h⟩
  ·rintro⟨a,b,rfl,h1,h2⟩;match a,h1 with
   |[],_=>exact h2
   |_::_,h1=>exact h1.elim
 |d::ds,es,cs=>by
  constructor
  ·intro h;match cs,h with
   |[],h=>exact h.elim
   |v::cs,h=>obtain⟨a,b,rfl,h1,h2⟩:=aln.1 h.2;exact⟨v::a,b,rfl,⟨h.1,h1⟩,h2⟩
  ·rintro⟨a,b,rfl,h1,h2⟩;exact h1.append h2
def aD.int:aD D Int (λx=>[⟨.int .i64,x⟩]):=λS w cs x=>by
 rw[JU];constructor
 ·intro h;exact⟨_,h,rfl⟩
 ·rintro⟨v,rfl,h⟩;have h:v= .int .i64 x:=h;rw[h];rfl
def aD.u8:aD D U8 (λx=>[⟨.int .u8,x.n⟩]):=λS w cs x=>by
 rw[JU];constructor
 ·intro h;exact⟨_,h,rfl⟩
 ·rintro⟨v,rfl,h⟩;have h:v= .int .u8 x.n:=h;rw[h];rfl
def aD.bool:aD D Bool (λx=>[⟨.bool,x⟩]):=λS w cs x=>by
 rw[JU];constructor
 ·intro h;exact⟨_,h,rfl⟩
 ·rintro⟨v,rfl,h⟩;have h:v= .bool x:=h;rw[h];rfl
def aD.str:aD D ByteArray (λx=>[⟨.str,x⟩]):=λS w cs x=>by
 rw[JU];constructor
 ·intro h;exact⟨_,h,rfl⟩
 ·rintro⟨v,rfl,h⟩;have h:v= .string x:=h;rw[h];rfl
def aD.sl(n:Nat):aD D (List (D n)) (λx=>[⟨.sl n,x⟩]):=λS w cs x=>by
 rw[JU];constructor
 ·intro h;have hl:=ad.len h;match cs,hl,h with
  |[v],_,h=>exact⟨v,rfl,[v],rfl,h⟩
 ·rintro⟨v,rfl,h⟩;obtain⟨cs,h1,h2⟩:Rv S w v x:=h;have hl:=ad.len h2;match cs,hl,h1,h2 with
  |[u],_,h1,h2=>have:v=u:=h1;rw[this];exact h2
def aD.prod{α β:Type}[ad α][ad β]{f:α->List (DV D)}{g:β->List (DV D)}(h:aD D α f)(k:aD D β g):aD D (α×β) (λx=>f x.1++g x.2):=λS w cs x=>by
 rw[aln];constructor
 ·rintro⟨a,b,h1,h2,h3⟩;exact⟨a,b,h1,(h S w a x.1).1 h2,(k S w b x.2).1 h3⟩
 ·rintro⟨a,b,h1,h2,h3⟩;exact⟨a,b,h1,(h S w a x.1).2 h2,(k S w b x.2).2 h3⟩
def bj.of{t:TypeId}{g:Bool}{z:List ai}{d:TypeDesc}(h1:P.underlying t=aa d)(h2:T2 d=g)(h3:(P.info? t).map (λi=>(i.size,i.zero))=aa (z.length,aa (pack g z))):bj P t g z:=by
 refine⟨⟨d,h1,h2⟩,?_⟩;cases hi:P.info? t with
 |none=>simp[hi]at h3
 |some i=>simp[hi]at h3;exact⟨i,rfl,h3.1,h3.2⟩
def acz{α β:Type}{f:α->Option β}:∀{l:List α} {r:List β},l.mapM f=aa r->∀{i:Nat} {b:β},r[i]? =aa b->∃a,l[i]? =aa a∧f a=aa b
 |[],r,h,i,b,hb=>by simp at h;subst h;simp at hb
 |a::l,r,h,i,b,hb=>by
  rw[List.mapM_cons]at h;cases ha:f a with
  |none=>simp[ha]at h
  |some c=>
   cases hl:l.mapM f with
   |none=>simp[ha,hl]at h
   |some r'=>
    simp[ha,hl]at h;subst h;cases i with
    |zero=>simp at hb;subst hb;exact⟨a,rfl,ha⟩
    |succ i=>obtain⟨a',h1,h2⟩:=acz hl (i:=i) (b:=b) (by simpa using hb);exact⟨a',by simpa using h1,h2⟩
def fj{t:TypeId}{l:List (Nat×Nat)}(h:FC P t l)(hz:l.all (λp=> !(Nat.beq p.2 0))=true):FC P t l∧∀i off sz,l[i]? =aa (off,sz)->FR P t i off:=by
 refine⟨h,λi off sz hi=>?_⟩;obtain⟨fs,h1,h2⟩:=h.fs;obtain⟨fd,h3,h4⟩:=acz h2 hi;cases gI:P.info? fd.type with
 |none=>simp[gI]at h4
 |some inf=>simp[gI]at h4;have:=List.all_eq_true.1 hz _ (List.mem_of_getElem? hi);refine⟨fs,fd,h1,by simpa using h3,h4.1,inf,gI,λe=>?_⟩;rw[h4.2]at e;subst e;simp at this
def arF{c:az D}(kW:∀(args:Array ai) (w:ax),(callFunc c.f args).run P w= .ok (.enter c.f args) w)
  (b6:(tU c.kl c.cn&&mZ (c.cn.map Prod.fst)&&c.cn.all (λp=>Nat.ble 1000 p.1)&&Nat.ble c.cn.length 40)=true) (rJ:∀h,c.fn h=none):gz P T c:=by
 simp only[Bool.and_eq_true]at b6
 exact⟨kW,b6.1.1.1,b6.1.1.2,b6.1.2,b6.2,λh r hr=>by rw[rJ]at hr;cases hr⟩
def QF.of{t m e n:Nat}(h1:P.underlying t=aa (.array m e))(h2:bN P e (D n))(h3:(P.info? t).bind (λi=>i.zero.map λz=>z.cells.size)=aa (m*ad.sz (D n))):QF P D t m e n:=by
 refine⟨h1,h2,?_⟩;cases hi:P.info? t with
 |none=>simp[hi]at h3
 |some i=>simp only[hi,Option.bind_some,Option.map_eq_some_iff]at h3;obtain⟨z,h4,h5⟩:=h3;exact⟨i,z,rfl,h4,h5⟩
def ef.of(h1:uH (λt d=>cp P T t d) T.ty)(h2:uH (λt (x:Nat×Nat)=>P.underlying t=aa (.slice x.1)∧bN P x.1 (D x.2)) T.dp)
  (h3:uH (λt l=>FC P t l∧∀i off sz,l[i]? =aa (off,sz)->FR P t i off) T.uu) (h4:uH (λt ls=>zB P t ls∧ls.all jE=true) T.BK) (h5:uH (λn (x:Nat×Nat)=>JV P D n x.1 x.2) T.kd)
  (h6:uH (λt (x:Nat×Nat×Nat)=>QF P D t x.1 x.2.1 x.2.2) T.qV) (h7:uH (λt (x:Nat×Nat×Nat)=>JS P T t x.1 x.2.1 x.2.2) T.qo):ef P T:=
 ⟨λt d h=>h1.look t d h,λt e n h=>h2.look t (e,n) h,λt l h=>h3.look t l h,λt n h=>h4.look t n h,λn tc m h=>h5.look n (tc,m) h,λt m e n h=>h6.look t (m,e,n) h,λt kt vt n h=>h7.look t (kt,vt,n) h⟩
end
end Rx
end Go.Proofs.YtgaghlbepnjhiaaGreat
namespace Go.Proofs.YtgaghlbepnjhiaaGreat
open Go Go.RowKit Dp
namespace Rx
section
variable {D:Nat->Type} [∀n,ad (D n)]
variable {P:cT} {T:bc D}
def ap8(ds:List (DV D)):Nat->DV D:=gm (λ_=>⟨.bool,false⟩) 1100 ds
def G4(ds:List (DV D)):Gh D:=⟨λ_=>0,λ_=> .pointer none,ap8 ds⟩
def ap9{ds:List (DV D)}(hl:ds.length<=800){i:Nat}{d:DV D}(h:ds[i]? =aa d):named U0 (G4 ds) (1100+i) d:=by have aS:=(List.getElem?_eq_some_iff.1 h).1;refine .inr ⟨show 1100+i<2000 by omega,?_⟩;exact Hl (f:=λ_=>⟨.bool,false⟩) (g:=1100) h
def as2{c:az D}(hc:gz P T c){h:HH D c.ins}{r:HH D c.outs}(hf:c.fn h=aa r){ac:List (AC D)}{w:ax}{vs:List ai}
  (ha:im T (dK T c.ins h) aa id 1100 c.args=aa ac) (ho:c.ob=[]) (hv:jr U0 (G4 (dK T c.ins h)) w ac vs):
  Calls P c.f vs.toArray w (mi λv w'=>(∃U' γ' rs,im T (dK T c.outs r) aa id 3000 c.kl=aa rs∧v_ U' γ' w' rs v)∧Below w.heap.size w w'):=by
 have bK:jN T (dK T c.ins h) aa id 1100 c.ob=aa []:=by rw[ho];rfl
 refine(hc.run h r hf ac [] ha bK (G4 (dK T c.ins h)) w vs hv ⟨λi x hx=>by simp[dC,aF]at hx,λb _=>show(0:Nat)<2000 by omega,λx hx=>hx⟩).mono ?_
 rintro e w' ⟨v,rfl,U',γ',rs,ko,h1,h2,h3,h4,h5,h6⟩
 exact⟨v,rfl,⟨U',γ',rs,h1,h3⟩,⟨h6.os,h6.tape,h6.output,h6.size,λk hk=>(h6.ro k hk (.inl rfl)).2⟩⟩
