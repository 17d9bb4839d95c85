import Derived.Test.YtncbfgppjfcijaaGreatRo
import Derived.Test.YtncbfgppjfcijaaGreatDz
set_option linter.unusedVariables false
set_option linter.unusedSimpArgs false
set_option linter.unusedSectionVars false
open Option.some renaming injEq→aq3
namespace Go.Proofs.YtncbfgppjfcijaaGreat
open Go Go.RowKit Dp
namespace Rx
def pd{α:Type}(p:Nat→α→Prop):List (Nat×α)→Prop
 |[]=>True
 |q::r=>p q.1 q.2∧pd p r
theorem pd.look{α:Type}{p:Nat→α→Prop}:∀{l:List (Nat×α)},pd p l→∀t d,au l t=some d→p t d
 |[],_,t,d,h=>by simp[au] at h
 |q::r,hp,t,d,h=>by
  unfold au at h
  cases hb:Nat.beq q.1 t with
  |true=>
   simp only[hb,cond_true,aq3] at h
   have:=Nat.eq_of_beq_eq_true hb
   subst this
   subst h
   exact hp.1
  |false=>
   simp only[hb,cond_false] at h
   exact pd.look hp.2 t d h
section
variable {D:Nat→Type} [∀n,ab (D n)]
variable {P:Program} {T:aV D}
def cr(P:Program)(T:aV D):List (ar D)→Prop
 |[]=>True
 |c::r=>ff P T c∧cr P T r
theorem cr.mem:∀{l:List (ar D)},cr P T l→∀c∈l,ff P T c
 |[],_,c,h=>by cases h
 |d::r,hp,c,h=>by
  rcases List.mem_cons.1 h with rfl|h
  · exact hp.1
  · exact cr.mem hp.2 c h
def aD(D:Nat→Type)[∀n,ab (D n)](α:Type)[ab α](f:α→List (DV D)):Prop:=∀(S:Nat→Prop) (w:World) (cs:List Value) (x:α),ab.rd S w cs x↔bK S w cs (f x)
theorem C2{S:Nat→Prop}{w:World}{cs:List Value}{d:DV D}:bK S w cs [d]↔∃v,cs=[v]∧cq S w v d:=by
 constructor
 · intro h
   match cs,h with
   |[v],h=>exact⟨v,rfl,h.1⟩
   |[],h=>exact h.elim
   |_::_::_,h=>exact h.2.elim
 · rintro⟨v,rfl,h⟩
   exact⟨h,trivial⟩
theorem Z'{S:Nat→Prop}{w:World}:∀{ds es:List (DV D)} {cs:List Value},bK S w cs (ds++es)↔∃a b,cs=a++b∧bK S w a ds∧bK S w b es
 |[],es,cs=>by
  constructor
  · intro h
    exact⟨[],cs,rfl,trivial,h⟩
  · rintro⟨a,b,rfl,h1,h2⟩
    match a,h1 with
    |[],_=>exact h2
    |_::_,h1=>exact h1.elim
 |d::ds,es,cs=>by
  constructor
  · intro h
    match cs,h with
    |[],h=>exact h.elim
    |v::cs,h=>
     obtain⟨a,b,rfl,h1,h2⟩:=Z'.1 h.2
     exact⟨v::a,b,rfl,⟨h.1,h1⟩,h2⟩
  · rintro⟨a,b,rfl,h1,h2⟩
    exact h1.append h2
theorem aD.int:aD D Int (fun x=>[⟨.int .i64,x⟩]):=fun S w cs x=>by
 rw[C2]
 constructor
 · intro h
   exact⟨_,h,rfl⟩
 · rintro⟨v,rfl,h⟩
   have h:v= .int .i64 x:=h
   rw[h]
   rfl
theorem aD.u8:aD D U8 (fun x=>[⟨.int .u8,x.n⟩]):=fun S w cs x=>by
 rw[C2]
 constructor
 · intro h
   exact⟨_,h,rfl⟩
 · rintro⟨v,rfl,h⟩
   have h:v= .int .u8 x.n:=h
   rw[h]
   rfl
theorem aD.bool:aD D Bool (fun x=>[⟨.bool,x⟩]):=fun S w cs x=>by
 rw[C2]
 constructor
 · intro h
   exact⟨_,h,rfl⟩
 · rintro⟨v,rfl,h⟩
   have h:v= .bool x:=h
   rw[h]
   rfl
theorem aD.str:aD D ByteArray (fun x=>[⟨.str,x⟩]):=fun S w cs x=>by
 rw[C2]
 constructor
 · intro h
   exact⟨_,h,rfl⟩
 · rintro⟨v,rfl,h⟩
   have h:v= .string x:=h
   rw[h]
   rfl
theorem aD.sl(n:Nat):aD D (List (D n)) (fun x=>[⟨.sl n,x⟩]):=fun S w cs x=>by
 rw[C2]
 constructor
 · intro h
   have hl:=ab.len h
   match cs,hl,h with
   |[v],_,h=>exact⟨v,rfl,[v],rfl,h⟩
 · rintro⟨v,rfl,h⟩
   obtain⟨cs,h1,h2⟩:Rv S w v x:=h
   have hl:=ab.len h2
   match cs,hl,h1,h2 with
   |[u],_,h1,h2=>
    have:v=u:=h1
    rw[this]
    exact h2
theorem aD.prod{α β:Type}[ab α][ab β]{f:α→List (DV D)}{g:β→List (DV D)}(h:aD D α f)(k:aD D β g):aD D (α×β) (fun x=>f x.1++g x.2):=fun S w cs x=>by
 rw[Z']
 constructor
 · rintro⟨a,b,h1,h2,h3⟩
   exact⟨a,b,h1,(h S w a x.1).1 h2,(k S w b x.2).1 h3⟩
 · rintro⟨a,b,h1,h2,h3⟩
   exact⟨a,b,h1,(h S w a x.1).2 h2,(k S w b x.2).2 h3⟩
theorem bt.of{t:TypeId}{g:Bool}{z:List Value}{d:TypeDesc}(h1:P.underlying t=some d)(h2:LH d=g)(h3:(P.info? t).map (fun i=>(i.size,i.zero))=some (z.length,some (pack g z))):bt P t g z:=by
 refine⟨⟨d,h1,h2⟩, ?_⟩
 cases hi:P.info? t with
 |none=>simp[hi] at h3
 |some i=>
  simp[hi] at h3
  exact⟨i,rfl,h3.1,h3.2⟩
theorem SE{α β:Type}{f:α→Option β}:∀{l:List α} {r:List β},l.mapM f=some r→∀{i:Nat} {b:β},r[i]? =some b→∃a,l[i]? =some a∧f a=some b
 |[],r,h,i,b,hb=>by
  simp at h
  subst h
  simp at hb
 |a::l,r,h,i,b,hb=>by
  rw[List.mapM_cons] at h
  cases ha:f a with
  |none=>simp[ha] at h
  |some c=>
   cases hl:l.mapM f with
   |none=>simp[ha,hl] at h
   |some r'=>
    simp[ha,hl] at h
    subst h
    cases i with
    |zero=>
     simp at hb
     subst hb
     exact⟨a,rfl,ha⟩
    |succ i=>
     obtain⟨a',h1,h2⟩:=SE hl (i:=i) (b:=b) (by simpa using hb)
     exact⟨a',by simpa using h1,h2⟩
theorem fW{t:TypeId}{l:List (Nat×Nat)}(h:eV P t l)(hz:l.all (fun p=> !(Nat.beq p.2 0))=true):eV P t l∧∀i off sz,l[i]? =some (off,sz)→eZ P t i off:=by
 refine⟨h,fun i off sz hi=> ?_⟩
 obtain⟨fs,h1,h2⟩:=h.fs
 obtain⟨fd,h3,h4⟩:=SE h2 hi
 cases dQ:P.info? fd.type with
 |none=>simp[dQ] at h4
 |some inf=>
  simp[dQ] at h4
  have:=List.all_eq_true.1 hz _ (List.mem_of_getElem? hi)
  refine⟨fs,fd,h1,by simpa using h3,h4.1,inf,dQ,fun e=> ?_⟩
  rw[h4.2] at e
  subst e
  simp at this
theorem ae_{c:ar D}(jG:∀(args:Array Value) (w:World),(callFunc c.f args).run P w= .ok (.enter c.f args) w)
  (bD:(pE c.ie c.bG&&jX (c.bG.map Prod.fst)&&c.bG.all (fun p=>Nat.ble 1000 p.1)&&Nat.ble c.bG.length 40)=true) (ve:∀h,c.fn h=none):ff P T c:=by
 simp only[Bool.and_eq_true] at bD
 exact⟨jG,bD.1.1.1,bD.1.1.2,bD.1.2,bD.2,fun h r hr=>by rw[ve] at hr;cases hr⟩
theorem IC.of{t m e n:Nat}(h1:P.underlying t=some (.array m e))(h2:bz P e (D n))(h3:(P.info? t).bind (fun i=>i.zero.map fun z=>z.cells.size)=some (m*ab.sz (D n))):IC P D t m e n:=by
 refine⟨h1,h2, ?_⟩
 cases hi:P.info? t with
 |none=>simp[hi] at h3
 |some i=>
  simp only[hi,Option.bind_some,Option.map_eq_some_iff] at h3
  obtain⟨z,h4,h5⟩:=h3
  exact⟨i,z,rfl,h4,h5⟩
theorem dh.of(h1:pd (fun t d=>cg P T t d) T.ty)(h2:pd (fun t (x:Nat×Nat)=>P.underlying t=some (.slice x.1)∧bz P x.1 (D x.2)) T.bS)
  (h3:pd (fun t l=>eV P t l∧∀i off sz,l[i]? =some (off,sz)→eZ P t i off) T.oR) (h4:pd (fun t ls=>zj P t ls∧ls.all jr=true) T.vD) (h5:pd (fun n (x:Nat×Nat)=>C3 P D n x.1 x.2) T.kd)
  (h6:pd (fun t (x:Nat×Nat×Nat)=>IC P D t x.1 x.2.1 x.2.2) T.ml) (h7:pd (fun t (x:Nat×Nat×Nat)=>PE P T t x.1 x.2.1 x.2.2) T.ou):dh P T:=
 ⟨fun t d h=>h1.look t d h,fun t e n h=>h2.look t (e,n) h,fun t l h=>h3.look t l h,fun t n h=>h4.look t n h,fun n tc m h=>h5.look n (tc,m) h,fun t m e n h=>h6.look t (m,e,n) h,fun t kt vt n h=>h7.look t (kt,vt,n) h⟩
end
end Rx
end Go.Proofs.YtncbfgppjfcijaaGreat
namespace Go.Proofs.YtncbfgppjfcijaaGreat
open Go Go.RowKit Dp
namespace Rx
section
variable {D:Nat→Type} [∀n,ab (D n)]
variable {P:Program} {T:aV D}
def adK(ds:List (DV D)):Nat→DV D:=ee (fun _=>⟨.bool,false⟩) 1100 ds
def Am(ds:List (DV D)):Gh D:=⟨fun _=>0,fun _=> .pointer none,adK ds⟩
theorem adL{ds:List (DV D)}(hl:ds.length≤800){i:Nat}{d:DV D}(h:ds[i]? =some d):named U0 (Am ds) (1100+i) d:=by
 have aK:=(List.getElem?_eq_some_iff.1 h).1
 refine .inr ⟨show 1100+i<2000 by omega, ?_⟩
 exact AT (f:=fun _=>⟨.bool,false⟩) (g:=1100) h
theorem af4{c:ar D}(hc:ff P T c){h:HH D c.ins}{r:HH D c.outs}(hf:c.fn h=some r){ac:List (AC D)}{w:World}{vs:List Value}
  (ha:fO T (cN T c.ins h) some id 1100 c.args=some ac) (ho:c.ob=[]) (hv:gP U0 (Am (cN T c.ins h)) w ac vs):
  Calls P c.f vs.toArray w (jT fun v w'=>(∃U' γ' rs,fO T (cN T c.outs r) some id 3000 c.ie=some rs∧qf U' γ' w' rs v)∧Below w.heap.size w w'):=by
 have bb:gj T (cN T c.ins h) some id 1100 c.ob=some []:=by rw[ho];rfl
 refine(hc.run h r hf ac [] ha bb (Am (cN T c.ins h)) w vs hv ⟨fun i x hx=>by simp[cw,au] at hx,fun b _=>show(0:Nat)<2000 by omega,fun x hx=>hx⟩).mono ?_
 rintro e w' ⟨v,rfl,U',γ',rs,gW,h1,h2,h3,h4,h5,h6⟩
 exact⟨v,rfl,⟨U',γ',rs,h1,h3⟩,⟨h6.os,h6.tape,h6.output,h6.size,fun k hk=>(h6.ro k hk (.inl rfl)).2⟩⟩
end
end Rx
end Go.Proofs.YtncbfgppjfcijaaGreat
