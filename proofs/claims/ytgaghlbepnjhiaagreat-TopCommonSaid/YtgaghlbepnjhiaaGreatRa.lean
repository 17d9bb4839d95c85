import Derived.Test.YtgaghlbepnjhiaaGreatKd
import Derived.KernelRfl
set_option linter.all false
open Bool renaming false->ae,true->ab
open ByteArray renaming empty->tz
open Decidable renaming decide->ak
open List renaming replicate->cR
open Nat renaming beq->aW,ble->eN,blt->dJ
open Option renaming some->aa
open Prod renaming fst->bV,snd->oY
namespace Go.Proofs.YtgaghlbepnjhiaaGreat
open Go Dp
def mE{α:Type}(z:α)(n:Int):Option (List α):=if 0<=n∧n<=1073741824 then aa (cR n.toNat z)else none
def Az{α:Type}(z:α)(n:Int):Option (List α):=if 0<n∧n<=1073741824 then aa (cR n.toNat z)else none
namespace Rx
abbrev nL{α β:Type}(o:Option α)(f:α->Option β):Option β:=o.bind f
abbrev DL{α β γ:Type}(f:α->γ)(g:β->γ)(x:α⊕β):γ:=Sum.elim f g x
abbrev EZ{α:Type}(c:Bool)(a b:α):α:=Decidable.casesOn (motive:=λ_=>α) (instDecidableEqBool c ab) (λ_=>b) (λ_=>a)
abbrev atM(a b:Int):Int:=W (a+b)
abbrev atf(a b:Int):Int:=W (a-b)
abbrev atG(a b:Int):Int:=W (a*b)
abbrev atv(a:Int):Int:=W (-a)
abbrev M8(a b:Int):Bool:=a==b
abbrev ine(a b:Int):Bool:=a !=b
abbrev ilt(a b:Int):Bool:=ak (a<b)
abbrev ile(a b:Int):Bool:=ak (a<=b)
abbrev igt(a b:Int):Bool:=ak (a>b)
abbrev ige(a b:Int):Bool:=ak (a>=b)
abbrev HD(a b:Int):Int:=a+b
abbrev ac4(a b:Int):Int:=a-b
abbrev atF(a b:Int):Int:=a*b
abbrev rA(k:IntKind)(a:Int):Int:=k.wrap a
abbrev Ue(k:IntKind)(a b:Int):Int:=k.wrap ((BitVec.ofInt k.bits a&&&BitVec.ofInt k.bits b).toNat:Int)
abbrev afV{α:Type}(xs:List α)(j:Int)(ys:List α):List α:=xs.take j.toNat++(ys.take (xs.length-j.toNat)++xs.drop (j.toNat+ys.length))
abbrev WD(n j m:Int):Int:=if m<n-j then m else n-j
abbrev rT{α:Type}(z:α)(xs:List α)(j:Int):List α:=xs.take j.toNat++cR (xs.length-j.toNat) z
abbrev y7(a b:Int):Option Unit:=if a=b then aa ()else none
abbrev C2{α:Type}(xs:List α)(j:Int):List α:=xs.take j.toNat
abbrev uz{α:Type}(xs:List α)(j:Int):List α:=xs.drop j.toNat
abbrev wI(n:Nat)(a b:Int):Option Int:=if b<0 then none else aa (a.fdiv (2^min b.toNat n))
abbrev beq'(a b:Bool):Bool:=a==b
abbrev Fp(a:Bool):Bool:= !a
abbrev PR(a b:Bool):Bool:=a&&b
abbrev eD(p q:Int):Int:=if q<p then q else p
abbrev imax(p q:Int):Int:=if p<q then q else p
abbrev Ds(a b:ByteArray):Bool:=a==b
abbrev ed(l:List Nat):ByteArray:=⟨(l.map UInt8.ofNat).toArray⟩
abbrev LM(a b:ByteArray):Option ByteArray:=if a.size+b.size<=1073741824 then aa (a++b)else none
abbrev rj(a:ByteArray):Int:=(a.size:Int)
abbrev LK(s:ByteArray)(j:Int):Option Int:=if 0<=j then(match s.data[j.toNat]? with|some b=>aa (b.toNat:Int)|none=>none)else none
abbrev LL{α:Type}(mk:Int->α)(s:ByteArray):Option (List α):=if s.size<=1073741824 then aa (s.data.toList.map λb=>mk (b.toNat:Int))else none
abbrev xA{α:Type}(f:α->Int)(xs:List α):ByteArray:=(xs.map f).foldl (λr n=>r.push (UInt8.ofNat n.toNat)) tz
abbrev neO{α:Type}(xs:List α):Option Unit:=match xs with
 |[]=>none
 |_::_=>aa ()
def ry{α β:Type}(f:α->Bool)(v:α->β)(z:β)(xs:List α):β:=match xs.find? f with
 |some x=>v x
 |none=>z
def sG{α:Type}(f:α->Bool)(xs:List α):Bool:=xs.any f
def tP{α:Type}(f:α->Bool)(z:α)(xs:List α):List α:=if xs.any f=ab then xs.map λx=>if f x=ab then z else x else xs++[z]
def nM{σ ρ:Type}(step:σ->Option (σ⊕ρ))(n:Nat):σ->Option ρ:=Nat.rec (motive:=λ_=>σ->Option ρ) (λ_=>none) (λ_ ih s=>match step s with
 |some (.inl s')=>ih s'
 |some (.inr r)=>aa r
 |none=>none) n
def aG{σ ρ:Type}(step:σ->Option (σ⊕ρ))(s:σ):Option ρ:=nM step 18446744073709551616 s
inductive Lf|int (k:IntKind)|bool|str|sl (n:Nat)
deriving DecidableEq
inductive Ht|lf (l:Lf)|el (n:Nat)
section
variable (D:Nat->Type)
@[reducible] def Lf.den:Lf->Type
  | .int _=>Int
  | .bool=>Bool
  | .str=>ByteArray
  | .sl n=>List (D n)
@[reducible] def Ht.den:Ht->Type
  | .lf l=>l.den D
  | .el n=>D n
def HL:List Lf->Type
 |[]=>Unit
 |l::r=>match r with
  |[]=>l.den D
  |_::_=>l.den D×HL r
def HH:List Ht->Type
 |[]=>Unit
 |l::r=>match r with
  |[]=>l.den D
  |_::_=>l.den D×HH r
structure DV where
 l:Lf
 d:l.den D
inductive A0
 |ptr (i off:Nat)
 |rp (n:Nat) (x:D n) (off:Nat) (K:List Nat)
inductive A1
 |v (l:Lf) (d:l.den D) (K:List Nat) (g:Nat)
 |vb (n:Nat) (xs:List (D n)) (K:List Nat) (g:Nat) (b:Bool)
 |ptr (i off:Nat)
 |el (i n:Nat) (j:Int) (y:D n) (off tc tj:Nat)
 |rp (n:Nat) (x:D n) (off:Nat) (K:List Nat)
 |own (i:Nat)
 |fn (f:Nat) (jo:List (A0 D))
 |ch (i n:Nat) (j:Int) (off ct m:Nat) (d:List (D m))
 |zh (i t:Nat)
 |tail (i n:Nat) (j:Int)
 |pre (i n:Nat) (j:Int)
 |wU
 |tt (n:Nat) (xs:List (D n)) (K:List Nat)
 |bH
 |sF
 |DM
 |undef
 |zS
inductive AC|one (a:A1 D)|agg (l:List (A1 D))
inductive AV|c (x:AC D)|dY (l:List (AC D))
inductive AO
 |box (cs:List (A1 D))
 |sl (n T:Nat) (xs:List (D n)) (K:List Nat) (g:Nat)
 |df (n T Tc m:Nat) (xs:List (D n)) (g ht:Nat)
 |iH (n T Tc m:Nat) (xs:List (D n)) (j:Int) (off t g:Nat)
 |fz (n:Nat) (xs:List (D n)) (K:List Nat)
 |mp (n:Nat) (xs:List (D n))
inductive Q(α:Type):Type 1
 |ret (a:α)
 |fail
 |obj (i:Nat) (k:AO D->Q α)
 |part {β:Type} (o:Option β) (k:β->Q α)
inductive lc|one (l:Lf)|st (n:Nat)|ptr|fn
structure bc where
 lv:Nat->List Lf
 ag:Nat->Bool
 DI:∀n,D n->HL D (lv n)
 AA:∀n,HL D (lv n)->D n
 zero:∀n,D n
 ty:List (Nat×lc)
 uu:List (Nat×List (Nat×Nat))
 dp:List (Nat×Nat×Nat)
 BK:List (Nat×List Lf)
 kd:List (Nat×Nat×Nat)
 qV:List (Nat×Nat×Nat×Nat)
 pre:List Nat
 qo:List (Nat×Nat×Nat×Nat)
structure S where
 sl:List (Nat×AV D)
 ob:List (Nat×Option (AO D))
 nx:Nat
 lk:List Nat
structure de where
 dst:AV D
 sv:List (Nat×Option (AO D))
 fz:List Nat
end
def AK(K:List Nat):Lf->List Nat
 | .sl _=>K
 |_=>[]
def aF{α:Type}:List (Nat×α)->Nat->Option α
 |[],_=>none
 |p::r,t=>cond (aW p.1 t) (aa p.2) (aF r t)
def bP:List Nat->Nat->Bool
 |[],_=>ae
 |p::r,t=>cond (aW p t) ab (bP r t)
inductive Out|normal|exit (id:Nat)|goto (l:Nat)|ret
def Out.beq:Out->Out->Bool
 | .normal,.normal=>ab
 | .exit a,.exit b=>aW a b
 | .goto a,.goto b=>aW a b
 | .ret,.ret=>ab
 |_,_=>ae
inductive P0|ptr (i off:Nat)|rp (i n:Nat) (K:List Nat)
inductive P1
 |h (i:Nat) (K:List Nat)
 |hb (i j:Nat) (K:List Nat)
 |ptr (i off:Nat)
 |own (i:Nat)
 |rp (i n:Nat) (K:List Nat)
 |fn (f:Nat) (jo:List P0)
 |bH
 |sF
 |any
 |wU
inductive PC|one (p:P1)|agg (ps:List P1)
inductive PO|box (ps:List P1)|sl (n T i:Nat) (K:List Nat)|df (n T Tc m i:Nat)|mp (n i:Nat)
structure J where
 cP:List Ht
 sl:List (Nat×PC)
 ob:List (Nat×PO)
 mv:List Nat
 nx:Nat
structure az(D:Nat->Type)where
 f:Nat
 ins:List Ht
 outs:List Ht
 args:List PC
 ob:List (Nat×PO)
 kl:List PC
 cn:List (Nat×PO)
 fn:HH D ins->Option (HH D outs)
inductive Sg|nil|tL (s m:Nat) (j:J) (inner next:Sg)|xW (s:Nat) (l:List Nat) (next:Sg)
inductive An
 |o
 |n (cut:Option (Bool×List (Out×J))) (a b:An)
 |r (cut:Option (Bool×List (Out×J))) (s:Sg)
 |loop (j:J) (pr:Bool) (E:List (Out×J)) (a:An)
 |f (l:List Nat) (a:An)
 |lab (j:J) (pr:Bool) (E:List (Out×J)) (a:An)
def An.fz:An->List Nat
 | .f l _=>l
 |_=>[]
def An.un:An->An
 | .f _ a=>a
 |a=>a
def An.cut:An->Option (Bool×List (Out×J))
 | .n c _ _=>c
 | .r c _=>c
 |_=>none
def An.a:An->An
 | .n _ a _=>a
 |_=> .o
def An.b:An->An
 | .n _ _ b=>b
 |_=> .o
def An.sg:An->Sg
 | .r _ s=>s
 |_=> .nil
section
variable {D:Nat->Type}
def Q.bind{α β:Type}:Q D α->(α->Q D β)->Q D β
 | .ret a,f=>f a
 | .fail,_=> .fail
 | .obj i k,f=> .obj i λx=>(k x).bind f
 | .part o k,f=> .part o λy=>(k y).bind f
def dC(ob:List (Nat×Option (AO D)))(i:Nat):Option (AO D):=match aF ob i with
 |some (aa x)=>aa x
 |_=>none
def Q.go{ρ α:Type}(ob:List (Nat×Option (AO D))):Q D α->List Nat->(α->List Nat->Option ρ)->Option ρ
 | .ret a,lg,k=>k a lg
 | .fail,_,_=>none
 | .obj i f,lg,k=>match dC ob i with
   |some x=>(f x).go ob (i::lg) k
   |none=>none
 | .part o f,lg,k=>nL o λy=>(f y).go ob lg k
def toHL:(ts:List Lf)->List (DV D)->Option (HL D ts)
 |[],l=>match l with
  |[]=>aa ()
  |_=>none
 |l::r,ds=>match r,ds with
  |[],[⟨l',d⟩]=>if h:l'=l then aa (h▸d)else none
  |m::r',⟨l',d⟩::rR=>if h:l'=l then match toHL (m::r') rR with
   |some x=>aa (h▸d,x)
   |none=>none
   else none
  |_,_=>none
def tO:(ts:List Lf)->HL D ts->List (DV D)
 |[],_=>[]
 |l::r,x=>match r,x with
  |[],x=>[⟨l,x⟩]
  |m::r',x=>⟨l,x.1⟩::tO (m::r') x.2
def bc.out(T:bc D)(n:Nat)(x:D n):List (DV D):=tO (T.lv n) (T.DI n x)
def bc.jf(T:bc D)(n:Nat)(l:List (DV D)):Option (D n):=match toHL (T.lv n) l with
 |some h=>aa (T.AA n h)
 |none=>none
def xV(T:bc D):(t:Ht)->List (DV D)->Option (t.den D×List (DV D))
 | .lf l,⟨l',d⟩::r=>if h:l'=l then aa (h▸d,r)else none
 | .lf _,[]=>none
 | .el n,ds=>match T.jf n (ds.take (T.lv n).length)with
   |some x=>aa (x,ds.drop (T.lv n).length)
   |none=>none
def toHH(T:bc D):(ts:List Ht)->List (DV D)->Option (HH D ts)
 |[],l=>match l with
  |[]=>aa ()
  |_=>none
 |t::r,ds=>match r with
  |[]=>match xV T t ds with
   |some (x,[])=>aa x
   |_=>none
  |m::r'=>match xV T t ds with
   |some (x,rR)=>match toHH T (m::r') rR with
    |some y=>aa (x,y)
    |none=>none
   |none=>none
def Mz(T:bc D):(t:Ht)->t.den D->List (DV D)
 | .lf l,x=>[⟨l,x⟩]
 | .el n,x=>T.out n x
def dK(T:bc D):(ts:List Ht)->HH D ts->List (DV D)
 |[],_=>[]
 |t::r,x=>match r,x with
  |[],x=>Mz T t x
  |m::r',x=>Mz T t x.1++dK T (m::r') x.2
def Ht.lfs(T:bc D):Ht->List Lf
 | .lf l=>[l]
 | .el n=>T.lv n
def tys(T:bc D):List Ht->List Lf
 |[]=>[]
 |t::r=>t.lfs T++tys T r
structure M(D:Nat->Type)where
 call:Bool
 xb:Nat
 tl:List Lf
 po:List (Nat×PO)
 ids:List (Nat×Nat)
 fu:List (Nat×DV D)
 ku:List Nat
 kr:List Nat
 new:List (Nat×AO D)
 nf:Nat
def Gt(K K':List Nat):Bool:=K.all (bP K')
def M.dv(m:M D)(i:Nat)(d:DV D):M D:={m with fu:=(i,d)::m.fu}
def M.reads(m:M D)(K:List Nat):M D:={m with kr:=K++m.kr}
def M.uZ(m:M D)(i:Nat):M D:={m with ku:=i::m.ku}
def M.may(m:M D)(K Kp:List Nat):Bool:=if m.call then K.isEmpty||bP Kp 0 else Gt K Kp
def M.bind(m:M D)(p i:Nat):Q D (M D):=match aF m.ids p with
 |some i'=>if aW i' i then .ret m else .fail
 |none=>if bP (m.po.map bV) p then(if bP (m.ids.map oY) i then .fail else .ret {m with ids:=(p,i)::m.ids})
  else if !m.call&&aW p i&&dJ p m.xb then .ret m else .fail
def B7:AO D->Option (DV D×List Nat)
 | .sl n _ xs K _=>aa (⟨.sl n,xs⟩,K)
 | .df n _ _ _ xs _ _=>aa (⟨.sl n,xs⟩,[])
 |_=>none
def PS:AO D->Option (DV D×List Nat)
 | .fz n xs K=>aa (⟨.sl n,xs⟩,K)
 |_=>none
def wN(m:M D)(i:Nat)(Kp:List Nat):A1 D->Q D (M D)
 | .v l d K _=>if m.may K Kp then .ret ((m.dv i ⟨l,d⟩).reads K)else .fail
 | .vb n xs K _ _=>if m.may K Kp then .ret ((m.dv i ⟨.sl n,xs⟩).reads K)else .fail
 | .bH=>match m.tl[i]? with
   |some (.sl n)=> .ret (m.dv i ⟨.sl n,[]⟩)
   |_=> .fail
 | .own j=> .obj j λo=>match PS o with
   |some (d,K)=>if m.may K Kp then .ret ((m.dv i d).reads K)else .fail
   |none=>match B7 o with
    |some (d,K)=>if m.may (1::K) Kp then .ret (((m.dv i d).reads K).uZ j)else .fail
    |none=> .fail
 | .ch i' n j off ct q d=> .obj i' λ
   | .df n' _ _ q' _ _ ht=>if aW n n'&&aW q q'&&aW ct ht&&m.may [1] Kp then .ret ((m.dv i ⟨.sl q,d⟩).uZ i')else .fail
   |_=> .fail
 |_=> .fail
def L_(Kp:List Nat):M D->Nat->List (A1 D)->Q D (M D)
 |m,_,[]=> .ret m
 |m,i,a::r=>(wN m i Kp a).bind λm=>L_ Kp m (i+1) r
def wM:M D->Nat->List (DV D)->M D
 |m,_,[]=>m
 |m,i,d::r=>wM (m.dv i d) (i+1) r
def MO(T:bc D)(m:M D)(i n:Nat)(Kp:List Nat)(n':Nat)(x:D n')(off:Nat)(K:List Nat):Q D (M D):=
 if aW n n'&&aW off 0&&m.may K Kp then .ret ((wM m i (T.out n' x)).reads K)else .fail
def Tw(T:bc D)(m:M D)(i n:Nat)(Kp:List Nat)(j:Nat):Q D (M D):= .obj j λ
 | .box cs=>if aW cs.length (T.lv n).length&&m.may [1] Kp then(L_ Kp (m.uZ j) i cs)else .fail
 |_=> .fail
def storable:A1 D->Bool
 | .undef=>ae
 | .ch .. =>ae
 | .zh .. =>ae
 | .tail .. =>ae
 | .pre .. =>ae
 | .tt .. =>ae
 | .zS=>ae
 |_=>ab
def m0(T:bc D)(m:M D):P0->A0 D->Q D (M D)
 | .ptr p off,.ptr i vr=>if aW off vr then m.bind p i else .fail
 | .rp i n Kp,.rp n' x off K=>MO T m i n Kp n' x off K
 | .rp i n Kp,.ptr j off=>if aW off 0 then Tw T m i n Kp j else .fail
 |_,_=> .fail
def MR(T:bc D):M D->List P0->List (A0 D)->Q D (M D)
 |m,[],[]=> .ret m
 |m,p::ps,a::as=>(m0 T m p a).bind λm=>MR T m ps as
 |_,_,_=> .fail
def m1(T:bc D)(m:M D):P1->A1 D->Q D (M D)
 | .h i K,a=>wN m i K a
 | .hb i j K,.vb n xs K' _ b=>(wN m i K (.v (.sl n) xs K' 0)).bind λm=> .ret (m.dv j ⟨.bool,b⟩)
 | .hb i j K,.bH=>(wN m i K .bH).bind λm=> .ret (m.dv j ⟨.bool,ab⟩)
 | .hb i j K,.own q=> .obj q λ
   | .sl _ _ xs _ _=> .part (neO xs) λ_=>(wN m i K (.own q)).bind λm=> .ret (m.dv j ⟨.bool,ae⟩)
   |_=> .fail
 | .ptr p off,.ptr i vr=>if aW off vr then m.bind p i else .fail
 | .own p,.own i=>m.bind p i
 | .own p,.bH=>match aF m.po p with
   |some (.sl n t _ _)=>{m with new:=(m.nf,.sl n t [] [] 0)::m.new,nf:=m.nf+1}.bind p m.nf
   |_=> .fail
 | .rp i n Kp,.rp n' x off K=>MO T m i n Kp n' x off K
 | .rp i n Kp,.ptr j off=>if aW off 0 then Tw T m i n Kp j else .fail
 | .fn f ps,.fn f' as=>if aW f f' then MR T m ps as else .fail
 | .bH,.bH=> .ret m
 | .sF,.sF=> .ret m
 | .any,_=> .ret m
 | .wU,a=>if storable a then .ret m else .fail
 |_,_=> .fail
def Hp(T:bc D):M D->List P1->List (A1 D)->Q D (M D)
 |m,[],[]=> .ret m
 |m,p::ps,a::as=>(m1 T m p a).bind λm=>Hp T m ps as
 |_,_,_=> .fail
def mC(T:bc D)(m:M D):PC->AV D->Q D (M D)
 | .one p,.c (.one a)=>m1 T m p a
 | .agg ps,.c (.agg l)=>Hp T m ps l
 | .one .any,_=> .ret m
 |_,_=> .fail
def MQ(T:bc D):M D->List PC->List (AV D)->Q D (M D)
 |m,[],[]=> .ret m
 |m,p::ps,a::as=>(mC T m p a).bind λm=>MQ T m ps as
 |_,_,_=> .fail
def mO(T:bc D)(m:M D):PO->AO D->Q D (M D)
 | .box ps,.box cs=>Hp T m ps cs
 | .sl n t i Kp,.sl n' t' xs K _=>if aW n n'&&aW t t'&&m.may K Kp then .ret ((m.dv i ⟨.sl n',xs⟩).reads K)else .fail
 | .df n t tc q i,.df n' t' xX q' xs _ _=>if aW n n'&&aW t t'&&aW tc xX&&aW q q' then .ret (m.dv i ⟨.sl n',xs⟩)else .fail
 | .mp n i,.mp n' xs=>if aW n n' then .ret (m.dv i ⟨.sl n',xs⟩)else .fail
 |_,_=> .fail
def DP(T:bc D):M D->List (Nat×PO)->Q D (M D)
 |m,[]=> .ret m
 |m,(p,po)::r=>match aF m.ids p with
  |none=> .fail
  |some i=>match aF m.new i with
   |some ao=>(mO T m po ao).bind λm=>DP T m r
   |none=> .obj i λao=>(mO T m po ao).bind λm=>DP T m r
def MX(fu:List (Nat×DV D)):Nat->Nat->Option (List (DV D))
 |_,0=>aa []
 |i,n+1=>match aF fu i,MX fu (i+1) n with
  |some d,aa r=>aa (d::r)
  |_,_=>none
def mZ:List Nat->Bool
 |[]=>ab
 |x::r=> !(bP r x)&&mZ r
def qS(a b:List Nat):Bool:=a.all λx=> !(bP b x)
def yE:P1->List Nat
 | .h _ K=>K
 | .hb _ _ K=>K
 | .rp _ _ K=>K
 | .fn _ ps=>ps.flatMap λ| .rp _ _ K=>K|_=>[]
 |_=>[]
def tT:PC->List Nat
 | .one p=>yE p
 | .agg ps=>ps.flatMap yE
def tS:PO->List Nat
 | .box ps=>ps.flatMap yE
 | .sl _ _ _ K=>K
 | .df .. =>[]
 | .mp .. =>[]
def tU(yr:List PC)(po:List (Nat×PO)):Bool:=(yr.flatMap tT).all (λx=>dJ x 2)&&(po.flatMap λp=>tS p.2).all λx=>dJ x 2
def M.ok(m:M D)(po:List (Nat×PO)):Bool:=mZ (m.fu.map bV)&&m.fu.all (λp=>dJ p.1 m.tl.length)&&qS (m.ids.map oY) m.ku&&mZ (m.ids.map bV)&&mZ (m.ids.map oY)&&m.ids.all (λp=>eN 1000 p.2)&&m.ku.all (eN 1000)&&m.ids.all (λp=>bP (po.map bV) p.1)&&m.kr.all (λx=>dJ x 2)
def BI(T:bc D)(call:Bool)(xb:Nat)(cP:List Ht)(yr:List PC)(po:List (Nat×PO))(vB:List (Nat×Nat))(nf:Nat)(fp:List (AV D)):Q D (HH D cP×M D):=
 (MQ T ⟨call,xb,tys T cP,po,vB,[],[],[],[],nf⟩ yr fp).bind λm=>(DP T m po).bind λm=>
   if m.ok po&&tU yr po then match MX m.fu 0 m.tl.length with
    |some l=>match toHH T cP l with
     |some h=> .ret (h,m)
     |none=> .fail
    |none=> .fail
   else .fail
section
variable (T:bc D) (fl:List (DV D)) (ri:Nat->Option Nat) (rK:List Nat->List Nat) (tg:Nat)
def wW:P0->Option (A0 D)
 | .ptr p off=>match ri p with
   |some i=>aa (.ptr i off)
   |none=>none
 | .rp i n K=>match T.jf n ((fl.drop i).take (T.lv n).length)with
   |some x=>aa (.rp n x 0 (rK K))
   |none=>none
def yH:List P0->Option (List (A0 D))
 |[]=>aa []
 |p::r=>match wW T fl ri rK p,yH r with
  |some a,aa b=>aa (a::b)
  |_,_=>none
def jg:P1->Option (A1 D)
 | .h i K=>match fl[i]? with
   |some ⟨l,d⟩=>aa (.v l d (AK (rK K) l) (tg+i))
   |none=>none
 | .hb i j K=>match fl[i]?,fl[j]? with
   |some ⟨.sl n,xs⟩,aa ⟨.bool,b⟩=>aa (.vb n xs (rK K) (tg+i) b)
   |_,_=>none
 | .ptr p off=>match ri p with
   |some i=>aa (.ptr i off)
   |none=>none
 | .own p=>match ri p with
   |some i=>aa (.own i)
   |none=>none
 | .rp i n K=>match T.jf n ((fl.drop i).take (T.lv n).length)with
   |some x=>aa (.rp n x 0 (rK K))
   |none=>none
 | .fn f ps=>match yH T fl ri rK ps with
   |some cs=>aa (.fn f cs)
   |none=>none
 | .bH=>aa .bH
 | .sF=>aa .sF
 | .any=>aa .zS
 | .wU=>aa .wU
def wV:List P1->Option (List (A1 D))
 |[]=>aa []
 |p::r=>match jg T fl ri rK tg p,wV r with
  |some a,aa b=>aa (a::b)
  |_,_=>none
def vA:PC->Option (AC D)
 | .one p=>match jg T fl ri rK tg p with
   |some a=>aa (.one a)
   |none=>none
 | .agg ps=>match wV T fl ri rK tg ps with
   |some l=>aa (.agg l)
   |none=>none
def im:List PC->Option (List (AC D))
 |[]=>aa []
 |p::r=>match vA T fl ri rK tg p,im r with
  |some a,aa b=>aa (a::b)
  |_,_=>none
def qy(l:List (Nat×PC)):Option (List (Nat×AV D)):=match im T fl ri rK tg (l.map oY)with
 |some as=>aa (sk (l.map bV) as)
 |none=>none
where sk:List Nat->List (AC D)->List (Nat×AV D)
 |t::ts,a::as=>(t,.c a)::sk ts as
 |_,_=>[]
def qz:PO->Option (AO D)
 | .box ps=>match wV T fl ri rK tg ps with
   |some l=>if l.all storable then aa (.box l)else none
   |none=>none
 | .sl n t i K=>match fl[i]? with
   |some ⟨.sl n',xs⟩=>if aW n n' then aa (.sl n' t xs (rK K) (tg+i))else none
   |_=>none
 | .df n t tc q i=>match fl[i]? with
   |some ⟨.sl n',xs⟩=>if aW n n' then aa (.df n' t tc q xs (tg+i) 0)else none
   |_=>none
 | .mp n i=>match fl[i]? with
   |some ⟨.sl n',xs⟩=>if aW n n' then aa (.mp n' xs)else none
   |_=>none
def jN:List (Nat×PO)->Option (List (Nat×Option (AO D)))
 |[]=>aa []
 |(p,po)::r=>match ri p,qz T fl ri rK tg po,jN r with
  |some i,aa a,aa b=>aa ((i,aa a)::b)
  |_,_,_=>none
end
def J.fU(j:J):List (Nat×Nat):=(j.ob.filter λp=>bP j.mv p.1).map λp=>(p.1,p.1)
def B6(sl:List (Nat×AV D)):List (Nat×PC)->Option (List (AV D))
 |[]=>aa []
 |(t,_)::r=>match aF sl t,B6 sl r with
  |some a,aa b=>aa (a::b)
  |_,_=>none
def qO{ρ:Type}(T:bc D)(j:J)(σ:S D)(k:HH D j.cP->Option ρ):Option ρ:=match B6 σ.sl j.sl with
 |some fp=>(BI T ae j.nx j.cP (j.sl.map oY) j.ob j.fU σ.nx fp).go σ.ob [] λx _=>
  if qS (x.2.ids.map oY) σ.lk&&qS x.2.ku σ.lk then k x.1 else none
 |none=>none
def kept(σ:S D)(mv:List Nat):List (Nat×Option (AO D)):=σ.ob.filter λp=> !(bP mv p.1)
def lF(T:bc D)(j:J)(wr:List Nat)(mv:List Nat)(σ:S D)(h:HH D j.cP):Option (S D):=
 let fl:=dK T j.cP h
 if eN σ.nx j.nx&&j.ob.all (λp=>dJ p.1 j.nx&&(eN σ.nx p.1||bP j.mv p.1)&& !(bP ((kept σ mv).map bV++σ.lk) p.1))&&j.sl.all (λp=>bP wr p.1)&&qS mv σ.lk then
  match qy T fl aa id j.nx j.sl,jN T fl aa id j.nx j.ob with
  |some a,aa b=>aa ⟨a++σ.sl.filter (λp=> !(bP wr p.1)),b++kept σ mv,j.nx+fl.length,σ.lk⟩
  |_,_=>none
 else none
def wc(D:Nat->Type)(pr:Bool)(ρ:Type):List (Out×J)->Type
 |[]=>ρ
 |(_,j)::r=>match pr,r with
  |true,[]=>HH D j.cP
  |_,_=>HH D j.cP⊕wc D pr ρ r
def toE(T:bc D)(pr:Bool){ρ:Type}:(E:List (Out×J))->Out->S D->Option ρ->Option (wc D pr ρ E)
 |[],_,_,k=>k
 |(o',j)::r,o,σ,k=>match pr,r with
  |true,[]=>if o.beq o' then qO T j σ aa else none
  |false,r=>if o.beq o' then qO T j σ (λh=>aa (.inl h))else match toE T ae r o σ k with
   |some x=>aa (.inr x)
   |none=>none
  |true,x::r=>if o.beq o' then qO T j σ (λh=>aa (.inl h))else match toE T ab (x::r) o σ k with
   |some x=>aa (.inr x)
   |none=>none
def IE{ρ:Type}(T:bc D)(j:J)(wr mv:List Nat)(σ:S D)(k:S D->Option ρ)(h:HH D j.cP):Option ρ:=match lF T j wr mv σ h with
 |some be=>k be
 |none=>none
def sU(T:bc D)(pr:Bool){ρ:Type}(wr mv:List Nat)(σ:S D)(k:Out->S D->Option ρ):(E:List (Out×J))->wc D pr ρ E->Option ρ
 |[],x=>aa x
 |(o,j)::r,x=>match pr,r,x with
  |true,[],x=>IE T j wr mv σ (k o) x
  |false,r,x=>DL (IE T j wr mv σ (k o)) (λy=>sU T ae wr mv σ k r y) x
  |true,y::r,x=>DL (IE T j wr mv σ (k o)) (λz=>sU T ab wr mv σ k (y::r) z) x
def ru:List (Out×J)->List Nat
 |[]=>[]
 |(_,j)::r=>j.mv++ru r
def asB(σ:S D)(mv:List Nat):S D:={σ with lk:=(kept σ mv).map bV++σ.lk}
def wrap(T:bc D)(wr:List Nat)(cut:Option (Bool×List (Out×J))){ρ:Type}(body:∀{jv:Type},S D->(Out->S D->Option jv)->Option jv)(σ:S D)(k:Out->S D->Option ρ):Option ρ:=match cut with
 |none=>body σ k
 |some (pr,E)=>nL (body (asB σ (ru E)) λo be=>toE T pr E o be (k o {be with lk:=σ.lk})) λx=>sU T pr wr (ru E) σ k E x
