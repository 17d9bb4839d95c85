import Derived.Test.YtmngjhagbjgmfaaGreatKd
import Derived.KernelRfl
set_option linter.all false
open Bool renaming false->ai,true->ab
open ByteArray renaming empty->tv
open Decidable renaming decide->al
open List renaming replicate->cU
open Nat renaming beq->aU,ble->eh,blt->dz
open Option renaming none->ak,some->aa
open Prod renaming fst->bT,snd->oT
namespace Go.Proofs.YtmngjhagbjgmfaaGreat
open Go Dp
def mz{α:Type}(z:α)(n:Int):Option (List α):=if 0<=n∧n<=1073741824 then aa (cU n.toNat z)else ak
def Ah{α:Type}(z:α)(n:Int):Option (List α):=if 0<n∧n<=1073741824 then aa (cU n.toNat z)else ak
namespace Rx
abbrev nD{α β:Type}(o:Option α)(f:α->Option β):Option β:=o.bind f
abbrev Dg{α β γ:Type}(f:α->γ)(g:β->γ)(x:α⊕β):γ:=Sum.elim f g x
abbrev Ez{α:Type}(c:Bool)(a b:α):α:=Decidable.casesOn (motive:=λ_=>α) (instDecidableEqBool c ab) (λ_=>b) (λ_=>a)
abbrev asy(a b:Int):Int:=W (a+b)
abbrev ar2(a b:Int):Int:=W (a-b)
abbrev ass(a b:Int):Int:=W (a*b)
abbrev asg(a:Int):Int:=W (-a)
abbrev Mr(a b:Int):Bool:=a==b
abbrev ine(a b:Int):Bool:=a !=b
abbrev ilt(a b:Int):Bool:=al (a<b)
abbrev ile(a b:Int):Bool:=al (a<=b)
abbrev igt(a b:Int):Bool:=al (a>b)
abbrev ige(a b:Int):Bool:=al (a>=b)
abbrev G_(a b:Int):Int:=a+b
abbrev ab'(a b:Int):Int:=a-b
abbrev asr(a b:Int):Int:=a*b
abbrev ru(k:IntKind)(a:Int):Int:=k.wrap a
abbrev Ts(k:IntKind)(a b:Int):Int:=k.wrap ((BitVec.ofInt k.bits a&&&BitVec.ofInt k.bits b).toNat:Int)
abbrev ae3{α:Type}(xs:List α)(j:Int)(ys:List α):List α:=xs.take j.toNat++(ys.take (xs.length-j.toNat)++xs.drop (j.toNat+ys.length))
abbrev VM(n j m:Int):Int:=if m<n-j then m else n-j
abbrev rO{α:Type}(z:α)(xs:List α)(j:Int):List α:=xs.take j.toNat++cU (xs.length-j.toNat) z
abbrev yN(a b:Int):Option Unit:=if a=b then aa ()else ak
abbrev CB{α:Type}(xs:List α)(j:Int):List α:=xs.take j.toNat
abbrev uz{α:Type}(xs:List α)(j:Int):List α:=xs.drop j.toNat
abbrev wD(n:Nat)(a b:Int):Option Int:=if b<0 then ak else aa (a.fdiv (2^min b.toNat n))
abbrev beq'(a b:Bool):Bool:=a==b
abbrev EY(a:Bool):Bool:= !a
abbrev O3(a b:Bool):Bool:=a&&b
abbrev eA(p q:Int):Int:=if q<p then q else p
abbrev imax(p q:Int):Int:=if p<q then q else p
abbrev C0(a b:ByteArray):Bool:=a==b
abbrev d_(l:List Nat):ByteArray:=⟨(l.map UInt8.ofNat).toArray⟩
abbrev KT(a b:ByteArray):Option ByteArray:=if a.size+b.size<=1073741824 then aa (a++b)else ak
abbrev rh(a:ByteArray):Int:=(a.size:Int)
abbrev KR(s:ByteArray)(j:Int):Option Int:=if 0<=j then(match s.data[j.toNat]? with|some b=>aa (b.toNat:Int)|none=>ak)else ak
abbrev KS{α:Type}(mk:Int->α)(s:ByteArray):Option (List α):=if s.size<=1073741824 then aa (s.data.toList.map λb=>mk (b.toNat:Int))else ak
abbrev xp{α:Type}(f:α->Int)(xs:List α):ByteArray:=(xs.map f).foldl (λr n=>r.push (UInt8.ofNat n.toNat)) tv
abbrev neO{α:Type}(xs:List α):Option Unit:=match xs with
 |[]=>ak
 |_::_=>aa ()
def yf{α β:Type}(f:α->Bool)(v:α->β)(z:β)(xs:List α):β:=match xs.find? f with
 |some x=>v x
 |none=>z
def Dj{α:Type}(f:α->Bool)(xs:List α):Bool:=xs.any f
def Ag{α:Type}(f:α->Bool)(z:α)(xs:List α):List α:=if xs.any f=ab then xs.map λx=>if f x=ab then z else x else xs++[z]
def nE{σ ρ:Type}(step:σ->Option (σ⊕ρ))(n:Nat):σ->Option ρ:=Nat.rec (motive:=λ_=>σ->Option ρ) (λ_=>ak) (λ_ ih s=>match step s with
 |some (.inl s')=>ih s'
 |some (.inr r)=>aa r
 |none=>ak) n
def aJ{σ ρ:Type}(step:σ->Option (σ⊕ρ))(s:σ):Option ρ:=nE step 18446744073709551616 s
inductive Lf|int (k:IntKind)|bool|str|sl (n:Nat)
deriving DecidableEq
inductive Ht|lf (l:Lf)|el (n:Nat)
section
variable (D:Nat->Type)
@[reducible] def Lf.den:Lf->Type
  | .int _=>Int
  | .bool=>Bool
  | .str=>ByteArray
  | .sl n=>List (D n)
@[reducible] def Ht.den:Ht->Type
  | .lf l=>l.den D
  | .el n=>D n
def HL:List Lf->Type
 |[]=>Unit
 |l::r=>match r with
  |[]=>l.den D
  |_::_=>l.den D×HL r
def HH:List Ht->Type
 |[]=>Unit
 |l::r=>match r with
  |[]=>l.den D
  |_::_=>l.den D×HH r
structure DV where
 l:Lf
 d:l.den D
inductive A0
 |ptr (i off:Nat)
 |rp (n:Nat) (x:D n) (off:Nat) (K:List Nat)
inductive A1
 |v (l:Lf) (d:l.den D) (K:List Nat) (g:Nat)
 |vb (n:Nat) (xs:List (D n)) (K:List Nat) (g:Nat) (b:Bool)
 |ptr (i off:Nat)
 |el (i n:Nat) (j:Int) (y:D n) (off tc tj:Nat)
 |rp (n:Nat) (x:D n) (off:Nat) (K:List Nat)
 |own (i:Nat)
 |fn (f:Nat) (jf:List (A0 D))
 |ch (i n:Nat) (j:Int) (off ct m:Nat) (d:List (D m))
 |yX (i t:Nat)
 |tail (i n:Nat) (j:Int)
 |pre (i n:Nat) (j:Int)
 |wP
 |uC (n:Nat) (xs:List (D n)) (K:List Nat)
 |bF
 |sx
 |Dh
 |undef
 |zD
inductive AC|one (a:A1 D)|agg (l:List (A1 D))
inductive AV|c (x:AC D)|dX (l:List (AC D))
inductive AO
 |box (cs:List (A1 D))
 |sl (n T:Nat) (xs:List (D n)) (K:List Nat) (g:Nat)
 |cZ (n T Tc m:Nat) (xs:List (D n)) (g ht:Nat)
 |iu (n T Tc m:Nat) (xs:List (D n)) (j:Int) (off t g:Nat)
 |fz (n:Nat) (xs:List (D n)) (K:List Nat)
 |mp (n:Nat) (xs:List (D n))
inductive Q(α:Type):Type 1
 |ret (a:α)
 |fail
 |obj (i:Nat) (k:AO D->Q α)
 |part {β:Type} (o:Option β) (k:β->Q α)
inductive kZ|one (l:Lf)|st (n:Nat)|ptr|fn
structure bc where
 lv:Nat->List Lf
 ag:Nat->Bool
 Dd:∀n,D n->HL D (lv n)
 Ai:∀n,HL D (lv n)->D n
 zero:∀n,D n
 ty:List (Nat×kZ)
 uu:List (Nat×List (Nat×Nat))
 dh:List (Nat×Nat×Nat)
 Bs:List (Nat×List Lf)
 kd:List (Nat×Nat×Nat)
 qO:List (Nat×Nat×Nat×Nat)
 pre:List Nat
 qf:List (Nat×Nat×Nat×Nat)
structure S where
 sl:List (Nat×AV D)
 ob:List (Nat×Option (AO D))
 nx:Nat
 lk:List Nat
structure cY where
 dst:AV D
 sq:List (Nat×Option (AO D))
 fz:List Nat
end
def As(K:List Nat):Lf->List Nat
 | .sl _=>K
 |_=>[]
def aF{α:Type}:List (Nat×α)->Nat->Option α
 |[],_=>ak
 |p::r,t=>cond (aU p.1 t) (aa p.2) (aF r t)
def bN:List Nat->Nat->Bool
 |[],_=>ai
 |p::r,t=>cond (aU p t) ab (bN r t)
inductive Out|normal|exit (id:Nat)|goto (l:Nat)|ret
def Out.beq:Out->Out->Bool
 | .normal,.normal=>ab
 | .exit a,.exit b=>aU a b
 | .goto a,.goto b=>aU a b
 | .ret,.ret=>ab
 |_,_=>ai
inductive P0|ptr (i off:Nat)|rp (i n:Nat) (K:List Nat)
inductive P1
 |h (i:Nat) (K:List Nat)
 |hb (i j:Nat) (K:List Nat)
 |ptr (i off:Nat)
 |own (i:Nat)
 |rp (i n:Nat) (K:List Nat)
 |fn (f:Nat) (jf:List P0)
 |bF
 |sx
 |any
 |wP
inductive PC|one (p:P1)|agg (ps:List P1)
inductive PO|box (ps:List P1)|sl (n T i:Nat) (K:List Nat)|cZ (n T Tc m i:Nat)|mp (n i:Nat)
structure J where
 cM:List Ht
 sl:List (Nat×PC)
 ob:List (Nat×PO)
 mv:List Nat
 nx:Nat
structure aA(D:Nat->Type)where
 f:Nat
 ins:List Ht
 outs:List Ht
 args:List PC
 ob:List (Nat×PO)
 jU:List PC
 b8:List (Nat×PO)
 fn:HH D ins->Option (HH D outs)
inductive Sg|nil|tN (s m:Nat) (j:J) (inner next:Sg)|xG (s:Nat) (l:List Nat) (next:Sg)
inductive An
 |o
 |n (cut:Option (Bool×List (Out×J))) (a b:An)
 |r (cut:Option (Bool×List (Out×J))) (s:Sg)
 |loop (j:J) (pr:Bool) (E:List (Out×J)) (a:An)
 |f (l:List Nat) (a:An)
 |lab (j:J) (pr:Bool) (E:List (Out×J)) (a:An)
def An.fz:An->List Nat
 | .f l _=>l
 |_=>[]
def An.un:An->An
 | .f _ a=>a
 |a=>a
def An.cut:An->Option (Bool×List (Out×J))
 | .n c _ _=>c
 | .r c _=>c
 |_=>ak
def An.a:An->An
 | .n _ a _=>a
 |_=> .o
def An.b:An->An
 | .n _ _ b=>b
 |_=> .o
def An.sg:An->Sg
 | .r _ s=>s
 |_=> .nil
section
variable {D:Nat->Type}
def Q.bind{α β:Type}:Q D α->(α->Q D β)->Q D β
 | .ret a,f=>f a
 | .fail,_=> .fail
 | .obj i k,f=> .obj i λx=>(k x).bind f
 | .part o k,f=> .part o λy=>(k y).bind f
def dw(ob:List (Nat×Option (AO D)))(i:Nat):Option (AO D):=match aF ob i with
 |some (aa x)=>aa x
 |_=>ak
def Q.go{ρ α:Type}(ob:List (Nat×Option (AO D))):Q D α->List Nat->(α->List Nat->Option ρ)->Option ρ
 | .ret a,lg,k=>k a lg
 | .fail,_,_=>ak
 | .obj i f,lg,k=>match dw ob i with
   |some x=>(f x).go ob (i::lg) k
   |none=>ak
 | .part o f,lg,k=>nD o λy=>(f y).go ob lg k
def toHL:(ts:List Lf)->List (DV D)->Option (HL D ts)
 |[],l=>match l with
  |[]=>aa ()
  |_=>ak
 |l::r,ds=>match r,ds with
  |[],[⟨l',d⟩]=>if h:l'=l then aa (h▸d)else ak
  |m::r',⟨l',d⟩::rM=>if h:l'=l then match toHL (m::r') rM with
   |some x=>aa (h▸d,x)
   |none=>ak
   else ak
  |_,_=>ak
def tS:(ts:List Lf)->HL D ts->List (DV D)
 |[],_=>[]
 |l::r,x=>match r,x with
  |[],x=>[⟨l,x⟩]
  |m::r',x=>⟨l,x.1⟩::tS (m::r') x.2
def bc.out(T:bc D)(n:Nat)(x:D n):List (DV D):=tS (T.lv n) (T.Dd n x)
def bc.iX(T:bc D)(n:Nat)(l:List (DV D)):Option (D n):=match toHL (T.lv n) l with
 |some h=>aa (T.Ai n h)
 |none=>ak
def xF(T:bc D):(t:Ht)->List (DV D)->Option (t.den D×List (DV D))
 | .lf l,⟨l',d⟩::r=>if h:l'=l then aa (h▸d,r)else ak
 | .lf _,[]=>ak
 | .el n,ds=>match T.iX n (ds.take (T.lv n).length)with
   |some x=>aa (x,ds.drop (T.lv n).length)
   |none=>ak
def toHH(T:bc D):(ts:List Ht)->List (DV D)->Option (HH D ts)
 |[],l=>match l with
  |[]=>aa ()
  |_=>ak
 |t::r,ds=>match r with
  |[]=>match xF T t ds with
   |some (x,[])=>aa x
   |_=>ak
  |m::r'=>match xF T t ds with
   |some (x,rM)=>match toHH T (m::r') rM with
    |some y=>aa (x,y)
    |none=>ak
   |none=>ak
def LM(T:bc D):(t:Ht)->t.den D->List (DV D)
 | .lf l,x=>[⟨l,x⟩]
 | .el n,x=>T.out n x
def dH(T:bc D):(ts:List Ht)->HH D ts->List (DV D)
 |[],_=>[]
 |t::r,x=>match r,x with
  |[],x=>LM T t x
  |m::r',x=>LM T t x.1++dH T (m::r') x.2
def Ht.lfs(T:bc D):Ht->List Lf
 | .lf l=>[l]
 | .el n=>T.lv n
def Zv(T:bc D):List Ht->List Lf
 |[]=>[]
 |t::r=>t.lfs T++Zv T r
structure M(D:Nat->Type)where
 call:Bool
 xb:Nat
 tl:List Lf
 po:List (Nat×PO)
 ids:List (Nat×Nat)
 ft:List (Nat×DV D)
 ku:List Nat
 kr:List Nat
 new:List (Nat×AO D)
 nf:Nat
def FX(K K':List Nat):Bool:=K.all (bN K')
def M.dv(m:M D)(i:Nat)(d:DV D):M D:={m with ft:=(i,d)::m.ft}
def M.reads(m:M D)(K:List Nat):M D:={m with kr:=K++m.kr}
def M.uV(m:M D)(i:Nat):M D:={m with ku:=i::m.ku}
def M.may(m:M D)(K Kp:List Nat):Bool:=if m.call then K.isEmpty||bN Kp 0 else FX K Kp
def M.bind(m:M D)(p i:Nat):Q D (M D):=match aF m.ids p with
 |some i'=>if aU i' i then .ret m else .fail
 |none=>if bN (m.po.map bT) p then(if bN (m.ids.map oT) i then .fail else .ret {m with ids:=(p,i)::m.ids})
  else if !m.call&&aU p i&&dz p m.xb then .ret m else .fail
def BN:AO D->Option (DV D×List Nat)
 | .sl n _ xs K _=>aa (⟨.sl n,xs⟩,K)
 | .cZ n _ _ _ xs _ _=>aa (⟨.sl n,xs⟩,[])
 |_=>ak
def O4:AO D->Option (DV D×List Nat)
 | .fz n xs K=>aa (⟨.sl n,xs⟩,K)
 |_=>ak
def wI(m:M D)(i:Nat)(Kp:List Nat):A1 D->Q D (M D)
 | .v l d K _=>if m.may K Kp then .ret ((m.dv i ⟨l,d⟩).reads K)else .fail
 | .vb n xs K _ _=>if m.may K Kp then .ret ((m.dv i ⟨.sl n,xs⟩).reads K)else .fail
 | .bF=>match m.tl[i]? with
   |some (.sl n)=> .ret (m.dv i ⟨.sl n,[]⟩)
   |_=> .fail
 | .own j=> .obj j λo=>match O4 o with
   |some (d,K)=>if m.may K Kp then .ret ((m.dv i d).reads K)else .fail
   |none=>match BN o with
    |some (d,K)=>if m.may (1::K) Kp then .ret (((m.dv i d).reads K).uV j)else .fail
    |none=> .fail
 | .ch i' n j off ct q d=> .obj i' λ
   | .cZ n' _ _ q' _ _ ht=>if aU n n'&&aU q q'&&aU ct ht&&m.may [1] Kp then .ret ((m.dv i ⟨.sl q,d⟩).uV i')else .fail
   |_=> .fail
 |_=> .fail
def Ll(Kp:List Nat):M D->Nat->List (A1 D)->Q D (M D)
 |m,_,[]=> .ret m
 |m,i,a::r=>(wI m i Kp a).bind λm=>Ll Kp m (i+1) r
def wH:M D->Nat->List (DV D)->M D
 |m,_,[]=>m
 |m,i,d::r=>wH (m.dv i d) (i+1) r
def L8(T:bc D)(m:M D)(i n:Nat)(Kp:List Nat)(n':Nat)(x:D n')(off:Nat)(K:List Nat):Q D (M D):=
 if aU n n'&&aU off 0&&m.may K Kp then .ret ((wH m i (T.out n' x)).reads K)else .fail
def SF(T:bc D)(m:M D)(i n:Nat)(Kp:List Nat)(j:Nat):Q D (M D):= .obj j λ
 | .box cs=>if aU cs.length (T.lv n).length&&m.may [1] Kp then(Ll Kp (m.uV j) i cs)else .fail
 |_=> .fail
def storable:A1 D->Bool
 | .undef=>ai
 | .ch .. =>ai
 | .yX .. =>ai
 | .tail .. =>ai
 | .pre .. =>ai
 | .uC .. =>ai
 | .zD=>ai
 |_=>ab
def m0(T:bc D)(m:M D):P0->A0 D->Q D (M D)
 | .ptr p off,.ptr i vi=>if aU off vi then m.bind p i else .fail
 | .rp i n Kp,.rp n' x off K=>L8 T m i n Kp n' x off K
 | .rp i n Kp,.ptr j off=>if aU off 0 then SF T m i n Kp j else .fail
 |_,_=> .fail
def Ma(T:bc D):M D->List P0->List (A0 D)->Q D (M D)
 |m,[],[]=> .ret m
 |m,p::ps,a::as=>(m0 T m p a).bind λm=>Ma T m ps as
 |_,_,_=> .fail
def m1(T:bc D)(m:M D):P1->A1 D->Q D (M D)
 | .h i K,a=>wI m i K a
 | .hb i j K,.vb n xs K' _ b=>(wI m i K (.v (.sl n) xs K' 0)).bind λm=> .ret (m.dv j ⟨.bool,b⟩)
 | .hb i j K,.bF=>(wI m i K .bF).bind λm=> .ret (m.dv j ⟨.bool,ab⟩)
 | .hb i j K,.own q=> .obj q λ
   | .sl _ _ xs _ _=> .part (neO xs) λ_=>(wI m i K (.own q)).bind λm=> .ret (m.dv j ⟨.bool,ai⟩)
   |_=> .fail
 | .ptr p off,.ptr i vi=>if aU off vi then m.bind p i else .fail
 | .own p,.own i=>m.bind p i
 | .own p,.bF=>match aF m.po p with
   |some (.sl n t _ _)=>{m with new:=(m.nf,.sl n t [] [] 0)::m.new,nf:=m.nf+1}.bind p m.nf
   |_=> .fail
 | .rp i n Kp,.rp n' x off K=>L8 T m i n Kp n' x off K
 | .rp i n Kp,.ptr j off=>if aU off 0 then SF T m i n Kp j else .fail
 | .fn f ps,.fn f' as=>if aU f f' then Ma T m ps as else .fail
 | .bF,.bF=> .ret m
 | .sx,.sx=> .ret m
 | .any,_=> .ret m
 | .wP,a=>if storable a then .ret m else .fail
 |_,_=> .fail
def GX(T:bc D):M D->List P1->List (A1 D)->Q D (M D)
 |m,[],[]=> .ret m
 |m,p::ps,a::as=>(m1 T m p a).bind λm=>GX T m ps as
 |_,_,_=> .fail
def mC(T:bc D)(m:M D):PC->AV D->Q D (M D)
 | .one p,.c (.one a)=>m1 T m p a
 | .agg ps,.c (.agg l)=>GX T m ps l
 | .one .any,_=> .ret m
 |_,_=> .fail
def L_(T:bc D):M D->List PC->List (AV D)->Q D (M D)
 |m,[],[]=> .ret m
 |m,p::ps,a::as=>(mC T m p a).bind λm=>L_ T m ps as
 |_,_,_=> .fail
def mO(T:bc D)(m:M D):PO->AO D->Q D (M D)
 | .box ps,.box cs=>GX T m ps cs
 | .sl n t i Kp,.sl n' t' xs K _=>if aU n n'&&aU t t'&&m.may K Kp then .ret ((m.dv i ⟨.sl n',xs⟩).reads K)else .fail
 | .cZ n t tc q i,.cZ n' t' xH q' xs _ _=>if aU n n'&&aU t t'&&aU tc xH&&aU q q' then .ret (m.dv i ⟨.sl n',xs⟩)else .fail
 | .mp n i,.mp n' xs=>if aU n n' then .ret (m.dv i ⟨.sl n',xs⟩)else .fail
 |_,_=> .fail
def Dl(T:bc D):M D->List (Nat×PO)->Q D (M D)
 |m,[]=> .ret m
 |m,(p,po)::r=>match aF m.ids p with
  |none=> .fail
  |some i=>match aF m.new i with
   |some ao=>(mO T m po ao).bind λm=>Dl T m r
   |none=> .obj i λao=>(mO T m po ao).bind λm=>Dl T m r
def Mg(ft:List (Nat×DV D)):Nat->Nat->Option (List (DV D))
 |_,0=>aa []
 |i,n+1=>match aF ft i,Mg ft (i+1) n with
  |some d,aa r=>aa (d::r)
  |_,_=>ak
def mw:List Nat->Bool
 |[]=>ab
 |x::r=> !(bN r x)&&mw r
def qK(a b:List Nat):Bool:=a.all λx=> !(bN b x)
def yn:P1->List Nat
 | .h _ K=>K
 | .hb _ _ K=>K
 | .rp _ _ K=>K
 | .fn _ ps=>ps.flatMap λ| .rp _ _ K=>K|_=>[]
 |_=>[]
def tV:PC->List Nat
 | .one p=>yn p
 | .agg ps=>ps.flatMap yn
def tU:PO->List Nat
 | .box ps=>ps.flatMap yn
 | .sl _ _ _ K=>K
 | .cZ .. =>[]
 | .mp .. =>[]
def sD(x_:List PC)(po:List (Nat×PO)):Bool:=(x_.flatMap tV).all (λx=>dz x 2)&&(po.flatMap λp=>tU p.2).all λx=>dz x 2
def M.ok(m:M D)(po:List (Nat×PO)):Bool:=mw (m.ft.map bT)&&m.ft.all (λp=>dz p.1 m.tl.length)&&qK (m.ids.map oT) m.ku&&mw (m.ids.map bT)&&mw (m.ids.map oT)&&m.ids.all (λp=>eh 1000 p.2)&&m.ku.all (eh 1000)&&m.ids.all (λp=>bN (po.map bT) p.1)&&m.kr.all (λx=>dz x 2)
def Bp(T:bc D)(call:Bool)(xb:Nat)(cM:List Ht)(x_:List PC)(po:List (Nat×PO))(vq:List (Nat×Nat))(nf:Nat)(fm:List (AV D)):Q D (HH D cM×M D):=
 (L_ T ⟨call,xb,Zv T cM,po,vq,[],[],[],[],nf⟩ x_ fm).bind λm=>(Dl T m po).bind λm=>
   if m.ok po&&sD x_ po then match Mg m.ft 0 m.tl.length with
    |some l=>match toHH T cM l with
     |some h=> .ret (h,m)
     |none=> .fail
    |none=> .fail
   else .fail
section
variable (T:bc D) (fl:List (DV D)) (ri:Nat->Option Nat) (rK:List Nat->List Nat) (tg:Nat)
def wR:P0->Option (A0 D)
 | .ptr p off=>match ri p with
   |some i=>aa (.ptr i off)
   |none=>ak
 | .rp i n K=>match T.iX n ((fl.drop i).take (T.lv n).length)with
   |some x=>aa (.rp n x 0 (rK K))
   |none=>ak
def yq:List P0->Option (List (A0 D))
 |[]=>aa []
 |p::r=>match wR T fl ri rK p,yq r with
  |some a,aa b=>aa (a::b)
  |_,_=>ak
def iY:P1->Option (A1 D)
 | .h i K=>match fl[i]? with
   |some ⟨l,d⟩=>aa (.v l d (As (rK K) l) (tg+i))
   |none=>ak
 | .hb i j K=>match fl[i]?,fl[j]? with
   |some ⟨.sl n,xs⟩,aa ⟨.bool,b⟩=>aa (.vb n xs (rK K) (tg+i) b)
   |_,_=>ak
 | .ptr p off=>match ri p with
   |some i=>aa (.ptr i off)
   |none=>ak
 | .own p=>match ri p with
   |some i=>aa (.own i)
   |none=>ak
 | .rp i n K=>match T.iX n ((fl.drop i).take (T.lv n).length)with
   |some x=>aa (.rp n x 0 (rK K))
   |none=>ak
 | .fn f ps=>match yq T fl ri rK ps with
   |some cs=>aa (.fn f cs)
   |none=>ak
 | .bF=>aa .bF
 | .sx=>aa .sx
 | .any=>aa .zD
 | .wP=>aa .wP
def wQ:List P1->Option (List (A1 D))
 |[]=>aa []
 |p::r=>match iY T fl ri rK tg p,wQ r with
  |some a,aa b=>aa (a::b)
  |_,_=>ak
def vo:PC->Option (AC D)
 | .one p=>match iY T fl ri rK tg p with
   |some a=>aa (.one a)
   |none=>ak
 | .agg ps=>match wQ T fl ri rK tg ps with
   |some l=>aa (.agg l)
   |none=>ak
def g9:List PC->Option (List (AC D))
 |[]=>aa []
 |p::r=>match vo T fl ri rK tg p,g9 r with
  |some a,aa b=>aa (a::b)
  |_,_=>ak
def qj(l:List (Nat×PC)):Option (List (Nat×AV D)):=match g9 T fl ri rK tg (l.map oT)with
 |some as=>aa (sf (l.map bT) as)
 |none=>ak
where sf:List Nat->List (AC D)->List (Nat×AV D)
 |t::ts,a::as=>(t,.c a)::sf ts as
 |_,_=>[]
def qk:PO->Option (AO D)
 | .box ps=>match wQ T fl ri rK tg ps with
   |some l=>if l.all storable then aa (.box l)else ak
   |none=>ak
 | .sl n t i K=>match fl[i]? with
   |some ⟨.sl n',xs⟩=>if aU n n' then aa (.sl n' t xs (rK K) (tg+i))else ak
   |_=>ak
 | .cZ n t tc q i=>match fl[i]? with
   |some ⟨.sl n',xs⟩=>if aU n n' then aa (.cZ n' t tc q xs (tg+i) 0)else ak
   |_=>ak
 | .mp n i=>match fl[i]? with
   |some ⟨.sl n',xs⟩=>if aU n n' then aa (.mp n' xs)else ak
   |_=>ak
def jF:List (Nat×PO)->Option (List (Nat×Option (AO D)))
 |[]=>aa []
 |(p,po)::r=>match ri p,qk T fl ri rK tg po,jF r with
  |some i,aa a,aa b=>aa ((i,aa a)::b)
  |_,_,_=>ak
end
def J.gY(j:J):List (Nat×Nat):=(j.ob.filter λp=>bN j.mv p.1).map λp=>(p.1,p.1)
def BM(sl:List (Nat×AV D)):List (Nat×PC)->Option (List (AV D))
 |[]=>aa []
 |(t,_)::r=>match aF sl t,BM sl r with
  |some a,aa b=>aa (a::b)
  |_,_=>ak
def qH{ρ:Type}(T:bc D)(j:J)(σ:S D)(k:HH D j.cM->Option ρ):Option ρ:=match BM σ.sl j.sl with
 |some fm=>(Bp T ai j.nx j.cM (j.sl.map oT) j.ob j.gY σ.nx fm).go σ.ob [] λx _=>
  if qK (x.2.ids.map oT) σ.lk&&qK x.2.ku σ.lk then k x.1 else ak
 |none=>ak
def kept(σ:S D)(mv:List Nat):List (Nat×Option (AO D)):=σ.ob.filter λp=> !(bN mv p.1)
def lB(T:bc D)(j:J)(wr:List Nat)(mv:List Nat)(σ:S D)(h:HH D j.cM):Option (S D):=
 let fl:=dH T j.cM h
 if eh σ.nx j.nx&&j.ob.all (λp=>dz p.1 j.nx&&(eh σ.nx p.1||bN j.mv p.1)&& !(bN ((kept σ mv).map bT++σ.lk) p.1))&&j.sl.all (λp=>bN wr p.1)&&qK mv σ.lk then
  match qj T fl aa id j.nx j.sl,jF T fl aa id j.nx j.ob with
  |some a,aa b=>aa ⟨a++σ.sl.filter (λp=> !(bN wr p.1)),b++kept σ mv,j.nx+fl.length,σ.lk⟩
  |_,_=>ak
 else ak
def v7(D:Nat->Type)(pr:Bool)(ρ:Type):List (Out×J)->Type
 |[]=>ρ
 |(_,j)::r=>match pr,r with
  |true,[]=>HH D j.cM
  |_,_=>HH D j.cM⊕v7 D pr ρ r
def toE(T:bc D)(pr:Bool){ρ:Type}:(E:List (Out×J))->Out->S D->Option ρ->Option (v7 D pr ρ E)
 |[],_,_,k=>k
 |(o',j)::r,o,σ,k=>match pr,r with
  |true,[]=>if o.beq o' then qH T j σ aa else ak
  |false,r=>if o.beq o' then qH T j σ (λh=>aa (.inl h))else match toE T ai r o σ k with
   |some x=>aa (.inr x)
   |none=>ak
  |true,x::r=>if o.beq o' then qH T j σ (λh=>aa (.inl h))else match toE T ab (x::r) o σ k with
   |some x=>aa (.inr x)
   |none=>ak
def H9{ρ:Type}(T:bc D)(j:J)(wr mv:List Nat)(σ:S D)(k:S D->Option ρ)(h:HH D j.cM):Option ρ:=match lB T j wr mv σ h with
 |some be=>k be
 |none=>ak
def sS(T:bc D)(pr:Bool){ρ:Type}(wr mv:List Nat)(σ:S D)(k:Out->S D->Option ρ):(E:List (Out×J))->v7 D pr ρ E->Option ρ
 |[],x=>aa x
 |(o,j)::r,x=>match pr,r,x with
  |true,[],x=>H9 T j wr mv σ (k o) x
  |false,r,x=>Dg (H9 T j wr mv σ (k o)) (λy=>sS T ai wr mv σ k r y) x
  |true,y::r,x=>Dg (H9 T j wr mv σ (k o)) (λz=>sS T ab wr mv σ k (y::r) z) x
def rn:List (Out×J)->List Nat
 |[]=>[]
 |(_,j)::r=>j.mv++rn r
def arm(σ:S D)(mv:List Nat):S D:={σ with lk:=(kept σ mv).map bT++σ.lk}
def wrap(T:bc D)(wr:List Nat)(cut:Option (Bool×List (Out×J))){ρ:Type}(body:∀{jl:Type},S D->(Out->S D->Option jl)->Option jl)(σ:S D)(k:Out->S D->Option ρ):Option ρ:=match cut with
 |none=>body σ k
 |some (pr,E)=>nD (body (arm σ (rn E)) λo be=>toE T pr E o be (k o {be with lk:=σ.lk})) λx=>sS T pr wr (rn E) σ k E x
