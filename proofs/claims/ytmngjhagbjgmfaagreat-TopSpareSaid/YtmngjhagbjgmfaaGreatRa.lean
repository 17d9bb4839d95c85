import Derived.Test.YtmngjhagbjgmfaaGreatKd
import Derived.KernelRfl
set_option linter.all false
open Bool renaming false->ai,true->ab
open ByteArray renaming empty->tq
open Decidable renaming decide->ak
open List renaming replicate->cR
open Nat renaming beq->aT,ble->ef,blt->dx
open Option renaming some->aa
open Prod renaming fst->bS,snd->oQ
namespace Go.Proofs.YtmngjhagbjgmfaaGreat
open Go Dp
def mu{α:Type}(z:α)(n:Int):Option (List α):=if 0<=n∧n<=1073741824 then aa (cR n.toNat z)else none
def Ad{α:Type}(z:α)(n:Int):Option (List α):=if 0<n∧n<=1073741824 then aa (cR n.toNat z)else none
namespace Rx
abbrev nA{α β:Type}(o:Option α)(f:α->Option β):Option β:=o.bind f
abbrev Dc{α β γ:Type}(f:α->γ)(g:β->γ)(x:α⊕β):γ:=Sum.elim f g x
abbrev Ev{α:Type}(c:Bool)(a b:α):α:=Decidable.casesOn (motive:=λ_=>α) (instDecidableEqBool c ab) (λ_=>b) (λ_=>a)
abbrev asu(a b:Int):Int:=W (a+b)
abbrev arY(a b:Int):Int:=W (a-b)
abbrev aso(a b:Int):Int:=W (a*b)
abbrev asb(a:Int):Int:=W (-a)
abbrev Mn(a b:Int):Bool:=a==b
abbrev ine(a b:Int):Bool:=a !=b
abbrev ilt(a b:Int):Bool:=ak (a<b)
abbrev ile(a b:Int):Bool:=ak (a<=b)
abbrev igt(a b:Int):Bool:=ak (a>b)
abbrev ige(a b:Int):Bool:=ak (a>=b)
abbrev G6(a b:Int):Int:=a+b
abbrev ab7(a b:Int):Int:=a-b
abbrev asn(a b:Int):Int:=a*b
abbrev rm(k:IntKind)(a:Int):Int:=k.wrap a
abbrev Tm(k:IntKind)(a b:Int):Int:=k.wrap ((BitVec.ofInt k.bits a&&&BitVec.ofInt k.bits b).toNat:Int)
abbrev aeZ{α:Type}(xs:List α)(j:Int)(ys:List α):List α:=xs.take j.toNat++(ys.take (xs.length-j.toNat)++xs.drop (j.toNat+ys.length))
abbrev VI(n j m:Int):Int:=if m<n-j then m else n-j
abbrev rL{α:Type}(z:α)(xs:List α)(j:Int):List α:=xs.take j.toNat++cR (xs.length-j.toNat) z
abbrev yJ(a b:Int):Option Unit:=if a=b then aa ()else none
abbrev Cw{α:Type}(xs:List α)(j:Int):List α:=xs.take j.toNat
abbrev uv{α:Type}(xs:List α)(j:Int):List α:=xs.drop j.toNat
abbrev wy(n:Nat)(a b:Int):Option Int:=if b<0 then none else aa (a.fdiv (2^min b.toNat n))
abbrev beq'(a b:Bool):Bool:=a==b
abbrev EU(a:Bool):Bool:= !a
abbrev OZ(a b:Bool):Bool:=a&&b
abbrev eu(p q:Int):Int:=if q<p then q else p
abbrev imax(p q:Int):Int:=if p<q then q else p
abbrev CV(a b:ByteArray):Bool:=a==b
abbrev dY(l:List Nat):ByteArray:=⟨(l.map UInt8.ofNat).toArray⟩
abbrev KP(a b:ByteArray):Option ByteArray:=if a.size+b.size<=1073741824 then aa (a++b)else none
abbrev rc(a:ByteArray):Int:=(a.size:Int)
abbrev KN(s:ByteArray)(j:Int):Option Int:=if 0<=j then(match s.data[j.toNat]? with|some b=>aa (b.toNat:Int)|none=>none)else none
abbrev KO{α:Type}(mk:Int->α)(s:ByteArray):Option (List α):=if s.size<=1073741824 then aa (s.data.toList.map λb=>mk (b.toNat:Int))else none
abbrev xl{α:Type}(f:α->Int)(xs:List α):ByteArray:=(xs.map f).foldl (λr n=>r.push (UInt8.ofNat n.toNat)) tq
abbrev neO{α:Type}(xs:List α):Option Unit:=match xs with
 |[]=>none
 |_::_=>aa ()
def yb{α β:Type}(f:α->Bool)(v:α->β)(z:β)(xs:List α):β:=match xs.find? f with
 |some x=>v x
 |none=>z
def Df{α:Type}(f:α->Bool)(xs:List α):Bool:=xs.any f
def Ac{α:Type}(f:α->Bool)(z:α)(xs:List α):List α:=if xs.any f=ab then xs.map λx=>if f x=ab then z else x else xs++[z]
def nB{σ ρ:Type}(step:σ->Option (σ⊕ρ))(n:Nat):σ->Option ρ:=Nat.rec (motive:=λ_=>σ->Option ρ) (λ_=>none) (λ_ ih s=>match step s with
 |some (.inl s')=>ih s'
 |some (.inr r)=>aa r
 |none=>none) n
def aI{σ ρ:Type}(step:σ->Option (σ⊕ρ))(s:σ):Option ρ:=nB step 18446744073709551616 s
inductive Lf|int (k:IntKind)|bool|str|sl (n:Nat)
deriving DecidableEq
inductive Ht|lf (l:Lf)|el (n:Nat)
section
variable (D:Nat->Type)
@[reducible] def Lf.den:Lf->Type
  | .int _=>Int
  | .bool=>Bool
  | .str=>ByteArray
  | .sl n=>List (D n)
@[reducible] def Ht.den:Ht->Type
  | .lf l=>l.den D
  | .el n=>D n
def HL:List Lf->Type
 |[]=>Unit
 |l::r=>match r with
  |[]=>l.den D
  |_::_=>l.den D×HL r
def HH:List Ht->Type
 |[]=>Unit
 |l::r=>match r with
  |[]=>l.den D
  |_::_=>l.den D×HH r
structure DV where
 l:Lf
 d:l.den D
inductive A0
 |ptr (i off:Nat)
 |rp (n:Nat) (x:D n) (off:Nat) (K:List Nat)
inductive A1
 |v (l:Lf) (d:l.den D) (K:List Nat) (g:Nat)
 |vb (n:Nat) (xs:List (D n)) (K:List Nat) (g:Nat) (b:Bool)
 |ptr (i off:Nat)
 |el (i n:Nat) (j:Int) (y:D n) (off tc tj:Nat)
 |rp (n:Nat) (x:D n) (off:Nat) (K:List Nat)
 |own (i:Nat)
 |fn (f:Nat) (jc:List (A0 D))
 |ch (i n:Nat) (j:Int) (off ct m:Nat) (d:List (D m))
 |yT (i t:Nat)
 |tail (i n:Nat) (j:Int)
 |pre (i n:Nat) (j:Int)
 |wL
 |uy (n:Nat) (xs:List (D n)) (K:List Nat)
 |bE
 |ss
 |Dd
 |undef
 |zz
inductive AC|one (a:A1 D)|agg (l:List (A1 D))
inductive AV|c (x:AC D)|dV (l:List (AC D))
inductive AO
 |box (cs:List (A1 D))
 |sl (n T:Nat) (xs:List (D n)) (K:List Nat) (g:Nat)
 |cX (n T Tc m:Nat) (xs:List (D n)) (g ht:Nat)
 |im (n T Tc m:Nat) (xs:List (D n)) (j:Int) (off t g:Nat)
 |fz (n:Nat) (xs:List (D n)) (K:List Nat)
 |mp (n:Nat) (xs:List (D n))
inductive Q(α:Type):Type 1
 |ret (a:α)
 |fail
 |obj (i:Nat) (k:AO D->Q α)
 |part {β:Type} (o:Option β) (k:β->Q α)
inductive kW|one (l:Lf)|st (n:Nat)|ptr|fn
structure bb where
 lv:Nat->List Lf
 ag:Nat->Bool
 C_:∀n,D n->HL D (lv n)
 Ae:∀n,HL D (lv n)->D n
 zero:∀n,D n
 ty:List (Nat×kW)
 um:List (Nat×List (Nat×Nat))
 de:List (Nat×Nat×Nat)
 Bo:List (Nat×List Lf)
 kd:List (Nat×Nat×Nat)
 qL:List (Nat×Nat×Nat×Nat)
 pre:List Nat
 qc:List (Nat×Nat×Nat×Nat)
structure S where
 sl:List (Nat×AV D)
 ob:List (Nat×Option (AO D))
 nx:Nat
 lk:List Nat
structure cW where
 dst:AV D
 sj:List (Nat×Option (AO D))
 fz:List Nat
end
def Ao(K:List Nat):Lf->List Nat
 | .sl _=>K
 |_=>[]
def aE{α:Type}:List (Nat×α)->Nat->Option α
 |[],_=>none
 |p::r,t=>cond (aT p.1 t) (aa p.2) (aE r t)
def bM:List Nat->Nat->Bool
 |[],_=>ai
 |p::r,t=>cond (aT p t) ab (bM r t)
inductive Out|normal|exit (id:Nat)|goto (l:Nat)|ret
def Out.beq:Out->Out->Bool
 | .normal,.normal=>ab
 | .exit a,.exit b=>aT a b
 | .goto a,.goto b=>aT a b
 | .ret,.ret=>ab
 |_,_=>ai
inductive P0|ptr (i off:Nat)|rp (i n:Nat) (K:List Nat)
inductive P1
 |h (i:Nat) (K:List Nat)
 |hb (i j:Nat) (K:List Nat)
 |ptr (i off:Nat)
 |own (i:Nat)
 |rp (i n:Nat) (K:List Nat)
 |fn (f:Nat) (jc:List P0)
 |bE
 |ss
 |any
 |wL
inductive PC|one (p:P1)|agg (ps:List P1)
inductive PO|box (ps:List P1)|sl (n T i:Nat) (K:List Nat)|cX (n T Tc m i:Nat)|mp (n i:Nat)
structure J where
 cL:List Ht
 sl:List (Nat×PC)
 ob:List (Nat×PO)
 mv:List Nat
 nx:Nat
structure az(D:Nat->Type)where
 f:Nat
 ins:List Ht
 outs:List Ht
 args:List PC
 ob:List (Nat×PO)
 jR:List PC
 b7:List (Nat×PO)
 fn:HH D ins->Option (HH D outs)
inductive Sg|nil|tJ (s m:Nat) (j:J) (inner next:Sg)|xC (s:Nat) (l:List Nat) (next:Sg)
inductive An
 |o
 |n (cut:Option (Bool×List (Out×J))) (a b:An)
 |r (cut:Option (Bool×List (Out×J))) (s:Sg)
 |loop (j:J) (pr:Bool) (E:List (Out×J)) (a:An)
 |f (l:List Nat) (a:An)
 |lab (j:J) (pr:Bool) (E:List (Out×J)) (a:An)
def An.fz:An->List Nat
 | .f l _=>l
 |_=>[]
def An.un:An->An
 | .f _ a=>a
 |a=>a
def An.cut:An->Option (Bool×List (Out×J))
 | .n c _ _=>c
 | .r c _=>c
 |_=>none
def An.a:An->An
 | .n _ a _=>a
 |_=> .o
def An.b:An->An
 | .n _ _ b=>b
 |_=> .o
def An.sg:An->Sg
 | .r _ s=>s
 |_=> .nil
section
variable {D:Nat->Type}
def Q.bind{α β:Type}:Q D α->(α->Q D β)->Q D β
 | .ret a,f=>f a
 | .fail,_=> .fail
 | .obj i k,f=> .obj i λx=>(k x).bind f
 | .part o k,f=> .part o λy=>(k y).bind f
def dt(ob:List (Nat×Option (AO D)))(i:Nat):Option (AO D):=match aE ob i with
 |some (aa x)=>aa x
 |_=>none
def Q.go{ρ α:Type}(ob:List (Nat×Option (AO D))):Q D α->List Nat->(α->List Nat->Option ρ)->Option ρ
 | .ret a,lg,k=>k a lg
 | .fail,_,_=>none
 | .obj i f,lg,k=>match dt ob i with
   |some x=>(f x).go ob (i::lg) k
   |none=>none
 | .part o f,lg,k=>nA o λy=>(f y).go ob lg k
def toHL:(ts:List Lf)->List (DV D)->Option (HL D ts)
 |[],l=>match l with
  |[]=>aa ()
  |_=>none
 |l::r,ds=>match r,ds with
  |[],[⟨l',d⟩]=>if h:l'=l then aa (h▸d)else none
  |m::r',⟨l',d⟩::rI=>if h:l'=l then match toHL (m::r') rI with
   |some x=>aa (h▸d,x)
   |none=>none
   else none
  |_,_=>none
def tN:(ts:List Lf)->HL D ts->List (DV D)
 |[],_=>[]
 |l::r,x=>match r,x with
  |[],x=>[⟨l,x⟩]
  |m::r',x=>⟨l,x.1⟩::tN (m::r') x.2
def bb.out(T:bb D)(n:Nat)(x:D n):List (DV D):=tN (T.lv n) (T.C_ n x)
def bb.iU(T:bb D)(n:Nat)(l:List (DV D)):Option (D n):=match toHL (T.lv n) l with
 |some h=>aa (T.Ae n h)
 |none=>none
def xB(T:bb D):(t:Ht)->List (DV D)->Option (t.den D×List (DV D))
 | .lf l,⟨l',d⟩::r=>if h:l'=l then aa (h▸d,r)else none
 | .lf _,[]=>none
 | .el n,ds=>match T.iU n (ds.take (T.lv n).length)with
   |some x=>aa (x,ds.drop (T.lv n).length)
   |none=>none
def toHH(T:bb D):(ts:List Ht)->List (DV D)->Option (HH D ts)
 |[],l=>match l with
  |[]=>aa ()
  |_=>none
 |t::r,ds=>match r with
  |[]=>match xB T t ds with
   |some (x,[])=>aa x
   |_=>none
  |m::r'=>match xB T t ds with
   |some (x,rI)=>match toHH T (m::r') rI with
    |some y=>aa (x,y)
    |none=>none
   |none=>none
def LI(T:bb D):(t:Ht)->t.den D->List (DV D)
 | .lf l,x=>[⟨l,x⟩]
 | .el n,x=>T.out n x
def dE(T:bb D):(ts:List Ht)->HH D ts->List (DV D)
 |[],_=>[]
 |t::r,x=>match r,x with
  |[],x=>LI T t x
  |m::r',x=>LI T t x.1++dE T (m::r') x.2
def Ht.lfs(T:bb D):Ht->List Lf
 | .lf l=>[l]
 | .el n=>T.lv n
def Zr(T:bb D):List Ht->List Lf
 |[]=>[]
 |t::r=>t.lfs T++Zr T r
structure M(D:Nat->Type)where
 call:Bool
 xb:Nat
 tl:List Lf
 po:List (Nat×PO)
 ids:List (Nat×Nat)
 fm:List (Nat×DV D)
 ku:List Nat
 kr:List Nat
 new:List (Nat×AO D)
 nf:Nat
def FT(K K':List Nat):Bool:=K.all (bM K')
def M.dv(m:M D)(i:Nat)(d:DV D):M D:={m with fm:=(i,d)::m.fm}
def M.reads(m:M D)(K:List Nat):M D:={m with kr:=K++m.kr}
def M.uR(m:M D)(i:Nat):M D:={m with ku:=i::m.ku}
def M.may(m:M D)(K Kp:List Nat):Bool:=if m.call then K.isEmpty||bM Kp 0 else FT K Kp
def M.bind(m:M D)(p i:Nat):Q D (M D):=match aE m.ids p with
 |some i'=>if aT i' i then .ret m else .fail
 |none=>if bM (m.po.map bS) p then(if bM (m.ids.map oQ) i then .fail else .ret {m with ids:=(p,i)::m.ids})
  else if !m.call&&aT p i&&dx p m.xb then .ret m else .fail
def BJ:AO D->Option (DV D×List Nat)
 | .sl n _ xs K _=>aa (⟨.sl n,xs⟩,K)
 | .cX n _ _ _ xs _ _=>aa (⟨.sl n,xs⟩,[])
 |_=>none
def O0:AO D->Option (DV D×List Nat)
 | .fz n xs K=>aa (⟨.sl n,xs⟩,K)
 |_=>none
def wE(m:M D)(i:Nat)(Kp:List Nat):A1 D->Q D (M D)
 | .v l d K _=>if m.may K Kp then .ret ((m.dv i ⟨l,d⟩).reads K)else .fail
 | .vb n xs K _ _=>if m.may K Kp then .ret ((m.dv i ⟨.sl n,xs⟩).reads K)else .fail
 | .bE=>match m.tl[i]? with
   |some (.sl n)=> .ret (m.dv i ⟨.sl n,[]⟩)
   |_=> .fail
 | .own j=> .obj j λo=>match O0 o with
   |some (d,K)=>if m.may K Kp then .ret ((m.dv i d).reads K)else .fail
   |none=>match BJ o with
    |some (d,K)=>if m.may (1::K) Kp then .ret (((m.dv i d).reads K).uR j)else .fail
    |none=> .fail
 | .ch i' n j off ct q d=> .obj i' λ
   | .cX n' _ _ q' _ _ ht=>if aT n n'&&aT q q'&&aT ct ht&&m.may [1] Kp then .ret ((m.dv i ⟨.sl q,d⟩).uR i')else .fail
   |_=> .fail
 |_=> .fail
def Lh(Kp:List Nat):M D->Nat->List (A1 D)->Q D (M D)
 |m,_,[]=> .ret m
 |m,i,a::r=>(wE m i Kp a).bind λm=>Lh Kp m (i+1) r
def wD:M D->Nat->List (DV D)->M D
 |m,_,[]=>m
 |m,i,d::r=>wD (m.dv i d) (i+1) r
def LX(T:bb D)(m:M D)(i n:Nat)(Kp:List Nat)(n':Nat)(x:D n')(off:Nat)(K:List Nat):Q D (M D):=
 if aT n n'&&aT off 0&&m.may K Kp then .ret ((wD m i (T.out n' x)).reads K)else .fail
def SB(T:bb D)(m:M D)(i n:Nat)(Kp:List Nat)(j:Nat):Q D (M D):= .obj j λ
 | .box cs=>if aT cs.length (T.lv n).length&&m.may [1] Kp then(Lh Kp (m.uR j) i cs)else .fail
 |_=> .fail
def storable:A1 D->Bool
 | .undef=>ai
 | .ch .. =>ai
 | .yT .. =>ai
 | .tail .. =>ai
 | .pre .. =>ai
 | .uy .. =>ai
 | .zz=>ai
 |_=>ab
def m0(T:bb D)(m:M D):P0->A0 D->Q D (M D)
 | .ptr p off,.ptr i u9=>if aT off u9 then m.bind p i else .fail
 | .rp i n Kp,.rp n' x off K=>LX T m i n Kp n' x off K
 | .rp i n Kp,.ptr j off=>if aT off 0 then SB T m i n Kp j else .fail
 |_,_=> .fail
def L7(T:bb D):M D->List P0->List (A0 D)->Q D (M D)
 |m,[],[]=> .ret m
 |m,p::ps,a::as=>(m0 T m p a).bind λm=>L7 T m ps as
 |_,_,_=> .fail
def m1(T:bb D)(m:M D):P1->A1 D->Q D (M D)
 | .h i K,a=>wE m i K a
 | .hb i j K,.vb n xs K' _ b=>(wE m i K (.v (.sl n) xs K' 0)).bind λm=> .ret (m.dv j ⟨.bool,b⟩)
 | .hb i j K,.bE=>(wE m i K .bE).bind λm=> .ret (m.dv j ⟨.bool,ab⟩)
 | .hb i j K,.own q=> .obj q λ
   | .sl _ _ xs _ _=> .part (neO xs) λ_=>(wE m i K (.own q)).bind λm=> .ret (m.dv j ⟨.bool,ai⟩)
   |_=> .fail
 | .ptr p off,.ptr i u9=>if aT off u9 then m.bind p i else .fail
 | .own p,.own i=>m.bind p i
 | .own p,.bE=>match aE m.po p with
   |some (.sl n t _ _)=>{m with new:=(m.nf,.sl n t [] [] 0)::m.new,nf:=m.nf+1}.bind p m.nf
   |_=> .fail
 | .rp i n Kp,.rp n' x off K=>LX T m i n Kp n' x off K
 | .rp i n Kp,.ptr j off=>if aT off 0 then SB T m i n Kp j else .fail
 | .fn f ps,.fn f' as=>if aT f f' then L7 T m ps as else .fail
 | .bE,.bE=> .ret m
 | .ss,.ss=> .ret m
 | .any,_=> .ret m
 | .wL,a=>if storable a then .ret m else .fail
 |_,_=> .fail
def GS(T:bb D):M D->List P1->List (A1 D)->Q D (M D)
 |m,[],[]=> .ret m
 |m,p::ps,a::as=>(m1 T m p a).bind λm=>GS T m ps as
 |_,_,_=> .fail
def mC(T:bb D)(m:M D):PC->AV D->Q D (M D)
 | .one p,.c (.one a)=>m1 T m p a
 | .agg ps,.c (.agg l)=>GS T m ps l
 | .one .any,_=> .ret m
 |_,_=> .fail
def LZ(T:bb D):M D->List PC->List (AV D)->Q D (M D)
 |m,[],[]=> .ret m
 |m,p::ps,a::as=>(mC T m p a).bind λm=>LZ T m ps as
 |_,_,_=> .fail
def mO(T:bb D)(m:M D):PO->AO D->Q D (M D)
 | .box ps,.box cs=>GS T m ps cs
 | .sl n t i Kp,.sl n' t' xs K _=>if aT n n'&&aT t t'&&m.may K Kp then .ret ((m.dv i ⟨.sl n',xs⟩).reads K)else .fail
 | .cX n t tc q i,.cX n' t' xD q' xs _ _=>if aT n n'&&aT t t'&&aT tc xD&&aT q q' then .ret (m.dv i ⟨.sl n',xs⟩)else .fail
 | .mp n i,.mp n' xs=>if aT n n' then .ret (m.dv i ⟨.sl n',xs⟩)else .fail
 |_,_=> .fail
def Dh(T:bb D):M D->List (Nat×PO)->Q D (M D)
 |m,[]=> .ret m
 |m,(p,po)::r=>match aE m.ids p with
  |none=> .fail
  |some i=>match aE m.new i with
   |some ao=>(mO T m po ao).bind λm=>Dh T m r
   |none=> .obj i λao=>(mO T m po ao).bind λm=>Dh T m r
def Mc(fm:List (Nat×DV D)):Nat->Nat->Option (List (DV D))
 |_,0=>aa []
 |i,n+1=>match aE fm i,Mc fm (i+1) n with
  |some d,aa r=>aa (d::r)
  |_,_=>none
def mq:List Nat->Bool
 |[]=>ab
 |x::r=> !(bM r x)&&mq r
def qG(a b:List Nat):Bool:=a.all λx=> !(bM b x)
def yi:P1->List Nat
 | .h _ K=>K
 | .hb _ _ K=>K
 | .rp _ _ K=>K
 | .fn _ ps=>ps.flatMap λ| .rp _ _ K=>K|_=>[]
 |_=>[]
def tQ:PC->List Nat
 | .one p=>yi p
 | .agg ps=>ps.flatMap yi
def tP:PO->List Nat
 | .box ps=>ps.flatMap yi
 | .sl _ _ _ K=>K
 | .cX .. =>[]
 | .mp .. =>[]
def sw(xW:List PC)(po:List (Nat×PO)):Bool:=(xW.flatMap tQ).all (λx=>dx x 2)&&(po.flatMap λp=>tP p.2).all λx=>dx x 2
def M.ok(m:M D)(po:List (Nat×PO)):Bool:=mq (m.fm.map bS)&&m.fm.all (λp=>dx p.1 m.tl.length)&&qG (m.ids.map oQ) m.ku&&mq (m.ids.map bS)&&mq (m.ids.map oQ)&&m.ids.all (λp=>ef 1000 p.2)&&m.ku.all (ef 1000)&&m.ids.all (λp=>bM (po.map bS) p.1)&&m.kr.all (λx=>dx x 2)
def Bl(T:bb D)(call:Bool)(xb:Nat)(cL:List Ht)(xW:List PC)(po:List (Nat×PO))(vj:List (Nat×Nat))(nf:Nat)(fj:List (AV D)):Q D (HH D cL×M D):=
 (LZ T ⟨call,xb,Zr T cL,po,vj,[],[],[],[],nf⟩ xW fj).bind λm=>(Dh T m po).bind λm=>
   if m.ok po&&sw xW po then match Mc m.fm 0 m.tl.length with
    |some l=>match toHH T cL l with
     |some h=> .ret (h,m)
     |none=> .fail
    |none=> .fail
   else .fail
section
variable (T:bb D) (fl:List (DV D)) (ri:Nat->Option Nat) (rK:List Nat->List Nat) (tg:Nat)
def wN:P0->Option (A0 D)
 | .ptr p off=>match ri p with
   |some i=>aa (.ptr i off)
   |none=>none
 | .rp i n K=>match T.iU n ((fl.drop i).take (T.lv n).length)with
   |some x=>aa (.rp n x 0 (rK K))
   |none=>none
def ym:List P0->Option (List (A0 D))
 |[]=>aa []
 |p::r=>match wN T fl ri rK p,ym r with
  |some a,aa b=>aa (a::b)
  |_,_=>none
def iV:P1->Option (A1 D)
 | .h i K=>match fl[i]? with
   |some ⟨l,d⟩=>aa (.v l d (Ao (rK K) l) (tg+i))
   |none=>none
 | .hb i j K=>match fl[i]?,fl[j]? with
   |some ⟨.sl n,xs⟩,aa ⟨.bool,b⟩=>aa (.vb n xs (rK K) (tg+i) b)
   |_,_=>none
 | .ptr p off=>match ri p with
   |some i=>aa (.ptr i off)
   |none=>none
 | .own p=>match ri p with
   |some i=>aa (.own i)
   |none=>none
 | .rp i n K=>match T.iU n ((fl.drop i).take (T.lv n).length)with
   |some x=>aa (.rp n x 0 (rK K))
   |none=>none
 | .fn f ps=>match ym T fl ri rK ps with
   |some cs=>aa (.fn f cs)
   |none=>none
 | .bE=>aa .bE
 | .ss=>aa .ss
 | .any=>aa .zz
 | .wL=>aa .wL
def wM:List P1->Option (List (A1 D))
 |[]=>aa []
 |p::r=>match iV T fl ri rK tg p,wM r with
  |some a,aa b=>aa (a::b)
  |_,_=>none
def vi:PC->Option (AC D)
 | .one p=>match iV T fl ri rK tg p with
   |some a=>aa (.one a)
   |none=>none
 | .agg ps=>match wM T fl ri rK tg ps with
   |some l=>aa (.agg l)
   |none=>none
def gX:List PC->Option (List (AC D))
 |[]=>aa []
 |p::r=>match vi T fl ri rK tg p,gX r with
  |some a,aa b=>aa (a::b)
  |_,_=>none
def qf(l:List (Nat×PC)):Option (List (Nat×AV D)):=match gX T fl ri rK tg (l.map oQ)with
 |some as=>aa (rY (l.map bS) as)
 |none=>none
where rY:List Nat->List (AC D)->List (Nat×AV D)
 |t::ts,a::as=>(t,.c a)::rY ts as
 |_,_=>[]
def qg:PO->Option (AO D)
 | .box ps=>match wM T fl ri rK tg ps with
   |some l=>if l.all storable then aa (.box l)else none
   |none=>none
 | .sl n t i K=>match fl[i]? with
   |some ⟨.sl n',xs⟩=>if aT n n' then aa (.sl n' t xs (rK K) (tg+i))else none
   |_=>none
 | .cX n t tc q i=>match fl[i]? with
   |some ⟨.sl n',xs⟩=>if aT n n' then aa (.cX n' t tc q xs (tg+i) 0)else none
   |_=>none
 | .mp n i=>match fl[i]? with
   |some ⟨.sl n',xs⟩=>if aT n n' then aa (.mp n' xs)else none
   |_=>none
def jC:List (Nat×PO)->Option (List (Nat×Option (AO D)))
 |[]=>aa []
 |(p,po)::r=>match ri p,qg T fl ri rK tg po,jC r with
  |some i,aa a,aa b=>aa ((i,aa a)::b)
  |_,_,_=>none
end
def J.gV(j:J):List (Nat×Nat):=(j.ob.filter λp=>bM j.mv p.1).map λp=>(p.1,p.1)
def BI(sl:List (Nat×AV D)):List (Nat×PC)->Option (List (AV D))
 |[]=>aa []
 |(t,_)::r=>match aE sl t,BI sl r with
  |some a,aa b=>aa (a::b)
  |_,_=>none
def qE{ρ:Type}(T:bb D)(j:J)(σ:S D)(k:HH D j.cL->Option ρ):Option ρ:=match BI σ.sl j.sl with
 |some fj=>(Bl T ai j.nx j.cL (j.sl.map oQ) j.ob j.gV σ.nx fj).go σ.ob [] λx _=>
  if qG (x.2.ids.map oQ) σ.lk&&qG x.2.ku σ.lk then k x.1 else none
 |none=>none
def kept(σ:S D)(mv:List Nat):List (Nat×Option (AO D)):=σ.ob.filter λp=> !(bM mv p.1)
def lu(T:bb D)(j:J)(wr:List Nat)(mv:List Nat)(σ:S D)(h:HH D j.cL):Option (S D):=
 let fl:=dE T j.cL h
 if ef σ.nx j.nx&&j.ob.all (λp=>dx p.1 j.nx&&(ef σ.nx p.1||bM j.mv p.1)&& !(bM ((kept σ mv).map bS++σ.lk) p.1))&&j.sl.all (λp=>bM wr p.1)&&qG mv σ.lk then
  match qf T fl aa id j.nx j.sl,jC T fl aa id j.nx j.ob with
  |some a,aa b=>aa ⟨a++σ.sl.filter (λp=> !(bM wr p.1)),b++kept σ mv,j.nx+fl.length,σ.lk⟩
  |_,_=>none
 else none
def vX(D:Nat->Type)(pr:Bool)(ρ:Type):List (Out×J)->Type
 |[]=>ρ
 |(_,j)::r=>match pr,r with
  |true,[]=>HH D j.cL
  |_,_=>HH D j.cL⊕vX D pr ρ r
def toE(T:bb D)(pr:Bool){ρ:Type}:(E:List (Out×J))->Out->S D->Option ρ->Option (vX D pr ρ E)
 |[],_,_,k=>k
 |(o',j)::r,o,σ,k=>match pr,r with
  |true,[]=>if o.beq o' then qE T j σ aa else none
  |false,r=>if o.beq o' then qE T j σ (λh=>aa (.inl h))else match toE T ai r o σ k with
   |some x=>aa (.inr x)
   |none=>none
  |true,x::r=>if o.beq o' then qE T j σ (λh=>aa (.inl h))else match toE T ab (x::r) o σ k with
   |some x=>aa (.inr x)
   |none=>none
def H5{ρ:Type}(T:bb D)(j:J)(wr mv:List Nat)(σ:S D)(k:S D->Option ρ)(h:HH D j.cL):Option ρ:=match lu T j wr mv σ h with
 |some bc=>k bc
 |none=>none
def sO(T:bb D)(pr:Bool){ρ:Type}(wr mv:List Nat)(σ:S D)(k:Out->S D->Option ρ):(E:List (Out×J))->vX D pr ρ E->Option ρ
 |[],x=>aa x
 |(o,j)::r,x=>match pr,r,x with
  |true,[],x=>H5 T j wr mv σ (k o) x
  |false,r,x=>Dc (H5 T j wr mv σ (k o)) (λy=>sO T ai wr mv σ k r y) x
  |true,y::r,x=>Dc (H5 T j wr mv σ (k o)) (λz=>sO T ab wr mv σ k (y::r) z) x
def rk:List (Out×J)->List Nat
 |[]=>[]
 |(_,j)::r=>j.mv++rk r
def ari(σ:S D)(mv:List Nat):S D:={σ with lk:=(kept σ mv).map bS++σ.lk}
def wrap(T:bb D)(wr:List Nat)(cut:Option (Bool×List (Out×J))){ρ:Type}(body:∀{ji:Type},S D->(Out->S D->Option ji)->Option ji)(σ:S D)(k:Out->S D->Option ρ):Option ρ:=match cut with
 |none=>body σ k
 |some (pr,E)=>nA (body (ari σ (rk E)) λo bc=>toE T pr E o bc (k o {bc with lk:=σ.lk})) λx=>sO T pr wr (rk E) σ k E x
