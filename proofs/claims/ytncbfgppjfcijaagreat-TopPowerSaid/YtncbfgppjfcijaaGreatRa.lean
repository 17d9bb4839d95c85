import Derived.Test.YtncbfgppjfcijaaGreatKd
import Derived.KernelRfl
set_option linter.unusedVariables false
open List renaming replicate→aqS
open Nat renaming beq→aqH,ble→aq2,blt→aqZ
open Prod renaming fst→aqO
namespace Go.Proofs.YtncbfgppjfcijaaGreat
open Go Dp
def jC{α:Type}(z:α)(n:Int):Option (List α):=if 0≤n∧n≤1073741824 then some (aqS n.toNat z) else none
def Fa{α:Type}(z:α)(n:Int):Option (List α):=if 0<n∧n≤1073741824 then some (aqS n.toNat z) else none
namespace Rx
abbrev rY{α β:Type}(o:Option α)(f:α→Option β):Option β:=o.bind f
abbrev xo{α β γ:Type}(f:α→γ)(g:β→γ)(x:α⊕β):γ:=Sum.elim f g x
abbrev Cf{α:Type}(c:Bool)(a b:α):α:=Decidable.casesOn (motive:=fun _=>α) (instDecidableEqBool c true) (fun _=>b) (fun _=>a)
abbrev agJ(a b:Int):Int:=W (a+b)
abbrev agf(a b:Int):Int:=W (a-b)
abbrev agD(a b:Int):Int:=W (a*b)
abbrev ags(a:Int):Int:=W (-a)
abbrev FA(a b:Int):Bool:=a==b
abbrev Tl(a b:Int):Bool:=a !=b
abbrev LL(a b:Int):Bool:=decide (a<b)
abbrev Tu(a b:Int):Bool:=decide (a≤b)
abbrev Tw(a b:Int):Bool:=decide (a>b)
abbrev Tx(a b:Int):Bool:=decide (a≥b)
abbrev Ba(a b:Int):Int:=a+b
abbrev sj(a b:Int):Int:=a-b
abbrev agC(a b:Int):Int:=a*b
abbrev jl(k:IntKind)(a:Int):Int:=k.wrap a
abbrev qO(k:IntKind)(a b:Int):Int:=k.wrap ((BitVec.ofInt k.bits a&&&BitVec.ofInt k.bits b).toNat:Int)
abbrev GU{α:Type}(xs:List α)(j:Int)(ys:List α):List α:=xs.take j.toNat++(ys.take (xs.length-j.toNat)++xs.drop (j.toNat+ys.length))
abbrev Ca(n j m:Int):Int:=if m<n-j then m else n-j
abbrev nS{α:Type}(z:α)(xs:List α)(j:Int):List α:=xs.take j.toNat++aqS (xs.length-j.toNat) z
abbrev sR(a b:Int):Option Unit:=if a=b then some () else none
abbrev Dz{α:Type}(xs:List α)(j:Int):List α:=xs.take j.toNat
abbrev GP{α:Type}(xs:List α)(j:Int):List α:=xs.drop j.toNat
abbrev oi(n:Nat)(a b:Int):Option Int:=if b<0 then none else some (a.fdiv (2^min b.toNat n))
abbrev beq'(a b:Bool):Bool:=a==b
abbrev y8(a:Bool):Bool:= !a
abbrev HU(a b:Bool):Bool:=a&&b
abbrev dx(p q:Int):Int:=if q<p then q else p
abbrev imax(p q:Int):Int:=if p<q then q else p
abbrev wX(a b:ByteArray):Bool:=a==b
abbrev Rw(a b:ByteArray):Option ByteArray:=if a.size+b.size≤1073741824 then some (a++b) else none
abbrev Kc(a:ByteArray):Int:=(a.size:Int)
abbrev Kd(s:ByteArray)(j:Int):Option Int:=if 0≤j then(match s.data[j.toNat]? with|some b=>some (b.toNat:Int)|none=>none) else none
abbrev Ke{α:Type}(mk:Int→α)(s:ByteArray):Option (List α):=if s.size≤1073741824 then some (s.data.toList.map fun b=>mk (b.toNat:Int)) else none
abbrev yV{α:Type}(f:α→Int)(xs:List α):ByteArray:=(xs.map f).foldl (fun r n=>r.push (UInt8.ofNat n.toNat)) ByteArray.empty
abbrev neO{α:Type}(xs:List α):Option Unit:=match xs with
 |[]=>none
 |_::_=>some ()
def Fb{α β:Type}(f:α→Bool)(v:α→β)(z:β)(xs:List α):β:=match xs.find? f with
 |some x=>v x
 |none=>z
def E8{α:Type}(f:α→Bool)(z:α)(xs:List α):List α:=if xs.any f=true then xs.map fun x=>if f x=true then z else x else xs++[z]
def k6{σ ρ:Type}(step:σ→Option (σ⊕ρ))(n:Nat):σ→Option ρ:=Nat.rec (motive:=fun _=>σ→Option ρ) (fun _=>none) (fun _ ih s=>match step s with
 |some (.inl s')=>ih s'
 |some (.inr r)=>some r
 |none=>none) n
def ay{σ ρ:Type}(step:σ→Option (σ⊕ρ))(s:σ):Option ρ:=k6 step 18446744073709551616 s
inductive Lf|int (k:IntKind)|bool|str|sl (n:Nat)
deriving DecidableEq
inductive Ht|lf (l:Lf)|el (n:Nat)
section
variable (D:Nat→Type)
@[reducible] def Lf.den:Lf→Type
  | .int _=>Int
  | .bool=>Bool
  | .str=>ByteArray
  | .sl n=>List (D n)
@[reducible] def Ht.den:Ht→Type
  | .lf l=>l.den D
  | .el n=>D n
def HL:List Lf→Type
 |[]=>Unit
 |l::r=>match r with
  |[]=>l.den D
  |_::_=>l.den D×HL r
def HH:List Ht→Type
 |[]=>Unit
 |l::r=>match r with
  |[]=>l.den D
  |_::_=>l.den D×HH r
structure DV where
 l:Lf
 d:l.den D
inductive A0
 |ptr (i off:Nat)
 |rp (n:Nat) (x:D n) (off:Nat) (K:List Nat)
inductive A1
 |v (l:Lf) (d:l.den D) (K:List Nat) (g:Nat)
 |vb (n:Nat) (xs:List (D n)) (K:List Nat) (g:Nat) (b:Bool)
 |ptr (i off:Nat)
 |el (i n:Nat) (j:Int) (y:D n) (off tc tj:Nat)
 |rp (n:Nat) (x:D n) (off:Nat) (K:List Nat)
 |own (i:Nat)
 |fn (f:Nat) (fJ:List (A0 D))
 |ch (i n:Nat) (j:Int) (off ct m:Nat) (d:List (D m))
 |sY (i t:Nat)
 |tail (i n:Nat) (j:Int)
 |pre (i n:Nat) (j:Int)
 |qI
 |nU (n:Nat) (xs:List (D n)) (K:List Nat)
 |bi
 |nA
 |xp
 |undef
 |wq
inductive AC|one (a:A1 D)|agg (l:List (A1 D))
inductive AV|c (x:AC D)|cL (l:List (AC D))
inductive AO
 |box (cs:List (A1 D))
 |sl (n T:Nat) (xs:List (D n)) (K:List Nat) (g:Nat)
 |bU (n T Tc m:Nat) (xs:List (D n)) (g ht:Nat)
 |fi (n T Tc m:Nat) (xs:List (D n)) (j:Int) (off t g:Nat)
 |fz (n:Nat) (xs:List (D n)) (K:List Nat)
 |mp (n:Nat) (xs:List (D n))
inductive Q(α:Type):Type 1
 |ret (a:α)
 |fail
 |obj (i:Nat) (k:AO D→Q α)
 |part {β:Type} (o:Option β) (k:β→Q α)
inductive g_|one (l:Lf)|st (n:Nat)|ptr|fn
structure aV where
 lv:Nat→List Lf
 ag:Nat→Bool
 xl:∀n,D n→HL D (lv n)
 uu:∀n,HL D (lv n)→D n
 zero:∀n,D n
 ty:List (Nat×g_)
 oR:List (Nat×List (Nat×Nat))
 bS:List (Nat×Nat×Nat)
 vD:List (Nat×List Lf)
 kd:List (Nat×Nat×Nat)
 ml:List (Nat×Nat×Nat×Nat)
 pre:List Nat
 ou:List (Nat×Nat×Nat×Nat)
structure S where
 sl:List (Nat×AV D)
 ob:List (Nat×Option (AO D))
 nx:Nat
 lk:List Nat
structure bT where
 dst:AV D
 nt:List (Nat×Option (AO D))
 fz:List Nat
end
def uD(K:List Nat):Lf→List Nat
 | .sl _=>K
 |_=>[]
def au{α:Type}:List (Nat×α)→Nat→Option α
 |[],_=>none
 |p::r,t=>cond (aqH p.1 t) (some p.2) (au r t)
def bp:List Nat→Nat→Bool
 |[],_=>false
 |p::r,t=>cond (aqH p t) true (bp r t)
inductive Out|normal|exit (id:Nat)|goto (l:Nat)|ret
def Out.beq:Out→Out→Bool
 | .normal,.normal=>true
 | .exit a,.exit b=>aqH a b
 | .goto a,.goto b=>aqH a b
 | .ret,.ret=>true
 |_,_=>false
inductive P0|ptr (i off:Nat)|rp (i n:Nat) (K:List Nat)
inductive P1
 |h (i:Nat) (K:List Nat)
 |hb (i j:Nat) (K:List Nat)
 |ptr (i off:Nat)
 |own (i:Nat)
 |rp (i n:Nat) (K:List Nat)
 |fn (f:Nat) (fJ:List P0)
 |bi
 |nA
 |any
 |qI
inductive PC|one (p:P1)|agg (ps:List P1)
inductive PO|box (ps:List P1)|sl (n T i:Nat) (K:List Nat)|bU (n T Tc m i:Nat)|mp (n i:Nat)
structure J where
 bZ:List Ht
 sl:List (Nat×PC)
 ob:List (Nat×PO)
 mv:List Nat
 nx:Nat
structure ar(D:Nat→Type) where
 f:Nat
 ins:List Ht
 outs:List Ht
 args:List PC
 ob:List (Nat×PO)
 ie:List PC
 bG:List (Nat×PO)
 fn:HH D ins→Option (HH D outs)
inductive Sg|nil|oj (s m:Nat) (j:J) (inner next:Sg)|rF (s:Nat) (l:List Nat) (next:Sg)
inductive An
 |o
 |n (cut:Option (Bool×List (Out×J))) (a b:An)
 |r (cut:Option (Bool×List (Out×J))) (s:Sg)
 |loop (j:J) (pr:Bool) (E:List (Out×J)) (a:An)
 |f (l:List Nat) (a:An)
 |lab (j:J) (pr:Bool) (E:List (Out×J)) (a:An)
def An.fz:An→List Nat
 | .f l _=>l
 |_=>[]
def An.un:An→An
 | .f _ a=>a
 |a=>a
def An.cut:An→Option (Bool×List (Out×J))
 | .n c _ _=>c
 | .r c _=>c
 |_=>none
def An.a:An→An
 | .n _ a _=>a
 |_=> .o
def An.b:An→An
 | .n _ _ b=>b
 |_=> .o
def An.sg:An→Sg
 | .r _ s=>s
 |_=> .nil
section
variable {D:Nat→Type}
def Q.bind{α β:Type}:Q D α→(α→Q D β)→Q D β
 | .ret a,f=>f a
 | .fail,_=> .fail
 | .obj i k,f=> .obj i fun x=>(k x).bind f
 | .part o k,f=> .part o fun y=>(k y).bind f
def cw(ob:List (Nat×Option (AO D)))(i:Nat):Option (AO D):=match au ob i with
 |some (some x)=>some x
 |_=>none
def Q.go{ρ α:Type}(ob:List (Nat×Option (AO D))):Q D α→List Nat→(α→List Nat→Option ρ)→Option ρ
 | .ret a,lg,k=>k a lg
 | .fail,_,_=>none
 | .obj i f,lg,k=>match cw ob i with
   |some x=>(f x).go ob (i::lg) k
   |none=>none
 | .part o f,lg,k=>rY o fun y=>(f y).go ob lg k
def toHL:(ts:List Lf)→List (DV D)→Option (HL D ts)
 |[],l=>match l with
  |[]=>some ()
  |_=>none
 |l::r,ds=>match r,ds with
  |[],[⟨l',d⟩]=>if h:l'=l then some (h▸d) else none
  |m::r',⟨l',d⟩::m_=>if h:l'=l then match toHL (m::r') m_ with
   |some x=>some (h▸d,x)
   |none=>none
   else none
  |_,_=>none
def ot:(ts:List Lf)→HL D ts→List (DV D)
 |[],_=>[]
 |l::r,x=>match r,x with
  |[],x=>[⟨l,x⟩]
  |m::r',x=>⟨l,x.1⟩::ot (m::r') x.2
def aV.out(T:aV D)(n:Nat)(x:D n):List (DV D):=ot (T.lv n) (T.xl n x)
def aV.gi(T:aV D)(n:Nat)(l:List (DV D)):Option (D n):=match toHL (T.lv n) l with
 |some h=>some (T.uu n h)
 |none=>none
def rD(T:aV D):(t:Ht)→List (DV D)→Option (t.den D×List (DV D))
 | .lf l,⟨l',d⟩::r=>if h:l'=l then some (h▸d,r) else none
 | .lf _,[]=>none
 | .el n,ds=>match T.gi n (ds.take (T.lv n).length) with
   |some x=>some (x,ds.drop (T.lv n).length)
   |none=>none
def toHH(T:aV D):(ts:List Ht)→List (DV D)→Option (HH D ts)
 |[],l=>match l with
  |[]=>some ()
  |_=>none
 |t::r,ds=>match r with
  |[]=>match rD T t ds with
   |some (x,[])=>some x
   |_=>none
  |m::r'=>match rD T t ds with
   |some (x,m_)=>match toHH T (m::r') m_ with
    |some y=>some (x,y)
    |none=>none
   |none=>none
def E2(T:aV D):(t:Ht)→t.den D→List (DV D)
 | .lf l,x=>[⟨l,x⟩]
 | .el n,x=>T.out n x
def cN(T:aV D):(ts:List Ht)→HH D ts→List (DV D)
 |[],_=>[]
 |t::r,x=>match r,x with
  |[],x=>E2 T t x
  |m::r',x=>E2 T t x.1++cN T (m::r') x.2
def Ht.lfs(T:aV D):Ht→List Lf
 | .lf l=>[l]
 | .el n=>T.lv n
def QQ(T:aV D):List Ht→List Lf
 |[]=>[]
 |t::r=>t.lfs T++QQ T r
structure M(D:Nat→Type) where
 call:Bool
 xb:Nat
 tl:List Lf
 po:List (Nat×PO)
 ids:List (Nat×Nat)
 eg:List (Nat×DV D)
 ku:List Nat
 kr:List Nat
 new:List (Nat×AO D)
 nf:Nat
def zL(K K':List Nat):Bool:=K.all (bp K')
def M.dv(m:M D)(i:Nat)(d:DV D):M D:={m with eg:=(i,d)::m.eg}
def M.reads(m:M D)(K:List Nat):M D:={m with kr:=K++m.kr}
def M.pj(m:M D)(i:Nat):M D:={m with ku:=i::m.ku}
def M.may(m:M D)(K Kp:List Nat):Bool:=if m.call then K.isEmpty||bp Kp 0 else zL K Kp
def M.bind(m:M D)(p i:Nat):Q D (M D):=match au m.ids p with
 |some i'=>if aqH i' i then .ret m else .fail
 |none=>if bp (m.po.map aqO) p then(if bp (m.ids.map Prod.snd) i then .fail else .ret {m with ids:=(p,i)::m.ids})
  else if !m.call&&aqH p i&&aqZ p m.xb then .ret m else .fail
def vV:AO D→Option (DV D×List Nat)
 | .sl n _ xs K _=>some (⟨.sl n,xs⟩,K)
 | .bU n _ _ _ xs _ _=>some (⟨.sl n,xs⟩,[])
 |_=>none
def HV:AO D→Option (DV D×List Nat)
 | .fz n xs K=>some (⟨.sl n,xs⟩,K)
 |_=>none
def qD(m:M D)(i:Nat)(Kp:List Nat):A1 D→Q D (M D)
 | .v l d K _=>if m.may K Kp then .ret ((m.dv i ⟨l,d⟩).reads K) else .fail
 | .vb n xs K _ _=>if m.may K Kp then .ret ((m.dv i ⟨.sl n,xs⟩).reads K) else .fail
 | .bi=>match m.tl[i]? with
   |some (.sl n)=> .ret (m.dv i ⟨.sl n,[]⟩)
   |_=> .fail
 | .own j=> .obj j fun o=>match HV o with
   |some (d,K)=>if m.may K Kp then .ret ((m.dv i d).reads K) else .fail
   |none=>match vV o with
    |some (d,K)=>if m.may (1::K) Kp then .ret (((m.dv i d).reads K).pj j) else .fail
    |none=> .fail
 | .ch i' n j off ct q d=> .obj i' fun
   | .bU n' _ _ q' _ _ ht=>if aqH n n'&&aqH q q'&&aqH ct ht&&m.may [1] Kp then .ret ((m.dv i ⟨.sl q,d⟩).pj i') else .fail
   |_=> .fail
 |_=> .fail
def EK(Kp:List Nat):M D→Nat→List (A1 D)→Q D (M D)
 |m,_,[]=> .ret m
 |m,i,a::r=>(qD m i Kp a).bind fun m=>EK Kp m (i+1) r
def qC:M D→Nat→List (DV D)→M D
 |m,_,[]=>m
 |m,i,d::r=>qC (m.dv i d) (i+1) r
def Fh(T:aV D)(m:M D)(i n:Nat)(Kp:List Nat)(n':Nat)(x:D n')(off:Nat)(K:List Nat):Q D (M D):=
 if aqH n n'&&aqH off 0&&m.may K Kp then .ret ((qC m i (T.out n' x)).reads K) else .fail
def KZ(T:aV D)(m:M D)(i n:Nat)(Kp:List Nat)(j:Nat):Q D (M D):= .obj j fun
 | .box cs=>if aqH cs.length (T.lv n).length&&m.may [1] Kp then(EK Kp (m.pj j) i cs) else .fail
 |_=> .fail
def storable:A1 D→Bool
 | .undef=>false
 | .ch .. =>false
 | .sY .. =>false
 | .tail .. =>false
 | .pre .. =>false
 | .nU .. =>false
 | .wq=>false
 |_=>true
def m0(T:aV D)(m:M D):P0→A0 D→Q D (M D)
 | .ptr p off,.ptr i pA=>if aqH off pA then m.bind p i else .fail
 | .rp i n Kp,.rp n' x off K=>Fh T m i n Kp n' x off K
 | .rp i n Kp,.ptr j off=>if aqH off 0 then KZ T m i n Kp j else .fail
 |_,_=> .fail
def Fk(T:aV D):M D→List P0→List (A0 D)→Q D (M D)
 |m,[],[]=> .ret m
 |m,p::ps,a::as=>(m0 T m p a).bind fun m=>Fk T m ps as
 |_,_,_=> .fail
def m1(T:aV D)(m:M D):P1→A1 D→Q D (M D)
 | .h i K,a=>qD m i K a
 | .hb i j K,.vb n xs K' _ b=>(qD m i K (.v (.sl n) xs K' 0)).bind fun m=> .ret (m.dv j ⟨.bool,b⟩)
 | .hb i j K,.bi=>(qD m i K .bi).bind fun m=> .ret (m.dv j ⟨.bool,true⟩)
 | .hb i j K,.own q=> .obj q fun
   | .sl _ _ xs _ _=> .part (neO xs) fun _=>(qD m i K (.own q)).bind fun m=> .ret (m.dv j ⟨.bool,false⟩)
   |_=> .fail
 | .ptr p off,.ptr i pA=>if aqH off pA then m.bind p i else .fail
 | .own p,.own i=>m.bind p i
 | .own p,.bi=>match au m.po p with
   |some (.sl n t _ _)=>{m with new:=(m.nf,.sl n t [] [] 0)::m.new,nf:=m.nf+1}.bind p m.nf
   |_=> .fail
 | .rp i n Kp,.rp n' x off K=>Fh T m i n Kp n' x off K
 | .rp i n Kp,.ptr j off=>if aqH off 0 then KZ T m i n Kp j else .fail
 | .fn f ps,.fn f' as=>if aqH f f' then Fk T m ps as else .fail
 | .bi,.bi=> .ret m
 | .nA,.nA=> .ret m
 | .any,_=> .ret m
 | .qI,a=>if storable a then .ret m else .fail
 |_,_=> .fail
def AY(T:aV D):M D→List P1→List (A1 D)→Q D (M D)
 |m,[],[]=> .ret m
 |m,p::ps,a::as=>(m1 T m p a).bind fun m=>AY T m ps as
 |_,_,_=> .fail
def mC(T:aV D)(m:M D):PC→AV D→Q D (M D)
 | .one p,.c (.one a)=>m1 T m p a
 | .agg ps,.c (.agg l)=>AY T m ps l
 | .one .any,_=> .ret m
 |_,_=> .fail
def Fj(T:aV D):M D→List PC→List (AV D)→Q D (M D)
 |m,[],[]=> .ret m
 |m,p::ps,a::as=>(mC T m p a).bind fun m=>Fj T m ps as
 |_,_,_=> .fail
def mO(T:aV D)(m:M D):PO→AO D→Q D (M D)
 | .box ps,.box cs=>AY T m ps cs
 | .sl n t i Kp,.sl n' t' xs K _=>if aqH n n'&&aqH t t'&&m.may K Kp then .ret ((m.dv i ⟨.sl n',xs⟩).reads K) else .fail
 | .bU n t tc q i,.bU n' t' rG q' xs _ _=>if aqH n n'&&aqH t t'&&aqH tc rG&&aqH q q' then .ret (m.dv i ⟨.sl n',xs⟩) else .fail
 | .mp n i,.mp n' xs=>if aqH n n' then .ret (m.dv i ⟨.sl n',xs⟩) else .fail
 |_,_=> .fail
def xt(T:aV D):M D→List (Nat×PO)→Q D (M D)
 |m,[]=> .ret m
 |m,(p,po)::r=>match au m.ids p with
  |none=> .fail
  |some i=>match au m.new i with
   |some ao=>(mO T m po ao).bind fun m=>xt T m r
   |none=> .obj i fun ao=>(mO T m po ao).bind fun m=>xt T m r
def Fs(eg:List (Nat×DV D)):Nat→Nat→Option (List (DV D))
 |_,0=>some []
 |i,n+1=>match au eg i,Fs eg (i+1) n with
  |some d,some r=>some (d::r)
  |_,_=>none
def jX:List Nat→Bool
 |[]=>true
 |x::r=> !(bp r x)&&jX r
def na(a b:List Nat):Bool:=a.all fun x=> !(bp b x)
def si:P1→List Nat
 | .h _ K=>K
 | .hb _ _ K=>K
 | .rp _ _ K=>K
 | .fn _ ps=>ps.flatMap fun| .rp _ _ K=>K|_=>[]
 |_=>[]
def oA:PC→List Nat
 | .one p=>si p
 | .agg ps=>ps.flatMap si
def oz:PO→List Nat
 | .box ps=>ps.flatMap si
 | .sl _ _ _ K=>K
 | .bU .. =>[]
 | .mp .. =>[]
def pE(rU:List PC)(po:List (Nat×PO)):Bool:=(rU.flatMap oA).all (fun x=>aqZ x 2)&&(po.flatMap fun p=>oz p.2).all fun x=>aqZ x 2
def M.ok(m:M D)(po:List (Nat×PO)):Bool:=
 jX (m.eg.map aqO)&&m.eg.all (fun p=>aqZ p.1 m.tl.length)&&na (m.ids.map Prod.snd) m.ku&&jX (m.ids.map aqO)&&jX (m.ids.map Prod.snd)&&m.ids.all (fun p=>aq2 1000 p.2)&&m.ku.all (aq2 1000)&&m.ids.all (fun p=>bp (po.map aqO) p.1)&&m.kr.all (fun x=>aqZ x 2)
def ye(T:aV D)(call:Bool)(xb:Nat)(bZ:List Ht)(rU:List PC)(po:List (Nat×PO))(pH:List (Nat×Nat))(nf:Nat)(dA:List (AV D)):Q D (HH D bZ×M D):=
 (Fj T ⟨call,xb,QQ T bZ,po,pH,[],[],[],[],nf⟩ rU dA).bind fun m=>(xt T m po).bind fun m=>
   if m.ok po&&pE rU po then match Fs m.eg 0 m.tl.length with
    |some l=>match toHH T bZ l with
     |some h=> .ret (h,m)
     |none=> .fail
    |none=> .fail
   else .fail
section
variable (T:aV D) (fl:List (DV D)) (ri:Nat→Option Nat) (rK:List Nat→List Nat) (tg:Nat)
def qN:P0→Option (A0 D)
 | .ptr p off=>match ri p with
   |some i=>some (.ptr i off)
   |none=>none
 | .rp i n K=>match T.gi n ((fl.drop i).take (T.lv n).length) with
   |some x=>some (.rp n x 0 (rK K))
   |none=>none
def so:List P0→Option (List (A0 D))
 |[]=>some []
 |p::r=>match qN T fl ri rK p,so r with
  |some a,some b=>some (a::b)
  |_,_=>none
def fP:P1→Option (A1 D)
 | .h i K=>match fl[i]? with
   |some ⟨l,d⟩=>some (.v l d (uD (rK K) l) (tg+i))
   |none=>none
 | .hb i j K=>match fl[i]?,fl[j]? with
   |some ⟨.sl n,xs⟩,some ⟨.bool,b⟩=>some (.vb n xs (rK K) (tg+i) b)
   |_,_=>none
 | .ptr p off=>match ri p with
   |some i=>some (.ptr i off)
   |none=>none
 | .own p=>match ri p with
   |some i=>some (.own i)
   |none=>none
 | .rp i n K=>match T.gi n ((fl.drop i).take (T.lv n).length) with
   |some x=>some (.rp n x 0 (rK K))
   |none=>none
 | .fn f ps=>match so T fl ri rK ps with
   |some cs=>some (.fn f cs)
   |none=>none
 | .bi=>some .bi
 | .nA=>some .nA
 | .any=>some .wq
 | .qI=>some .qI
def qM:List P1→Option (List (A1 D))
 |[]=>some []
 |p::r=>match fP T fl ri rK tg p,qM r with
  |some a,some b=>some (a::b)
  |_,_=>none
def qL:PC→Option (AC D)
 | .one p=>match fP T fl ri rK tg p with
   |some a=>some (.one a)
   |none=>none
 | .agg ps=>match qM T fl ri rK tg ps with
   |some l=>some (.agg l)
   |none=>none
def fO:List PC→Option (List (AC D))
 |[]=>some []
 |p::r=>match qL T fl ri rK tg p,fO r with
  |some a,some b=>some (a::b)
  |_,_=>none
def lQ(l:List (Nat×PC)):Option (List (Nat×AV D)):=match fO T fl ri rK tg (l.map Prod.snd) with
 |some as=>some (nq (l.map aqO) as)
 |none=>none
where nq:List Nat→List (AC D)→List (Nat×AV D)
 |t::ts,a::as=>(t,.c a)::nq ts as
 |_,_=>[]
def lR:PO→Option (AO D)
 | .box ps=>match qM T fl ri rK tg ps with
   |some l=>if l.all storable then some (.box l) else none
   |none=>none
 | .sl n t i K=>match fl[i]? with
   |some ⟨.sl n',xs⟩=>if aqH n n' then some (.sl n' t xs (rK K) (tg+i)) else none
   |_=>none
 | .bU n t tc q i=>match fl[i]? with
   |some ⟨.sl n',xs⟩=>if aqH n n' then some (.bU n' t tc q xs (tg+i) 0) else none
   |_=>none
 | .mp n i=>match fl[i]? with
   |some ⟨.sl n',xs⟩=>if aqH n n' then some (.mp n' xs) else none
   |_=>none
def gj:List (Nat×PO)→Option (List (Nat×Option (AO D)))
 |[]=>some []
 |(p,po)::r=>match ri p,lR T fl ri rK tg po,gj r with
  |some i,some a,some b=>some ((i,some a)::b)
  |_,_,_=>none
end
def J.dW(j:J):List (Nat×Nat):=(j.ob.filter fun p=>bp j.mv p.1).map fun p=>(p.1,p.1)
def vU(sl:List (Nat×AV D)):List (Nat×PC)→Option (List (AV D))
 |[]=>some []
 |(t,_)::r=>match au sl t,vU sl r with
  |some a,some b=>some (a::b)
  |_,_=>none
def rb{ρ:Type}(T:aV D)(j:J)(σ:S D)(k:HH D j.bZ→Option ρ):Option ρ:=match vU σ.sl j.sl with
 |some dA=>(ye T false j.nx j.bZ (j.sl.map Prod.snd) j.ob j.dW σ.nx dA).go σ.ob [] fun x _=>
  if na (x.2.ids.map Prod.snd) σ.lk&&na x.2.ku σ.lk then k x.1 else none
 |none=>none
def kept(σ:S D)(mv:List Nat):List (Nat×Option (AO D)):=σ.ob.filter fun p=> !(bp mv p.1)
def k9(T:aV D)(j:J)(wr:List Nat)(mv:List Nat)(σ:S D)(h:HH D j.bZ):Option (S D):=
 let fl:=cN T j.bZ h
 if aq2 σ.nx j.nx&&j.ob.all (fun p=>aqZ p.1 j.nx&&(aq2 σ.nx p.1||bp j.mv p.1)&& !(bp ((kept σ mv).map aqO++σ.lk) p.1))&&j.sl.all (fun p=>bp wr p.1)&&na mv σ.lk then
  match lQ T fl some id j.nx j.sl,gj T fl some id j.nx j.ob with
  |some a,some b=>some ⟨a++σ.sl.filter (fun p=> !(bp wr p.1)),b++kept σ mv,j.nx+fl.length,σ.lk⟩
  |_,_=>none
 else none
def nY(D:Nat→Type)(pr:Bool)(ρ:Type):List (Out×J)→Type
 |[]=>ρ
 |(_,j)::r=>match pr,r with
  |true,[]=>HH D j.bZ
  |_,_=>HH D j.bZ⊕nY D pr ρ r
def toE(T:aV D)(pr:Bool){ρ:Type}:(E:List (Out×J))→Out→S D→Option ρ→Option (nY D pr ρ E)
 |[],_,_,k=>k
 |(o',j)::r,o,σ,k=>match pr,r with
  |true,[]=>if o.beq o' then rb T j σ some else none
  |false,r=>if o.beq o' then rb T j σ (fun h=>some (.inl h)) else match toE T false r o σ k with
   |some x=>some (.inr x)
   |none=>none
  |true,x::r=>if o.beq o' then rb T j σ (fun h=>some (.inl h)) else match toE T true (x::r) o σ k with
   |some x=>some (.inr x)
   |none=>none
def BV{ρ:Type}(T:aV D)(j:J)(wr mv:List Nat)(σ:S D)(k:S D→Option ρ)(h:HH D j.bZ):Option ρ:=match k9 T j wr mv σ h with
 |some aI=>k aI
 |none=>none
def oQ(T:aV D)(pr:Bool){ρ:Type}(wr mv:List Nat)(σ:S D)(k:Out→S D→Option ρ):(E:List (Out×J))→nY D pr ρ E→Option ρ
 |[],x=>some x
 |(o,j)::r,x=>match pr,r,x with
  |true,[],x=>BV T j wr mv σ (k o) x
  |false,r,x=>xo (BV T j wr mv σ (k o)) (fun y=>oQ T false wr mv σ k r y) x
  |true,y::r,x=>xo (BV T j wr mv σ (k o)) (fun z=>oQ T true wr mv σ k (y::r) z) x
def pC:List (Out×J)→List Nat
 |[]=>[]
 |(_,j)::r=>j.mv++pC r
def afM(σ:S D)(mv:List Nat):S D:={σ with lk:=(kept σ mv).map aqO++σ.lk}
def wrap(T:aV D)(wr:List Nat)(cut:Option (Bool×List (Out×J))){ρ:Type}(body:∀{eo:Type},S D→(Out→S D→Option eo)→Option eo)(σ:S D)(k:Out→S D→Option ρ):Option ρ:=match cut with
 |none=>body σ k
 |some (pr,E)=>rY (body (afM σ (pC E)) fun o aI=>toE T pr E o aI (k o {aI with lk:=σ.lk})) fun x=>oQ T pr wr (pC E) σ k E x
end
end Rx
end Go.Proofs.YtncbfgppjfcijaaGreat
