import Derived.Test.YtaneejpkncdodaaGreatKd
import Derived.KernelRfl
set_option linter.unusedVariables false
namespace Go.Proofs.YtaneejpkncdodaaGreat
open Go Dp
def ki{α:Type}(z:α)(n:Int):Option (List α):=if 0≤n∧n≤1073741824 then some (List.replicate n.toNat z) else none
def EF{α:Type}(z:α)(n:Int):Option (List α):=if 0<n∧n≤1073741824 then some (List.replicate n.toNat z) else none
namespace Rx
abbrev rI{α β:Type}(o:Option α)(f:α→Option β):Option β:=o.bind f
abbrev w6{α β γ:Type}(f:α→γ)(g:β→γ)(x:α⊕β):γ:=Sum.elim f g x
abbrev pZ{α:Type}(c:Bool)(a b:α):α:=Decidable.casesOn (motive:=fun _=>α) (instDecidableEqBool c true) (fun _=>b) (fun _=>a)
abbrev adQ(a b:Int):Int:=W (a+b)
abbrev adq(a b:Int):Int:=W (a-b)
abbrev adL(a b:Int):Int:=W (a*b)
abbrev adB(a:Int):Int:=W (-a)
abbrev E5(a b:Int):Bool:=a==b
abbrev RO(a b:Int):Bool:=a !=b
abbrev Kh(a b:Int):Bool:=decide (a<b)
abbrev RX(a b:Int):Bool:=decide (a≤b)
abbrev RZ(a b:Int):Bool:=decide (a>b)
abbrev R0(a b:Int):Bool:=decide (a≥b)
abbrev AM(a b:Int):Int:=a+b
abbrev rQ(a b:Int):Int:=a-b
abbrev adK(a b:Int):Int:=a*b
abbrev jc(k:IntKind)(a:Int):Int:=k.wrap a
abbrev qF(k:IntKind)(a b:Int):Int:=k.wrap ((BitVec.ofInt k.bits a&&&BitVec.ofInt k.bits b).toNat:Int)
abbrev Gt{α:Type}(xs:List α)(j:Int)(ys:List α):List α:=xs.take j.toNat++(ys.take (xs.length-j.toNat)++xs.drop (j.toNat+ys.length))
abbrev BV(n j m:Int):Int:=if m<n-j then m else n-j
abbrev mU{α:Type}(z:α)(xs:List α)(j:Int):List α:=xs.take j.toNat++List.replicate (xs.length-j.toNat) z
abbrev sF(a b:Int):Option Unit:=if a=b then some () else none
abbrev C8{α:Type}(xs:List α)(j:Int):List α:=xs.take j.toNat
abbrev Gn{α:Type}(xs:List α)(j:Int):List α:=xs.drop j.toNat
abbrev nY(n:Nat)(a b:Int):Option Int:=if b<0 then none else some (a.fdiv (2^min b.toNat n))
abbrev beq'(a b:Bool):Bool:=a==b
abbrev yI(a:Bool):Bool:= !a
abbrev Hr(a b:Bool):Bool:=a&&b
abbrev kq(p q:Int):Int:=if q<p then q else p
abbrev imax(p q:Int):Int:=if p<q then q else p
abbrev wy(a b:ByteArray):Bool:=a==b
abbrev PS(a b:ByteArray):Option ByteArray:=if a.size+b.size≤1073741824 then some (a++b) else none
abbrev Jb(a:ByteArray):Int:=(a.size:Int)
abbrev Jc(s:ByteArray)(j:Int):Option Int:=if 0≤j then(match s.data[j.toNat]? with|some b=>some (b.toNat:Int)|none=>none) else none
abbrev Jd{α:Type}(mk:Int→α)(s:ByteArray):Option (List α):=if s.size≤1073741824 then some (s.data.toList.map fun b=>mk (b.toNat:Int)) else none
abbrev yz{α:Type}(f:α→Int)(xs:List α):ByteArray:=(xs.map f).foldl (fun r n=>r.push (UInt8.ofNat n.toNat)) ByteArray.empty
abbrev neO{α:Type}(xs:List α):Option Unit:=match xs with
 |[]=>none
 |_::_=>some ()
def EG{α β:Type}(f:α→Bool)(v:α→β)(z:β)(xs:List α):β:=match xs.find? f with
 |some x=>v x
 |none=>z
def ED{α:Type}(f:α→Bool)(z:α)(xs:List α):List α:=if xs.any f=true then xs.map fun x=>if f x=true then z else x else xs++[z]
def kW{σ ρ:Type}(step:σ→Option (σ⊕ρ))(n:Nat):σ→Option ρ:=Nat.rec (motive:=fun _=>σ→Option ρ) (fun _=>none) (fun _ ih s=>match step s with
 |some (.inl s')=>ih s'
 |some (.inr r)=>some r
 |none=>none) n
def aC{σ ρ:Type}(step:σ→Option (σ⊕ρ))(s:σ):Option ρ:=kW step 18446744073709551616 s
inductive Lf|int (k:IntKind)|bool|str|sl (n:Nat)
deriving DecidableEq
inductive Ht|lf (l:Lf)|el (n:Nat)
section
variable (D:Nat→Type)
@[reducible] def Lf.den:Lf→Type
  | .int _=>Int
  | .bool=>Bool
  | .str=>ByteArray
  | .sl n=>List (D n)
@[reducible] def Ht.den:Ht→Type
  | .lf l=>l.den D
  | .el n=>D n
def HL:List Lf→Type
 |[]=>Unit
 |l::r=>match r with
  |[]=>l.den D
  |_::_=>l.den D×HL r
def HH:List Ht→Type
 |[]=>Unit
 |l::r=>match r with
  |[]=>l.den D
  |_::_=>l.den D×HH r
structure DV where
 l:Lf
 d:l.den D
inductive A0
 |ptr (i off:Nat)
 |rp (n:Nat) (x:D n) (off:Nat) (K:List Nat)
inductive A1
 |v (l:Lf) (d:l.den D) (K:List Nat) (g:Nat)
 |vb (n:Nat) (xs:List (D n)) (K:List Nat) (g:Nat) (b:Bool)
 |ptr (i off:Nat)
 |el (i n:Nat) (j:Int) (y:D n) (off tc tj:Nat)
 |rp (n:Nat) (x:D n) (off:Nat) (K:List Nat)
 |own (i:Nat)
 |fn (f:Nat) (fI:List (A0 D))
 |ch (i n:Nat) (j:Int) (off ct m:Nat) (d:List (D m))
 |sM (i t:Nat)
 |tail (i n:Nat) (j:Int)
 |pre (i n:Nat) (j:Int)
 |qB
 |nM (n:Nat) (xs:List (D n)) (K:List Nat)
 |bn
 |np
 |w7
 |undef
 |vP
inductive AC|one (a:A1 D)|agg (l:List (A1 D))
inductive AV|c (x:AC D)|cP (l:List (AC D))
inductive AO
 |box (cs:List (A1 D))
 |sl (n T:Nat) (xs:List (D n)) (K:List Nat) (g:Nat)
 |bY (n T Tc m:Nat) (xs:List (D n)) (g ht:Nat)
 |ff (n T Tc m:Nat) (xs:List (D n)) (j:Int) (off t g:Nat)
 |fz (n:Nat) (xs:List (D n)) (K:List Nat)
 |mp (n:Nat) (xs:List (D n))
inductive Q(α:Type):Type 1
 |ret (a:α)
 |fail
 |obj (i:Nat) (k:AO D→Q α)
 |part {β:Type} (o:Option β) (k:β→Q α)
inductive gY|one (l:Lf)|st (n:Nat)|ptr|fn
structure aV where
 lv:Nat→List Lf
 ag:Nat→Bool
 wV:∀n,D n→HL D (lv n)
 tS:∀n,HL D (lv n)→D n
 zero:∀n,D n
 ty:List (Nat×gY)
 oJ:List (Nat×List (Nat×Nat))
 bV:List (Nat×Nat×Nat)
 uZ:List (Nat×List Lf)
 kd:List (Nat×Nat×Nat)
 mi:List (Nat×Nat×Nat×Nat)
 pre:List Nat
 oe:List (Nat×Nat×Nat×Nat)
structure S where
 sl:List (Nat×AV D)
 ob:List (Nat×Option (AO D))
 nx:Nat
 lk:List Nat
structure bX where
 dst:AV D
 nh:List (Nat×Option (AO D))
 fz:List Nat
end
def ua(K:List Nat):Lf→List Nat
 | .sl _=>K
 |_=>[]
def aq{α:Type}:List (Nat×α)→Nat→Option α
 |[],_=>none
 |p::r,t=>cond (Nat.beq p.1 t) (some p.2) (aq r t)
def bo:List Nat→Nat→Bool
 |[],_=>false
 |p::r,t=>cond (Nat.beq p t) true (bo r t)
inductive Out|normal|exit (id:Nat)|goto (l:Nat)|ret
def Out.beq:Out→Out→Bool
 | .normal,.normal=>true
 | .exit a,.exit b=>Nat.beq a b
 | .goto a,.goto b=>Nat.beq a b
 | .ret,.ret=>true
 |_,_=>false
inductive P0|ptr (i off:Nat)|rp (i n:Nat) (K:List Nat)
inductive P1
 |h (i:Nat) (K:List Nat)
 |hb (i j:Nat) (K:List Nat)
 |ptr (i off:Nat)
 |own (i:Nat)
 |rp (i n:Nat) (K:List Nat)
 |fn (f:Nat) (fI:List P0)
 |bn
 |np
 |any
 |qB
inductive PC|one (p:P1)|agg (ps:List P1)
inductive PO|box (ps:List P1)|sl (n T i:Nat) (K:List Nat)|bY (n T Tc m i:Nat)|mp (n i:Nat)
structure J where
 ci:List Ht
 sl:List (Nat×PC)
 ob:List (Nat×PO)
 mv:List Nat
 nx:Nat
structure au(D:Nat→Type) where
 f:Nat
 ins:List Ht
 outs:List Ht
 args:List PC
 ob:List (Nat×PO)
 ir:List PC
 bI:List (Nat×PO)
 fn:HH D ins→Option (HH D outs)
inductive Sg|nil|nZ (s m:Nat) (j:J) (inner next:Sg)|rk (s:Nat) (l:List Nat) (next:Sg)
inductive An
 |o
 |n (cut:Option (Bool×List (Out×J))) (a b:An)
 |r (cut:Option (Bool×List (Out×J))) (s:Sg)
 |loop (j:J) (pr:Bool) (E:List (Out×J)) (a:An)
 |f (l:List Nat) (a:An)
 |lab (j:J) (pr:Bool) (E:List (Out×J)) (a:An)
def An.fz:An→List Nat
 | .f l _=>l
 |_=>[]
def An.un:An→An
 | .f _ a=>a
 |a=>a
def An.cut:An→Option (Bool×List (Out×J))
 | .n c _ _=>c
 | .r c _=>c
 |_=>none
def An.a:An→An
 | .n _ a _=>a
 |_=> .o
def An.b:An→An
 | .n _ _ b=>b
 |_=> .o
def An.sg:An→Sg
 | .r _ s=>s
 |_=> .nil
section
variable {D:Nat→Type}
def Q.bind{α β:Type}:Q D α→(α→Q D β)→Q D β
 | .ret a,f=>f a
 | .fail,_=> .fail
 | .obj i k,f=> .obj i fun x=>(k x).bind f
 | .part o k,f=> .part o fun y=>(k y).bind f
def cz(ob:List (Nat×Option (AO D)))(i:Nat):Option (AO D):=match aq ob i with
 |some (some x)=>some x
 |_=>none
def Q.go{ρ α:Type}(ob:List (Nat×Option (AO D))):Q D α→List Nat→(α→List Nat→Option ρ)→Option ρ
 | .ret a,lg,k=>k a lg
 | .fail,_,_=>none
 | .obj i f,lg,k=>match cz ob i with
   |some x=>(f x).go ob (i::lg) k
   |none=>none
 | .part o f,lg,k=>rI o fun y=>(f y).go ob lg k
def toHL:(ts:List Lf)→List (DV D)→Option (HL D ts)
 |[],l=>match l with
  |[]=>some ()
  |_=>none
 |l::r,ds=>match r,ds with
  |[],[⟨l',d⟩]=>if h:l'=l then some (h▸d) else none
  |m::r',⟨l',d⟩::mS=>if h:l'=l then match toHL (m::r') mS with
   |some x=>some (h▸d,x)
   |none=>none
   else none
  |_,_=>none
def od:(ts:List Lf)→HL D ts→List (DV D)
 |[],_=>[]
 |l::r,x=>match r,x with
  |[],x=>[⟨l,x⟩]
  |m::r',x=>⟨l,x.1⟩::od (m::r') x.2
def aV.out(T:aV D)(n:Nat)(x:D n):List (DV D):=od (T.lv n) (T.wV n x)
def aV.ga(T:aV D)(n:Nat)(l:List (DV D)):Option (D n):=match toHL (T.lv n) l with
 |some h=>some (T.tS n h)
 |none=>none
def rj(T:aV D):(t:Ht)→List (DV D)→Option (t.den D×List (DV D))
 | .lf l,⟨l',d⟩::r=>if h:l'=l then some (h▸d,r) else none
 | .lf _,[]=>none
 | .el n,ds=>match T.ga n (ds.take (T.lv n).length) with
   |some x=>some (x,ds.drop (T.lv n).length)
   |none=>none
def toHH(T:aV D):(ts:List Ht)→List (DV D)→Option (HH D ts)
 |[],l=>match l with
  |[]=>some ()
  |_=>none
 |t::r,ds=>match r with
  |[]=>match rj T t ds with
   |some (x,[])=>some x
   |_=>none
  |m::r'=>match rj T t ds with
   |some (x,mS)=>match toHH T (m::r') mS with
    |some y=>some (x,y)
    |none=>none
   |none=>none
def Ex(T:aV D):(t:Ht)→t.den D→List (DV D)
 | .lf l,x=>[⟨l,x⟩]
 | .el n,x=>T.out n x
def cM(T:aV D):(ts:List Ht)→HH D ts→List (DV D)
 |[],_=>[]
 |t::r,x=>match r,x with
  |[],x=>Ex T t x
  |m::r',x=>Ex T t x.1++cM T (m::r') x.2
def Ht.lfs(T:aV D):Ht→List Lf
 | .lf l=>[l]
 | .el n=>T.lv n
def O'(T:aV D):List Ht→List Lf
 |[]=>[]
 |t::r=>t.lfs T++O' T r
structure M(D:Nat→Type) where
 call:Bool
 xb:Nat
 tl:List Lf
 po:List (Nat×PO)
 ids:List (Nat×Nat)
 ef:List (Nat×DV D)
 ku:List Nat
 kr:List Nat
 new:List (Nat×AO D)
 nf:Nat
def zr(K K':List Nat):Bool:=K.all (bo K')
def M.dv(m:M D)(i:Nat)(d:DV D):M D:={m with ef:=(i,d)::m.ef}
def M.reads(m:M D)(K:List Nat):M D:={m with kr:=K++m.kr}
def M.o9(m:M D)(i:Nat):M D:={m with ku:=i::m.ku}
def M.may(m:M D)(K Kp:List Nat):Bool:=if m.call then K.isEmpty||bo Kp 0 else zr K Kp
def M.bind(m:M D)(p i:Nat):Q D (M D):=match aq m.ids p with
 |some i'=>if Nat.beq i' i then .ret m else .fail
 |none=>if bo (m.po.map Prod.fst) p then(if bo (m.ids.map Prod.snd) i then .fail else .ret {m with ids:=(p,i)::m.ids})
  else if !m.call&&Nat.beq p i&&Nat.blt p m.xb then .ret m else .fail
def vw:AO D→Option (DV D×List Nat)
 | .sl n _ xs K _=>some (⟨.sl n,xs⟩,K)
 | .bY n _ _ _ xs _ _=>some (⟨.sl n,xs⟩,[])
 |_=>none
def Hs:AO D→Option (DV D×List Nat)
 | .fz n xs K=>some (⟨.sl n,xs⟩,K)
 |_=>none
def qw(m:M D)(i:Nat)(Kp:List Nat):A1 D→Q D (M D)
 | .v l d K _=>if m.may K Kp then .ret ((m.dv i ⟨l,d⟩).reads K) else .fail
 | .vb n xs K _ _=>if m.may K Kp then .ret ((m.dv i ⟨.sl n,xs⟩).reads K) else .fail
 | .bn=>match m.tl[i]? with
   |some (.sl n)=> .ret (m.dv i ⟨.sl n,[]⟩)
   |_=> .fail
 | .own j=> .obj j fun o=>match Hs o with
   |some (d,K)=>if m.may K Kp then .ret ((m.dv i d).reads K) else .fail
   |none=>match vw o with
    |some (d,K)=>if m.may (1::K) Kp then .ret (((m.dv i d).reads K).o9 j) else .fail
    |none=> .fail
 | .ch i' n j off ct q d=> .obj i' fun
   | .bY n' _ _ q' _ _ ht=>if Nat.beq n n'&&Nat.beq q q'&&Nat.beq ct ht&&m.may [1] Kp then .ret ((m.dv i ⟨.sl q,d⟩).o9 i') else .fail
   |_=> .fail
 |_=> .fail
def Ef(Kp:List Nat):M D→Nat→List (A1 D)→Q D (M D)
 |m,_,[]=> .ret m
 |m,i,a::r=>(qw m i Kp a).bind fun m=>Ef Kp m (i+1) r
def qv:M D→Nat→List (DV D)→M D
 |m,_,[]=>m
 |m,i,d::r=>qv (m.dv i d) (i+1) r
def EL(T:aV D)(m:M D)(i n:Nat)(Kp:List Nat)(n':Nat)(x:D n')(off:Nat)(K:List Nat):Q D (M D):=
 if Nat.beq n n'&&Nat.beq off 0&&m.may K Kp then .ret ((qv m i (T.out n' x)).reads K) else .fail
def JN(T:aV D)(m:M D)(i n:Nat)(Kp:List Nat)(j:Nat):Q D (M D):= .obj j fun
 | .box cs=>if Nat.beq cs.length (T.lv n).length&&m.may [1] Kp then(Ef Kp (m.o9 j) i cs) else .fail
 |_=> .fail
def storable:A1 D→Bool
 | .undef=>false
 | .ch .. =>false
 | .sM .. =>false
 | .tail .. =>false
 | .pre .. =>false
 | .nM .. =>false
 | .vP=>false
 |_=>true
def m0(T:aV D)(m:M D):P0→A0 D→Q D (M D)
 | .ptr p off,.ptr i pj=>if Nat.beq off pj then m.bind p i else .fail
 | .rp i n Kp,.rp n' x off K=>EL T m i n Kp n' x off K
 | .rp i n Kp,.ptr j off=>if Nat.beq off 0 then JN T m i n Kp j else .fail
 |_,_=> .fail
def EO(T:aV D):M D→List P0→List (A0 D)→Q D (M D)
 |m,[],[]=> .ret m
 |m,p::ps,a::as=>(m0 T m p a).bind fun m=>EO T m ps as
 |_,_,_=> .fail
def m1(T:aV D)(m:M D):P1→A1 D→Q D (M D)
 | .h i K,a=>qw m i K a
 | .hb i j K,.vb n xs K' _ b=>(qw m i K (.v (.sl n) xs K' 0)).bind fun m=> .ret (m.dv j ⟨.bool,b⟩)
 | .hb i j K,.bn=>(qw m i K .bn).bind fun m=> .ret (m.dv j ⟨.bool,true⟩)
 | .hb i j K,.own q=> .obj q fun
   | .sl _ _ xs _ _=> .part (neO xs) fun _=>(qw m i K (.own q)).bind fun m=> .ret (m.dv j ⟨.bool,false⟩)
   |_=> .fail
 | .ptr p off,.ptr i pj=>if Nat.beq off pj then m.bind p i else .fail
 | .own p,.own i=>m.bind p i
 | .own p,.bn=>match aq m.po p with
   |some (.sl n t _ _)=>{m with new:=(m.nf,.sl n t [] [] 0)::m.new,nf:=m.nf+1}.bind p m.nf
   |_=> .fail
 | .rp i n Kp,.rp n' x off K=>EL T m i n Kp n' x off K
 | .rp i n Kp,.ptr j off=>if Nat.beq off 0 then JN T m i n Kp j else .fail
 | .fn f ps,.fn f' as=>if Nat.beq f f' then EO T m ps as else .fail
 | .bn,.bn=> .ret m
 | .np,.np=> .ret m
 | .any,_=> .ret m
 | .qB,a=>if storable a then .ret m else .fail
 |_,_=> .fail
def Az(T:aV D):M D→List P1→List (A1 D)→Q D (M D)
 |m,[],[]=> .ret m
 |m,p::ps,a::as=>(m1 T m p a).bind fun m=>Az T m ps as
 |_,_,_=> .fail
def mC(T:aV D)(m:M D):PC→AV D→Q D (M D)
 | .one p,.c (.one a)=>m1 T m p a
 | .agg ps,.c (.agg l)=>Az T m ps l
 | .one .any,_=> .ret m
 |_,_=> .fail
def EN(T:aV D):M D→List PC→List (AV D)→Q D (M D)
 |m,[],[]=> .ret m
 |m,p::ps,a::as=>(mC T m p a).bind fun m=>EN T m ps as
 |_,_,_=> .fail
def mO(T:aV D)(m:M D):PO→AO D→Q D (M D)
 | .box ps,.box cs=>Az T m ps cs
 | .sl n t i Kp,.sl n' t' xs K _=>if Nat.beq n n'&&Nat.beq t t'&&m.may K Kp then .ret ((m.dv i ⟨.sl n',xs⟩).reads K) else .fail
 | .bY n t tc q i,.bY n' t' rl q' xs _ _=>if Nat.beq n n'&&Nat.beq t t'&&Nat.beq tc rl&&Nat.beq q q' then .ret (m.dv i ⟨.sl n',xs⟩) else .fail
 | .mp n i,.mp n' xs=>if Nat.beq n n' then .ret (m.dv i ⟨.sl n',xs⟩) else .fail
 |_,_=> .fail
def xa(T:aV D):M D→List (Nat×PO)→Q D (M D)
 |m,[]=> .ret m
 |m,(p,po)::r=>match aq m.ids p with
  |none=> .fail
  |some i=>match aq m.new i with
   |some ao=>(mO T m po ao).bind fun m=>xa T m r
   |none=> .obj i fun ao=>(mO T m po ao).bind fun m=>xa T m r
def ES(ef:List (Nat×DV D)):Nat→Nat→Option (List (DV D))
 |_,0=>some []
 |i,n+1=>match aq ef i,ES ef (i+1) n with
  |some d,some r=>some (d::r)
  |_,_=>none
def kh:List Nat→Bool
 |[]=>true
 |x::r=> !(bo r x)&&kh r
def mT(a b:List Nat):Bool:=a.all fun x=> !(bo b x)
def rP:P1→List Nat
 | .h _ K=>K
 | .hb _ _ K=>K
 | .rp _ _ K=>K
 | .fn _ ps=>ps.flatMap fun| .rp _ _ K=>K|_=>[]
 |_=>[]
def om:PC→List Nat
 | .one p=>rP p
 | .agg ps=>ps.flatMap rP
def ol:PO→List Nat
 | .box ps=>ps.flatMap rP
 | .sl _ _ _ K=>K
 | .bY .. =>[]
 | .mp .. =>[]
def qA(rE:List PC)(po:List (Nat×PO)):Bool:=(rE.flatMap om).all (fun x=>Nat.blt x 2)&&(po.flatMap fun p=>ol p.2).all fun x=>Nat.blt x 2
def M.ok(m:M D)(po:List (Nat×PO)):Bool:=
 kh (m.ef.map Prod.fst)&&m.ef.all (fun p=>Nat.blt p.1 m.tl.length)&&mT (m.ids.map Prod.snd) m.ku&&kh (m.ids.map Prod.fst)&&kh (m.ids.map Prod.snd)&&m.ids.all (fun p=>Nat.ble 1000 p.2)&&m.ku.all (Nat.ble 1000)&&m.ids.all (fun p=>bo (po.map Prod.fst) p.1)&&m.kr.all (fun x=>Nat.blt x 2)
def xO(T:aV D)(call:Bool)(xb:Nat)(ci:List Ht)(rE:List PC)(po:List (Nat×PO))(py:List (Nat×Nat))(nf:Nat)(dC:List (AV D)):Q D (HH D ci×M D):=
 (EN T ⟨call,xb,O' T ci,po,py,[],[],[],[],nf⟩ rE dC).bind fun m=>(xa T m po).bind fun m=>
   if m.ok po&&qA rE po then match ES m.ef 0 m.tl.length with
    |some l=>match toHH T ci l with
     |some h=> .ret (h,m)
     |none=> .fail
    |none=> .fail
   else .fail
section
variable (T:aV D) (fl:List (DV D)) (ri:Nat→Option Nat) (rK:List Nat→List Nat) (tg:Nat)
def qE:P0→Option (A0 D)
 | .ptr p off=>match ri p with
   |some i=>some (.ptr i off)
   |none=>none
 | .rp i n K=>match T.ga n ((fl.drop i).take (T.lv n).length) with
   |some x=>some (.rp n x 0 (rK K))
   |none=>none
def rU:List P0→Option (List (A0 D))
 |[]=>some []
 |p::r=>match qE T fl ri rK p,rU r with
  |some a,some b=>some (a::b)
  |_,_=>none
def fQ:P1→Option (A1 D)
 | .h i K=>match fl[i]? with
   |some ⟨l,d⟩=>some (.v l d (ua (rK K) l) (tg+i))
   |none=>none
 | .hb i j K=>match fl[i]?,fl[j]? with
   |some ⟨.sl n,xs⟩,some ⟨.bool,b⟩=>some (.vb n xs (rK K) (tg+i) b)
   |_,_=>none
 | .ptr p off=>match ri p with
   |some i=>some (.ptr i off)
   |none=>none
 | .own p=>match ri p with
   |some i=>some (.own i)
   |none=>none
 | .rp i n K=>match T.ga n ((fl.drop i).take (T.lv n).length) with
   |some x=>some (.rp n x 0 (rK K))
   |none=>none
 | .fn f ps=>match rU T fl ri rK ps with
   |some cs=>some (.fn f cs)
   |none=>none
 | .bn=>some .bn
 | .np=>some .np
 | .any=>some .vP
 | .qB=>some .qB
def qD:List P1→Option (List (A1 D))
 |[]=>some []
 |p::r=>match fQ T fl ri rK tg p,qD r with
  |some a,some b=>some (a::b)
  |_,_=>none
def qC:PC→Option (AC D)
 | .one p=>match fQ T fl ri rK tg p with
   |some a=>some (.one a)
   |none=>none
 | .agg ps=>match qD T fl ri rK tg ps with
   |some l=>some (.agg l)
   |none=>none
def fP:List PC→Option (List (AC D))
 |[]=>some []
 |p::r=>match qC T fl ri rK tg p,fP r with
  |some a,some b=>some (a::b)
  |_,_=>none
def lQ(l:List (Nat×PC)):Option (List (Nat×AV D)):=match fP T fl ri rK tg (l.map Prod.snd) with
 |some as=>some (na (l.map Prod.fst) as)
 |none=>none
where na:List Nat→List (AC D)→List (Nat×AV D)
 |t::ts,a::as=>(t,.c a)::na ts as
 |_,_=>[]
def lR:PO→Option (AO D)
 | .box ps=>match qD T fl ri rK tg ps with
   |some l=>if l.all storable then some (.box l) else none
   |none=>none
 | .sl n t i K=>match fl[i]? with
   |some ⟨.sl n',xs⟩=>if Nat.beq n n' then some (.sl n' t xs (rK K) (tg+i)) else none
   |_=>none
 | .bY n t tc q i=>match fl[i]? with
   |some ⟨.sl n',xs⟩=>if Nat.beq n n' then some (.bY n' t tc q xs (tg+i) 0) else none
   |_=>none
 | .mp n i=>match fl[i]? with
   |some ⟨.sl n',xs⟩=>if Nat.beq n n' then some (.mp n' xs) else none
   |_=>none
def gh:List (Nat×PO)→Option (List (Nat×Option (AO D)))
 |[]=>some []
 |(p,po)::r=>match ri p,lR T fl ri rK tg po,gh r with
  |some i,some a,some b=>some ((i,some a)::b)
  |_,_,_=>none
end
def J.dO(j:J):List (Nat×Nat):=(j.ob.filter fun p=>bo j.mv p.1).map fun p=>(p.1,p.1)
def vv(sl:List (Nat×AV D)):List (Nat×PC)→Option (List (AV D))
 |[]=>some []
 |(t,_)::r=>match aq sl t,vv sl r with
  |some a,some b=>some (a::b)
  |_,_=>none
def qX{ρ:Type}(T:aV D)(j:J)(σ:S D)(k:HH D j.ci→Option ρ):Option ρ:=match vv σ.sl j.sl with
 |some dC=>(xO T false j.nx j.ci (j.sl.map Prod.snd) j.ob j.dO σ.nx dC).go σ.ob [] fun x _=>
  if mT (x.2.ids.map Prod.snd) σ.lk&&mT x.2.ku σ.lk then k x.1 else none
 |none=>none
def kept(σ:S D)(mv:List Nat):List (Nat×Option (AO D)):=σ.ob.filter fun p=> !(bo mv p.1)
def kZ(T:aV D)(j:J)(wr:List Nat)(mv:List Nat)(σ:S D)(h:HH D j.ci):Option (S D):=
 let fl:=cM T j.ci h
 if Nat.ble σ.nx j.nx&&j.ob.all (fun p=>Nat.blt p.1 j.nx&&(Nat.ble σ.nx p.1||bo j.mv p.1)&& !(bo ((kept σ mv).map Prod.fst++σ.lk) p.1))&&j.sl.all (fun p=>bo wr p.1)&&mT mv σ.lk then
  match lQ T fl some id j.nx j.sl,gh T fl some id j.nx j.ob with
  |some a,some b=>some ⟨a++σ.sl.filter (fun p=> !(bo wr p.1)),b++kept σ mv,j.nx+fl.length,σ.lk⟩
  |_,_=>none
 else none
def nP(D:Nat→Type)(pr:Bool)(ρ:Type):List (Out×J)→Type
 |[]=>ρ
 |(_,j)::r=>match pr,r with
  |true,[]=>HH D j.ci
  |_,_=>HH D j.ci⊕nP D pr ρ r
def toE(T:aV D)(pr:Bool){ρ:Type}:(E:List (Out×J))→Out→S D→Option ρ→Option (nP D pr ρ E)
 |[],_,_,k=>k
 |(o',j)::r,o,σ,k=>match pr,r with
  |true,[]=>if o.beq o' then qX T j σ some else none
  |false,r=>if o.beq o' then qX T j σ (fun h=>some (.inl h)) else match toE T false r o σ k with
   |some x=>some (.inr x)
   |none=>none
  |true,x::r=>if o.beq o' then qX T j σ (fun h=>some (.inl h)) else match toE T true (x::r) o σ k with
   |some x=>some (.inr x)
   |none=>none
def BD{ρ:Type}(T:aV D)(j:J)(wr mv:List Nat)(σ:S D)(k:S D→Option ρ)(h:HH D j.ci):Option ρ:=match kZ T j wr mv σ h with
 |some aJ=>k aJ
 |none=>none
def oH(T:aV D)(pr:Bool){ρ:Type}(wr mv:List Nat)(σ:S D)(k:Out→S D→Option ρ):(E:List (Out×J))→nP D pr ρ E→Option ρ
 |[],x=>some x
 |(o,j)::r,x=>match pr,r,x with
  |true,[],x=>BD T j wr mv σ (k o) x
  |false,r,x=>w6 (BD T j wr mv σ (k o)) (fun y=>oH T false wr mv σ k r y) x
  |true,y::r,x=>w6 (BD T j wr mv σ (k o)) (fun z=>oH T true wr mv σ k (y::r) z) x
def pn:List (Out×J)→List Nat
 |[]=>[]
 |(_,j)::r=>j.mv++pn r
def acR(σ:S D)(mv:List Nat):S D:={σ with lk:=(kept σ mv).map Prod.fst++σ.lk}
def wrap(T:aV D)(wr:List Nat)(cut:Option (Bool×List (Out×J))){ρ:Type}(body:∀{eg:Type},S D→(Out→S D→Option eg)→Option eg)(σ:S D)(k:Out→S D→Option ρ):Option ρ:=match cut with
 |none=>body σ k
 |some (pr,E)=>rI (body (acR σ (pn E)) fun o aJ=>toE T pr E o aJ (k o {aJ with lk:=σ.lk})) fun x=>oH T pr wr (pn E) σ k E x
end
end Rx
end Go.Proofs.YtaneejpkncdodaaGreat
