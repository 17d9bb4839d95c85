import Derived.Test.YtaneejpkncdodaaGreatRa
set_option linter.unusedVariables false
noncomputable section
namespace Go.Proofs.YtaneejpkncdodaaGreat
open Go Dp
namespace Rx
section
variable {D:Nat→Type}
def iv(k:IntKind)(n:Int)(g:Nat):AV D:= .c (.one (.v (.int k) n [] g))
def bv(b:Bool)(g:Nat):AV D:= .c (.one (.v .bool b [] g))
def MU:Value→Option (AV D)
 | .int k n=>some (iv k n 0)
 | .bool b=>some (bv b 0)
 | .string s=>some (.c (.one (.v .str s [] 0)))
 | .slice none 0 0=>some (.c (.one .bn))
 | .pointer none=>some (.c (.one .np))
 | .nilFunc=>some (.c (.one .w7))
 |_=>none
def eb(sl:List (Nat×AV D)):Operand→Option (AV D)
 | .tmp t=>aq sl t
 | .const v=>MU v
 | .func f=>if Nat.blt f 1000000 then some (.c (.one (.fn f []))) else none
 | .global _=>none
def dt(sl:List (Nat×AV D)):List Operand→Option (List (AV D))
 |[]=>some []
 |x::r=>match eb sl x,dt sl r with
  |some a,some b=>some (a::b)
  |_,_=>none
def bp(a:AV D):Q D (bX D):= .ret ⟨a,[],[]⟩
def gY.n(T:aV D):gY→Nat
 | .one _| .ptr| .fn=>1
 | .st n=>(T.lv n).length
def gY.agg:gY→Bool
 | .st _=>true
 |_=>false
def cellsD(K:List Nat):Nat→List (DV D)→List (A1 D)
 |_,[]=>[]
 |g,⟨l,d⟩::r=> .v l d (ua K l) g::cellsD K (g+1) r
def qh(T:aV D):gY→Option (List (A1 D))
 | .one (.int k)=>some [.v (.int k) (0:Int) [] 0]
 | .one .bool=>some [.v .bool false [] 0]
 | .one .str=>some [.v .str ByteArray.empty [] 0]
 | .one (.sl _)=>some [.bn]
 | .st n=>some (vd (T.lv n))
 | .ptr=>some [.np]
 | .fn=>some [.w7]
where vd:List Lf→List (A1 D)
 |[]=>[]
 |l::r=>(match l with| .int k=> .v (.int k) (0:Int) [] 0| .bool=> .v .bool false [] 0| .str=> .v .str ByteArray.empty [] 0| .sl _=> .bn)::vd r
def qy(g:Bool)(l:List (A1 D)):Option (AV D):=if g then some (.c (.agg l)) else match l with
 |[a]=>some (.c (.one a))
 |_=>none
def cellsOf:AV D→Option (List (A1 D))
 | .c (.one a)=>some [a]
 | .c (.agg l)=>some l
 | .cP _=>none
def sI(ty:gY)(T:aV D)(cs:List (A1 D))(off:Nat):Option (AV D):=
 if Nat.ble (off+ty.n T) cs.length then qy ty.agg ((cs.drop off).take (ty.n T)) else none
def vV(cs us:List (A1 D))(off:Nat):Option (List (A1 D)):=
 if Nat.ble (off+us.length) cs.length&&us.all storable then some (cs.take off++us++cs.drop (off+us.length)) else none
def pg(ls:List Lf):List (A1 D)→Q D (List (DV D)×List Nat×List Nat)
 |[]=> .ret ([],[],[])
 |a::r=>match ls with
  |[]=> .fail
  |l::EP=>match a with
   | .v l' d K _=>(pg EP r).bind fun x=> .ret (⟨l',d⟩::x.1,K++x.2.1,x.2.2)
   | .bn=>match l with
     | .sl n=>(pg EP r).bind fun x=> .ret (⟨.sl n,[]⟩::x.1,x.2.1,x.2.2)
     |_=> .fail
   | .own j=> .obj j fun o=>match Hs o with
     |some (d,K)=>(pg EP r).bind fun x=> .ret (d::x.1,K++x.2.1,x.2.2)
     |none=>match vw o with
      |some (d,K)=>(pg EP r).bind fun x=> .ret (d::x.1,1::K++x.2.1,j::x.2.2)
      |none=> .fail
   |_=> .fail
def Ml(g:Bool):AV D→Bool
 | .c (.one _)=> !g
 | .c (.agg _)=>g
 | .cP _=>false
def Jn(T:aV D)(n:Nat)(a:AV D):Q D (D n×List Nat×List Nat):=if Ml (T.ag n) a then match cellsOf a with
 |some cs=>(pg (T.lv n) cs).bind fun x=>match T.ga n x.1 with
  |some y=> .ret (y,x.2)
  |none=> .fail
 |none=> .fail
 else .fail
def pf(T:aV D)(n:Nat):List (AV D)→Q D (List (D n)×List Nat×List Nat)
 |[]=> .ret ([],[],[])
 |a::r=>(Jn T n a).bind fun x=>(pf T n r).bind fun y=> .ret (x.1::y.1,x.2.1++y.2.1,x.2.2++y.2.2)
def Af(n:Nat):A1 D→Q D (List (D n)×List Nat)
 | .v (.sl n') xs K _=>if h:n'=n then .ret (h▸xs,K) else .fail
 | .bn=> .ret ([],[])
 | .own j=> .obj j fun
   | .sl n' _ xs K _=>if h:n'=n then .ret (h▸xs,K) else .fail
   | .fz n' xs K=>if h:n'=n then .ret (h▸xs,K) else .fail
   |_=> .fail
 | .tail j n' k=> .obj j fun
   | .sl n0 _ xs K _=>if Nat.beq n0 n' then(if h:n0=n then .ret (h▸Gn xs k,K) else .fail) else .fail
   |_=> .fail
 | .pre j n' k=> .obj j fun
   | .sl n0 _ xs K _=>if Nat.beq n0 n' then(if h:n0=n then .ret (h▸C8 xs k,K) else .fail) else .fail
   |_=> .fail
 |_=> .fail
def J2:A1 D→Q D Int
 | .v (.sl _) xs _ _=> .ret (len xs)
 | .ch _ _ _ _ _ _ d=> .ret (len d)
 | .bn=> .ret 0
 | .own j=> .obj j fun
   | .sl _ _ xs _ _=> .ret (len xs)
   | .bY _ _ _ _ xs _ _=> .ret (len xs)
   | .fz _ xs _=> .ret (len xs)
   |_=> .fail
 | .tail i n j=> .obj i fun
   | .sl n' _ xs _ _=>if Nat.beq n' n then .ret (rQ (len xs) j) else .fail
   |_=> .fail
 |_=> .fail
def NN(op:BinOp)(g:Nat)(k k':IntKind)(a b:Int):Q D (bX D):=match op with
 | .shr=> .part (nY k.bits a b) fun c=>bp (iv k c g)
 |op=>if k=k' then match op with
   | .add=>bp (iv k (jc k (AM a b)) g)
   | .sub=>bp (iv k (jc k (rQ a b)) g)
   | .mul=>bp (iv k (jc k (adK a b)) g)
   | .and=>bp (iv k (qF k a b) g)
   | .eql=>bp (bv (E5 a b) g)
   | .neq=>bp (bv (RO a b) g)
   | .lss=>bp (bv (Kh a b) g)
   | .leq=>bp (bv (RX a b) g)
   | .gtr=>bp (bv (RZ a b) g)
   | .geq=>bp (bv (R0 a b) g)
   |_=> .fail
  else .fail
def Iz(op:BinOp)(g:Nat)(a b:ByteArray):Q D (bX D):=match op with
 | .add=> .part (PS a b) fun c=>bp (.c (.one (.v .str c [] g)))
 | .eql=>bp (bv (wy a b) g)
 | .neq=>bp (bv (yI (wy a b)) g)
 |_=> .fail
def NM(op:BinOp)(g:Nat):AV D→AV D→Q D (bX D)
 | .c (.one (.v (.int k) a _ _)),.c (.one (.v (.int k') b _ _))=>match k,k' with
   | .i64,.i64=>match op with
     | .add=>bp (iv .i64 (adQ a b) g)
     | .sub=>bp (iv .i64 (adq a b) g)
     | .mul=>bp (iv .i64 (adL a b) g)
     | .quo=> .part (tO a b) fun c=>bp (iv .i64 c g)
     | .rem=> .part (iJ a b) fun c=>bp (iv .i64 c g)
     | .eql=>bp (bv (E5 a b) g)
     | .neq=>bp (bv (RO a b) g)
     | .lss=>bp (bv (Kh a b) g)
     | .leq=>bp (bv (RX a b) g)
     | .gtr=>bp (bv (RZ a b) g)
     | .geq=>bp (bv (R0 a b) g)
     | .shr=> .part (nY 64 a b) fun c=>bp (iv .i64 c g)
     |_=> .fail
   |k,k'=>NN op g k k' a b
 | .c (.one (.v .str a _ _)),.c (.one (.v .str b _ _))=>Iz op g a b
 |_,_=> .fail
def NO(op:BinOp)(g:Nat)(a b:Bool):Q D (bX D):=match op with
 | .eql=>bp (bv (beq' a b) g)
 | .neq=>bp (bv (yI (beq' a b)) g)
 |_=> .fail
def JB(T:aV D)(t i:Nat):Option Nat:=match aq T.oJ t with
 |some l=>match l[i]? with
  |some p=>some p.1
  |none=>none
 |none=>none
def JX(i n:Nat)(j:Int)(off t tc q:Nat)(xs:List (D n))(gx ht g:Nat):DV D→Q D (bX D)
 |⟨.sl m,d⟩=>if Nat.beq m q then(if Nat.beq ht 0 then .ret ⟨.c (.one (.ch i n j off (g+1) m d)),[(i,some (.bY n t tc q xs gx (g+1)))],[]⟩ else bp (.c (.one (.ch i n j off ht m d)))) else .fail
 |⟨l,d⟩=>bp (.c (.one (.v l d [] g)))
def Et:gY→Bool
 | .one _=>true
 |_=>false
def JW(T:aV D)(g:Nat)(ty:gY):A1 D→Q D (bX D)
 | .ptr i off=> .obj i fun
   | .box cs=>match sI ty T cs off with
     |some a=>bp a
     |none=> .fail
   |_=> .fail
 | .rp n x off K=>match sI ty T (cellsD K g (T.out n x)) off with
   |some a=>bp a
   |none=> .fail
 | .el i n j y off tc tj=> .obj i fun
   | .sl n' _ xs K g'=>if Nat.beq g' tc then match sI ty T (cellsD K g (T.out n y)) off with
       |some a=>bp a
       |none=> .fail
     else if Nat.beq n n' then .part (idx xs j) fun y=>match sI ty T (cellsD K g (T.out n' y)) off with
      |some a=>bp a
      |none=> .fail
     else .fail
   | .bY n' t c q xs g' ht=>if Nat.beq n n'&&Et ty then .part (idx xs j) fun y=>match(T.out n' y)[off]? with
       |some x=>JX i n' j off t c q xs g' ht g x
       |none=> .fail
     else .fail
   |_=> .fail
 |_=> .fail
def Pr(T:aV D)(g:Nat)(ty:gY)(a:AV D):A1 D→Q D (bX D)
 | .ptr i off=> .obj i fun
   | .box cs=>match cellsOf a with
     |some us=>if Nat.beq us.length (ty.n T) then match vV cs us off with
       |some fH=> .ret ⟨.c (.one .undef),[(i,some (.box fH))],[]⟩
       |none=> .fail
      else .fail
     |none=> .fail
   |_=> .fail
 | .el i n j y off tc tj=> .obj i fun
   | .sl n' t xs K g'=>match cellsOf a with
     |some us=>if Nat.beq us.length (ty.n T)&&Nat.beq n n'&&Nat.ble (off+us.length) (T.lv n').length then(pg ((T.lv n').drop off) us).bind fun x=>
       .part (idx xs j) fun y=>match T.ga n' ((T.out n' y).take off++x.1++(T.out n' y).drop (off+x.1.length)) with
         |some z=>if bo x.2.2 i then .fail else .part (cG xs j z) fun zs=> .ret ⟨.c (.one .undef),[(i,some (.sl n' t zs (x.2.1++K) g))],x.2.2⟩
         |none=> .fail
      else .fail
     |none=> .fail
   | .ff n' t' rl q xs j' pj s gx=>match a with
     | .c (.one (.sM i' s'))=>if Nat.beq i i'&&Nat.beq s s'&&Nat.beq n n'&&Nat.beq off pj&&Et ty then .part (sF j j') fun _=> .ret ⟨.c (.one .undef),[(i,some (.bY n' t' rl q xs gx 0))],[]⟩ else .fail
     |_=> .fail
   |_=> .fail
 |_=> .fail
def Kl(m:Nat)(j:Int)(tj:Nat):A1 D→Q D (bX D)
 | .v (.sl n) xs K _=>if Nat.beq n m then .part (idx xs j) fun y=>bp (.c (.one (.rp n y 0 K))) else .fail
 | .own i=> .obj i fun
   | .sl n _ xs _ tc=>if Nat.beq n m&& !(Nat.beq tc 0) then .part (idx xs j) fun y=>bp (.c (.one (.el i n j y 0 tc tj))) else .fail
   | .bY n _ _ _ xs tc _=>if Nat.beq n m&& !(Nat.beq tc 0) then .part (idx xs j) fun y=>bp (.c (.one (.el i n j y 0 tc tj))) else .fail
   | .ff n _ _ _ xs _ _ _ tc=>if Nat.beq n m&& !(Nat.beq tc 0) then .part (idx xs j) fun y=>bp (.c (.one (.el i n j y 0 tc tj))) else .fail
   | .fz n xs K=>if Nat.beq n m then .part (idx xs j) fun y=>bp (.c (.one (.rp n y 0 K))) else .fail
   |_=> .fail
 | .bn=> .part (none:Option (D m)) fun y=>bp (.c (.one (.rp m y 0 [])))
 | .tail i n0 j0=> .obj i fun
   | .sl n _ xs _ tc=>if Nat.beq n m&&Nat.beq n n0&& !(Nat.beq tc 0) then .part (idx (Gn xs j0) j) fun y=>bp (.c (.one (.el i n (AM j0 j) y 0 tc 0))) else .fail
   |_=> .fail
 |_=> .fail
def rF(T:aV D)(l:List (Nat×Nat)):List (A1 D)→List (Nat×Operand)→List (AV D)→Option (List (A1 D))
 |cs,[],[]=>some cs
 |cs,(i,_)::r,a::as=>match l[i]?,cellsOf a with
  |some (off,sz),some us=>if Nat.beq us.length sz then match vV cs us off with
    |some fH=>rF T l fH r as
    |none=>none
   else none
  |_,_=>none
 |_,_,_=>none
def ry:Nat→List (Nat×Operand)→Bool
 |_,[]=>true
 |k,(i,_)::r=>Nat.beq i k&&ry (k+1) r
def RI(T:aV D)(n tc q:Nat):Bool:=match aq T.kd n with
 |some p=>Nat.beq p.1 tc&&Nat.beq p.2 q
 |none=>false
def ji:Lf→Bool
 | .sl _=>false
 |_=>true
def pU(T:aV D)(n:Nat)(K:List Nat):List Nat:=match(T.lv n).all ji with
 |true=>[]
 |false=>K
def Hw(T:aV D)(aj n t:Nat)(a x:A1 D):Q D (bX D):=(Af n x).bind fun y0=>Xx (y0.1,pU T n y0.2)
where Xx (ys:List (D n)×List Nat):Q D (bX D):=match a with
 | .own i=> .obj i fun
   | .sl n' t' xs K _=>if h:n'=n then(if Nat.beq t' t then .part (bD (h▸xs) ys.1) fun zs=> .ret ⟨.c (.one (.own aj)),[(aj,some (.sl n t zs (ys.2++K) (aj+16))),(i,none)],[]⟩ else .fail) else .fail
   |_=> .fail
 | .bn=> .part (bD [] ys.1) fun zs=> .ret ⟨.c (.one (.own aj)),[(aj,some (.sl n t zs ys.2 (aj+16)))],[]⟩
 | .pre i e j=> .obj i fun
   | .sl n' t' xs K _=>if h:n'=n then(if Nat.beq t' t&&Nat.beq n' e then .part (bD (h▸C8 xs j) ys.1) fun zs=> .ret ⟨.c (.one (.own aj)),[(aj,some (.sl n t zs (ys.2++K) (aj+16))),(i,none)],[]⟩ else .fail) else .fail
   |_=> .fail
 | .ch i e j off ct m _=> .obj i fun
   | .bY e' te tc q xs _ ht=>if Nat.beq e e'&&Nat.beq ct ht&& !(Nat.beq ht 0)&&Nat.beq m q&&Nat.beq tc t&&Nat.beq q n&&RI T e' tc q then .part (idx xs j) fun y=>match(T.out e' y)[off]? with
       |some ⟨.sl m',d⟩=>if h:m'=n then .part (bD (h▸d) ys.1) fun zs=>match T.ga e' ((T.out e' y).set off ⟨.sl n,zs⟩) with
         |some y'=> .part (cG xs j y') fun ql=> .ret ⟨.c (.one (.sM i aj)),[(i,some (.ff e' te tc q ql j off aj (aj+16)))],[]⟩
         |none=> .fail
        else .fail
       |_=> .fail
     else .fail
   |_=> .fail
 |_=> .fail
def Gv(T:aV D)(aj n i:Nat)(j:Int)(ys:List (D n)×List Nat):Q D (bX D):= .obj i fun
 | .sl n' t xs K _=>if h:n'=n then .ret ⟨iv .i64 (BV (len xs) j (len ys.1)) 0,[(i,some (.sl n t (Gt (h▸xs) j ys.1) (ys.2++K) (aj+16)))],[]⟩ else .fail
 |_=> .fail
def MT(T:aV D)(aj n:Nat)(a x:A1 D):Q D (bX D):=(Af n x).bind fun y0=>match a with
 | .own i=>Gv T aj n i 0 (y0.1,pU T n y0.2)
 | .tail i n' j=>if Nat.beq n' n then Gv T aj n i j (y0.1,pU T n y0.2) else .fail
 |_=> .fail
def sS(d:Int):Option Operand→List (AV D)→Q D (Int×List (AV D))
 |none,as=> .ret (d,as)
 |some _,.c (.one (.v (.int .i64) l _ _))::as=> .ret (l,as)
 |some _,_=> .fail
def nX(g m:Nat)(lo hi:Option Operand)(n:Nat)(xs:List (D n))(K:List Nat)(as:List (AV D)):Q D (bX D):=
 if Nat.beq n m then(sS 0 lo as).bind fun l=>(sS (len xs) hi l.2).bind fun h=>match h.2 with
  |[]=> .part (dw xs l.1 h.1) fun zs=>bp (.c (.one (.v (.sl n) zs K g)))
  |_=> .fail
  else .fail
def I2(fl:Bool)(aj g m:Nat)(lo hi:Option Operand)(a:A1 D)(as:List (AV D)):Q D (bX D):=match a with
 | .v (.sl n) xs K _=>nX g m lo hi n xs K as
 | .bn=>(sS 0 lo as).bind fun l=>(sS 0 hi l.2).bind fun h=>match h.2 with
   |[]=> .part (dw ([]:List Unit) l.1 h.1) fun _=>bp (.c (.one .bn))
   |_=> .fail
 | .own i=> .obj i fun
   | .fz n xs K=>nX g m lo hi n xs K as
   | .sl n t xs K _=>match lo with
     |none=>if Nat.beq n m then(sS (len xs) hi as).bind fun h=>match h.2 with
       |[]=>match fl with
        |true=> .part (dw xs 0 h.1) fun _=>bp (.c (.one (.pre i n h.1)))
        |false=> .part (dw xs 0 h.1) fun zs=> .ret ⟨.c (.one (.own aj)),[(aj,some (.sl n t zs K (aj+16))),(i,none)],[]⟩
       |_=> .fail
      else .fail
     |some _=>match hi with
      |none=>if Nat.beq n m then(sS 0 lo as).bind fun l=>match l.2 with
        |[]=> .part (dw xs l.1 (len xs)) fun _=>bp (.c (.one (.tail i n l.1)))
        |_=> .fail
       else .fail
      |some _=> .fail
   |_=> .fail
 |_=> .fail
def yd:List (A1 D)→Option (List (DV D))
 |[]=>some []
 | .v l d _ _::r=>match yd r with
   |some x=>some (⟨l,d⟩::x)
   |none=>none
 |_=>none
def u9:DV D→DV D→Bool
 |⟨.int _,a⟩,⟨.int _,b⟩=>E5 a b
 |⟨.bool,a⟩,⟨.bool,b⟩=>beq' a b
 |⟨.str,a⟩,⟨.str,b⟩=>wy a b
 |_,_=>false
def oP:List (DV D)→List (DV D)→Bool
 |[],_=>true
 |x::xs,ys=>match xs,ys with
  |[],y::_=>u9 x y
  |x'::ql,y::Yb=>Hr (u9 x y) (oP (x'::ql) Yb)
  |_,[]=>true
def MA(op:BinOp)(g:Nat)(ls:List Lf)(p q:List (A1 D)):Q D (bX D):=match yd p,yd q with
 |some xs,some ys=>if xs.map DV.l=ls∧ys.map DV.l=ls then match op with
   | .eql=>bp (bv (oP xs ys) g)
   | .neq=>bp (bv (yI (oP xs ys)) g)
   |_=> .fail
  else .fail
 |_,_=> .fail
def E1(T:aV D):AV D→Option (List (DV D)×Bool)
 | .c (.one (.nM n xs _))=>some (xs.flatMap (T.out n),true)
 | .c (.one (.v l d _ _))=>some ([⟨l,d⟩],false)
 | .c (.agg cs)=>match yd cs with
   |some x=>some (x,true)
   |none=>none
 |_=>none
def jQ:List (DV D)→List (DV D)→Bool
 |x::r,y::s=>match s with
  |[]=>u9 x y
  |_::_=>Hr (u9 x y) (jQ r s)
 |_,_=>true
def yW:(l:Lf)→l.den D
 | .int _=>(0:Int)
 | .bool=>false
 | .str=>ByteArray.empty
 | .sl _=>[]
def xg(l:Lf):List (DV D)→l.den D
 |[]=>yW l
 |⟨l',d⟩::r=>match r with
  |[]=>if h:l'=l then h▸d else yW l
  |_::_=>xg l r
def rO:List Lf→Option Lf
 |[]=>none
 |l::r=>match r with
  |[]=>some l
  |_::_=>rO r
def E0(T:aV D)(n:Nat)(ks:List (DV D))(g:Bool):Bool:=decide (ks.map DV.l=(T.lv n).dropLast)&&(match ks with|[_]=> !g|_=>g)
def JJ(T:aV D)(n g:Nat)(a k:AV D):Q D (bX D):=match a,E1 T k with
 | .c (.one (.own i)),some (ks,kg)=> .obj i fun
   | .mp n' xs=>if Nat.beq n n'&&E0 T n' ks kg then match rO (T.lv n') with
       |some l=>bp (.c (.one (.v l (EG (fun x=>jQ (T.out n' x) ks) (fun x=>xg l (T.out n' x)) (yW l) xs) [] g)))
       |none=> .fail
     else .fail
   |_=> .fail
 |_,_=> .fail
def JH(T:aV D)(n:Nat)(a k u:AV D):Q D (bX D):=match a,E1 T k,u with
 | .c (.one (.own i)),some (ks,kg),.c (.one (.v l d _ _))=> .obj i fun
   | .mp n' xs=>if Nat.beq n n'&&E0 T n' ks kg then match T.ga n' (ks++[⟨l,d⟩]) with
       |some z=> .ret ⟨.c (.one .undef),[(i,some (.mp n' (ED (fun x=>jQ (T.out n' x) ks) z xs)))],[]⟩
       |none=> .fail
     else .fail
   |_=> .fail
 |_,_,_=> .fail
def zL:Operand→Operand→Bool
 | .tmp a,.tmp b=>Nat.beq a b
 | .const (.int .i64 a),.const (.int .i64 b)=>decide (a=b)
 |_,_=>false
def w8(T:aV D)(n:Nat)(h:T.lv n=[.int .u8])(b:Int):D n:=T.tS n (h▸(b:HL D [.int .u8]))
def nT(T:aV D)(n:Nat)(h:T.lv n=[.int .u8])(x:D n):Int:=(h▸T.wV n x:HL D [.int .u8])
def abP(t:TypeId):Operand→Nat
 | .tmp i=>t*4096+i
 |_=>0
def wZ(T:aV D)(aj:Nat):Op→List (AV D)→Q D (bX D)
 | .move _,[a]=>bp a
 | .assign _,[a]=>bp a
 | .pick _ _ _,[c,a,b]=>match c with
   | .c (.one (.v .bool d _ _))=>if d=true then bp a else bp b
   |_=> .fail
 | .binOp op t _ _ _,[a,b]=>match a,b with
   | .c (.agg p),.c (.agg q)=>match aq T.uZ t with
     |some n=>MA op (aj+16) n p q
     |none=> .fail
   | .c (.one (.v .bool p _ _)),.c (.one (.v .bool q _ _))=>match aq T.ty t with
     |some (.one .bool)=>NO op (aj+16) p q
     |_=> .fail
   | .c (.one (.vb _ _ _ _ p)),.c (.one .bn)=>match aq T.bV t with
     |some _=>match op with
      | .eql=>bp (bv p (aj+16))
      | .neq=>bp (bv (yI p) (aj+16))
      |_=> .fail
     |none=> .fail
   |a,b=>NM op (aj+16) a b
 | .unOp .not _ _,[a]=>match a with
   | .c (.one (.v .bool b _ _))=>bp (bv (yI b) (aj+16))
   |_=> .fail
 | .unOp .neg _ _,[a]=>match a with
   | .c (.one (.v (.int .i64) n _ _))=>bp (iv .i64 (adB n) (aj+16))
   |_=> .fail
 | .nilCheck _,[a]=>match a with
   | .c (.one (.ptr i off))=>bp a
   | .c (.one (.rp n x off K))=>bp a
   | .c (.one (.el i n j y off tc tj))=>bp a
   |_=> .fail
 | .extract _ i,[a]=>match a with
   | .cP l=>match l[i]? with
     |some x=>bp (.c x)
     |none=> .fail
   |_=> .fail
 | .fieldAddr t _ i,[a]=>match JB T t i,a with
   |some o,.c (.one (.ptr j off))=>bp (.c (.one (.ptr j (off+o))))
   |some o,.c (.one (.rp n x off K))=>bp (.c (.one (.rp n x (off+o) K)))
   |some o,.c (.one (.el j n k y off tc tj))=>bp (.c (.one (.el j n k y (off+o) tc tj)))
   |_,_=> .fail
 | .load t _,[a]=>match aq T.ty t,a with
   |some ty,.c (.one p)=>JW T (aj+16) ty p
   |_,_=> .fail
 | .store t _ _,[p,a]=>match aq T.ty t,p with
   |some ty,.c (.one p)=>Pr T (aj+16) ty a p
   |_,_=> .fail
 | .box _ _,[a]=>match cellsOf a with
   |some cs=>if cs.all storable then .ret ⟨.c (.one (.ptr aj 0)),[(aj,some (.box cs))],[]⟩ else .fail
   |none=> .fail
 | .alloc t,[]=>match aq T.ty t with
   |some ty=>match qh T ty with
    |some cs=> .ret ⟨.c (.one (.ptr aj 0)),[(aj,some (.box cs))],[]⟩
    |none=> .fail
   |none=> .fail
 | .build t ps,as=>match aq T.mi t with
   |some (m,e,n)=>if ry 0 ps.toList&&Nat.beq ps.toList.length m then(pf T n as).bind fun x=>match aq T.ty t with
     |some (.st _)=>if x.2.2.isEmpty&&Nat.ble (x.1.flatMap (T.out n)).length 48 then bp (.c (.agg (cellsD x.2.1 (aj+16) (x.1.flatMap (T.out n))))) else .fail
     |_=> .ret ⟨.c (.one (.nM n x.1 x.2.1)),[],x.2.2⟩
    else .fail
   |none=>match aq T.ty t,aq T.oJ t with
    |some (.st n),some l=>match rF T l (qh.vd (T.lv n)) ps.toList as with
     |some cs=>bp (.c (.agg cs))
     |none=> .fail
    |_,_=> .fail
 | .index t _ _,[a,i]=>match aq T.mi t,a,i with
   |some (m,e,n),.c (.one (.nM n' xs K)),.c (.one (.v (.int .i64) j _ _))=>if Nat.beq n n'&&Nat.beq xs.length m then .part (idx xs j) fun y=>match qy (T.ag n') (cellsD K (aj+16) (T.out n' y)) with
     |some r=>bp r
     |none=> .fail
    else .fail
   |some (m,e,n),.c (.agg cs),.c (.one (.v (.int .i64) j _ _))=>if T.ag n then .fail else(pf T n (cs.map fun c=> .c (.one c))).bind fun x=>if x.2.2.isEmpty&&Nat.beq x.1.length m then .part (idx x.1 j) fun y=>match qy (T.ag n) (cellsD x.2.1 (aj+16) (T.out n y)) with
     |some r=>bp r
     |none=> .fail
    else .fail
   |none,.c (.one (.v .str s _ _)),.c (.one (.v (.int .i64) j _ _))=>match aq T.ty t with
    |some (.one .str)=> .part (Jc s j) fun b=>bp (iv .u8 b (aj+16))
    |_=> .fail
   |_,_,_=> .fail
 | .buildSlice t m ps,as=>match aq T.bV t with
   |some (e,n)=>if ry 0 ps.toList&&Nat.beq ps.toList.length m&&Nat.ble (m*(T.lv n).length) 65536 then(pf T n as).bind fun x=>
     .ret ⟨.c (.one (.own aj)),[(aj,some (.sl n e x.1 x.2.1 (aj+16)))],x.2.2⟩
    else .fail
   |none=> .fail
 | .indexAddr t _ io,[a,i]=>match aq T.bV t,a,i with
   |some (_,n),.c (.one a),.c (.one (.v (.int .i64) j _ tj))=>Kl n j tj a
   |none,.c (.one (.ptr b off)),.c (.one (.v (.int .i64) _ _ _))=>match aq T.mi t,io with
    |some (m,_,n),.const (.int .i64 (.ofNat q))=>if Nat.blt q m then bp (.c (.one (.ptr b (off+q*(T.lv n).length)))) else .fail
    |_,_=> .fail
   |_,_,_=> .fail
 | .makeSlice t x y,[a,_]=>match aq T.bV t,a with
   |some (e,n),.c (.one (.v (.int .i64) l _ _))=>if zL x y then .part (ki (T.zero n) l) fun zs=>match aq T.kd n with
     |some (tc,q)=> .ret ⟨.c (.one (.own aj)),[(aj,some (.bY n e tc q zs (aj+16) 0))],[]⟩
     |none=> .ret ⟨.c (.one (.own aj)),[(aj,some (.sl n e zs [] (aj+16)))],[]⟩
    else .fail
   |_,_=> .fail
 | .slice t x lo hi none,a::as=>match aq T.bV t,a with
   |some (_,n),.c (.one a)=>I2 (bo T.pre (abP t x)) aj (aj+16) n lo hi a as
   |_,_=> .fail
 | .makeMap t none,[]=>match aq T.oe t with
   |some (_,_,n)=> .ret ⟨.c (.one (.own aj)),[(aj,some (.mp n []))],[]⟩
   |none=> .fail
 | .lookup t _ _ false,[m,k]=>match aq T.oe t with
   |some (_,_,n)=>JJ T n (aj+16) m k
   |none=> .fail
 | .mapUpdate t _ _ _,[m,k,u]=>match aq T.oe t with
   |some (_,_,n)=>JH T n m k u
   |none=> .fail
 | .convert s t _,[a]=>match aq T.ty s,aq T.ty t,a with
   |some (.one (.int _)),some (.one (.int k')),.c (.one (.v (.int k) n _ _))=>match k' with
    | .i64=>bp (iv .i64 (W n) (aj+16))
    |k'=>bp (iv k' (jc k' n) (aj+16))
   |some (.one .str),some (.one (.sl _)),.c (.one (.v .str x _ _))=>match aq T.bV t with
    |some (e,n)=>match aq T.ty e with
     |some (.one (.int .u8))=>if h:T.lv n=[.int .u8] then .part (Jd (w8 T n h) x) fun xs=>bp (.c (.one (.v (.sl n) xs [1] (aj+16)))) else .fail
     |_=> .fail
    |none=> .fail
   |some (.one (.sl _)),some (.one .str),.c (.one a)=>match aq T.bV s with
    |some (e,n)=>match aq T.ty e with
     |some (.one (.int .u8))=>if h:T.lv n=[.int .u8] then(Af n a).bind fun x=>bp (.c (.one (.v .str (yz (nT T n h) x.1) [] (aj+16)))) else .fail
     |_=> .fail
    |none=> .fail
   |_,_,_=> .fail
 | .makeFunc (.func f) first fI,as=>if Nat.blt f 1000000 then match yk as with
     |some cs=>if Nat.beq first.size 0 then bp (.c (.one (.fn f cs))) else if Nat.beq fI.size 0 then bp (.c (.one (.fn (f+1000000) cs))) else .fail
     |none=> .fail
   else .fail
 | .call {callee:= .builtin b,argTypes:=ts,.. },as=>match b,as with
   | .len,[.c (.one a)]=>match ts.toList with
     |[t]=>match aq T.bV t with
      |some _=>(J2 a).bind fun n=>bp (iv .i64 n (aj+16))
      |none=>match aq T.ty t,a with
       |some (.one .str),.v .str s _ _=>bp (iv .i64 (Jb s) (aj+16))
       |_,_=> .fail
     |_=> .fail
   | .min,[.c (.one (.v (.int .i64) p _ _)),.c (.one (.v (.int .i64) q _ _))]=>bp (iv .i64 (kq p q) (aj+16))
   | .max,[.c (.one (.v (.int .i64) p _ _)),.c (.one (.v (.int .i64) q _ _))]=>bp (iv .i64 (imax p q) (aj+16))
   | .max,[.c (.one (.v (.int .i64) p _ _)),.c (.one (.v (.int .i64) q _ _)),.c (.one (.v (.int .i64) r _ _))]=>bp (iv .i64 (imax (imax p q) r) (aj+16))
   | .clear,[.c (.one (.tail i n j))]=>match ts.toList with
     |[t]=>match aq T.bV t with
      |some (_,n')=>if Nat.beq n n' then .obj i fun
        | .sl n0 te xs K _=>if Nat.beq n0 n then .ret ⟨.cP [],[(i,some (.sl n0 te (mU (T.zero n0) xs j) K (aj+16)))],[]⟩ else .fail
        |_=> .fail
       else .fail
      |none=> .fail
     |_=> .fail
   | .copy,[.c (.one a),.c (.one x)]=>match ts.toList with
     |[t,t']=>if Nat.beq t t' then match aq T.bV t with
        |some (_,n)=>MT T aj n a x
        |none=> .fail
      else .fail
     |_=> .fail
   | .append,[.c (.one a),.c (.one x)]=>match ts.toList with
     |[t,t']=>if Nat.beq t t' then match aq T.bV t with
        |some (e,n)=>Hw T aj n e a x
        |none=> .fail
      else match aq T.bV t,aq T.ty t',a,x with
       |some (e,n),some (.one (.int .i64)),.bn,.v (.int .i64) k _ _=> .part (EF (T.zero n) k) fun zs=> .ret ⟨.c (.one (.own aj)),[(aj,some (.sl n e zs [] (aj+16)))],[]⟩
       |_,_,_,_=> .fail
     |_=> .fail
   | .cap,[.c (.one .bn)]=>match ts.toList with
     |[t]=>match aq T.bV t with
      |some _=>bp (iv .i64 0 (aj+16))
      |none=> .fail
     |_=> .fail
   |_,_=> .fail
 |_,_=> .fail
where yk:List (AV D)→Option (List (A0 D))
 |[]=>some []
 | .c (.one (.ptr i off))::r=>match yk r with
   |some l=>some (.ptr i off::l)
   |none=>none
 | .c (.one (.rp n x off K))::r=>match yk r with
   |some l=>some (.rp n x off K::l)
   |none=>none
 |_=>none
def TY:P1→A1 D→Bool
 | .own _,.own _=>true
 | .own _,.bn=>true
 | .own _,_=>false
 | .fn f _,.fn f' _=>Nat.beq f f'
 | .fn _ _,_=>false
 | .ptr _ _,.ptr _ _=>true
 | .ptr _ _,_=>false
 | .bn,.bn=>true
 | .bn,_=>false
 |_,_=>true
def Mp:List P1→List (A1 D)→Bool
 |p::ps,a::as=>TY p a&&Mp ps as
 |_,_=>true
def ahy:PC→AV D→Bool
 | .one p,.c (.one a)=>TY p a
 | .agg ps,.c (.agg l)=>Mp ps l
 |_,_=>false
def TX:List PC→List (AV D)→Bool
 |[],[]=>true
 |p::ps,a::as=>ahy p a&&TX ps as
 |_,_=>false
def adz:AO D→Bool
 | .fz .. =>true
 |_=>false
def Ar:List P1→List (A1 D)→Q D Bool
 | .own _::ps,.own i::as=> .obj i fun o=>if adz o=true then .ret false else Ar ps as
 |_::ps,_::as=>Ar ps as
 |_,_=> .ret true
def alb(ob:List (Nat×PO)):P1→A1 D→Q D Bool
 | .ptr i _,.ptr j _=>match aq ob i with
   |some (.box ps)=> .obj j fun o=>match o with
    | .box cs=>match Mp ps cs with
      |true=>Ar ps cs
      |false=> .ret false
    |_=> .ret true
   |_=> .ret true
 |p,a=>Ar [p] [a]
def Jw(ob:List (Nat×PO)):List PC→List (AV D)→Q D Bool
 | .one p::ps,.c (.one a)::as=>(alb ob p a).bind fun b=>if b=true then Jw ob ps as else .ret false
 | .agg qs::ps,.c (.agg l)::as=>(Ar qs l).bind fun b=>if b=true then Jw ob ps as else .ret false
 |_,_=> .ret true
def BY:List (au D)→Nat→List (AV D)→Q D (au D)
 |[],_,_=> .fail
 |c::r,f,as=>if Nat.beq c.f f&&TX c.args as then(Jw c.ob c.args as).bind fun b=>if b=true then .ret c else BY r f as else BY r f as
def au.yB(c:au D):Bool:=bo (c.ir.flatMap om++c.bI.flatMap fun p=>ol p.2) 0
def fe(known:List (Nat×Nat)):Nat→List (Nat×PO)→List (Nat×Nat)
 |_,[]=>[]
 |k,(p,_)::r=>match aq known p with
  |some i=>(p,i)::fe known k r
  |none=>(p,k)::fe known (k+1) r
def BU(ids:List (Nat×Nat))(bI:List (Nat×PO)):List (Nat×Option (AO D)):=
 (ids.filter fun p=> !(bo (bI.map Prod.fst) p.1)).map fun p=>(p.2,none)
def P7:List (AC D)→AV D
 |[x]=> .c x
 |l=> .cP l
def Hu:Nat→List (AC D)→List (Nat×AV D)
 |_,[]=>[]
 |k,a::r=>(k,.c a)::Hu (k+1) r
def xR(T:aV D)(c:au D)(h:HH D c.ins):Option (S D):=
 let fl:=cM T c.ins h
 if Nat.ble fl.length 900&&c.ob.all (fun p=>Nat.ble 1000 p.1&&Nat.blt p.1 1100) then
  match fP T fl some id 1100 c.args,gh T fl some id 1100 c.ob with
  |some a,some b=>some ⟨Hu 0 a,b,2000,[]⟩
  |_,_=>none
 else none
def GH(T:aV D)(Φ:List (au D))(aj f:Nat)(args:List (AV D)):Q D (bX D):=(BY Φ f args).bind fun c=>(xO T true 0 c.ins c.args c.ob [] aj args).bind fun x=>if(c.yB&& !x.2.ku.isEmpty)|| !(Nat.ble x.2.nf (aj+8))||(xR T c x.1).isNone then .fail else
     .part (c.fn x.1) fun y=>
       let fl:=cM T c.outs y
       let ids:=fe x.2.ids (aj+8) c.bI
       let ri:=aq ids
       let rK:=fun K=>(if bo K 0 then x.2.kr else [])++(if bo K 1 then [1] else [])
       match fP T fl ri rK (aj+16) c.ir,gh T fl ri rK (aj+16) c.bI with
       |some r,some dm=>if Nat.ble fl.length 48 then .ret ⟨P7 r,dm++BU x.2.ids c.bI,[]⟩ else .fail
       |_,_=> .fail
def M6:A0 D→AV D
 | .ptr i off=> .c (.one (.ptr i off))
 | .rp n x off K=> .c (.one (.rp n x off K))
def tP(T:aV D)(Φ:List (au D))(aj:Nat)(o:Op)(as:List (AV D)):Q D (bX D):=match o with
 | .call {callee:= .value _,.. }=>match as with
   | .c (.one (.fn f fI))::as=>match Nat.blt f 1000000 with
     |true=>GH T Φ aj f (as++fI.map M6)
     |false=>GH T Φ aj (f-1000000) (fI.map M6++as)
   |_=> .fail
 |o=>wZ T aj o as
def xS(lk:List Nat)(e:bX D):Bool:=mT (e.nh.map Prod.fst) lk&&mT e.fz lk
def sT(σ:S D)(dst:Option Nat)(e:bX D):S D:=
 {σ with sl:=(match dst with|some d=>(d,e.dst)::σ.sl|none=>σ.sl),ob:=e.fz.map (fun i=>(i,none))++e.nh++σ.ob,nx:=σ.nx+64}
def pb(σ:S D)(dst:Option Nat):S D:=
 {σ with sl:=(match dst with|some d=>(d,.c (.one .undef))::σ.sl|none=>σ.sl),nx:=σ.nx+64}
structure Lg where
 i:Nat
 rd:List Nat
 wr:List Nat
def bX.wr(e:bX D):List Nat:=e.nh.map Prod.fst++e.fz
def tF(T:aV D)(Φ:List (au D))(p:Nat)(o:Oper)(σ:S D)(lg:List Lg){ρ:Type}(k:S D→List Lg→Option ρ):Option ρ:=match dt σ.sl o.op.operands.toList with
 |some as=>(tP T Φ σ.nx o.op as).go σ.ob [] fun e rd=>match xS σ.lk e with
  |true=>k (sT σ o.dst e) (⟨p,rd,e.wr⟩::lg)
  |false=>none
 |none=>none
def guardOf(ops:List Oper)(sl:List (Nat×AV D))(j:Nat):Option (Nat×AV D):=match ops[j]? with
 |some og=>match og.dst with
  |some d=>match aq sl d with
   |some a=>some (d,a)
   |none=>none
  |none=>none
 |none=>none
def iq(σ:S D)(d:Nat)(b:Bool)(K:List Nat)(g:Nat):S D:={σ with sl:=(d,.c (.one (.v .bool b K g)))::σ.sl}
def Ka:AV D→Bool
 | .c (.one .undef)=>true
 |_=>false
def ii(T:aV D)(Φ:List (au D))(ops:List Oper){ρ:Type}:List Oper→Nat→S D→List Lg→(S D→List Lg→Option ρ)→Option ρ
 |[],_,σ,lg,k=>k σ lg
 |o::r,p,σ,lg,k=>match o.guard with
  |none=>tF T Φ p o σ lg fun σ lg=>ii T Φ ops r (p+1) σ lg k
  |some (j,b)=>match guardOf ops σ.sl j with
   |none=>none
   |some (d,a)=>match a with
    | .c (.one (.v .bool c K g))=>
      pZ c
       (match b with
         |true=>tF T Φ p o (iq σ d true K g) lg fun σ lg=>ii T Φ ops r (p+1) σ lg k
         |false=>ii T Φ ops r (p+1) (pb (iq σ d true K g) o.dst) lg k)
       (match b with
         |true=>ii T Φ ops r (p+1) (pb (iq σ d false K g) o.dst) lg k
         |false=>tF T Φ p o (iq σ d false K g) lg fun σ lg=>ii T Φ ops r (p+1) σ lg k)
    |a=>if Ka a then ii T Φ ops r (p+1) (pb σ o.dst) lg k else none
def rk:S D→List Nat→Option (S D)
 |σ,[]=>some σ
 |σ,i::r=>match cz σ.ob i with
  |some (.bY n t _ _ xs g _)=>if bo σ.lk i then none else rk {σ with ob:=(i,some (.sl n t xs [1] g))::σ.ob} r
  |_=>none
def lr:S D→List Nat→Option (S D)
 |σ,[]=>some σ
 |σ,i::r=>match cz σ.ob i with
  |some o=>match vw o with
   |some (⟨.sl n,xs⟩,K)=>if bo σ.lk i then none else lr {σ with ob:=(i,some (.fz n xs (1::K)))::σ.ob} r
   |_=>none
  |none=>none
def lq(l:List Nat)(σ:S D){ρ:Type}(k:S D→Option ρ):Option ρ:=match lr σ l with
 |some aJ=>k aJ
 |none=>none
def dstsOf(l:List Oper):List Nat:=l.filterMap (·.dst)
def pY(T:aV D)(Φ:List (au D))(ops:List Oper):Sg→∀{ρ:Type},List Oper→Nat→S D→(S D→Option ρ)→Option ρ
 | .nil,_,l,p,σ,k=>ii T Φ ops l p σ [] fun σ _=>k σ
 | .rk s b next,_,l,p,σ,k=>ii T Φ ops (l.take (s-p)) p σ [] fun σ1 _=>match rk σ1 b with
   |some bc=>pY T Φ ops next (l.drop (s-p)) s bc k
   |none=>none
 | .nZ s m j inner next,_,l,p,σ,k=>ii T Φ ops (l.take (s-p)) p σ [] fun σ1 _=>
     let nZ:=(l.drop (s-p)).take m
     let go:=fun{eg:Type} (σ:S D) (k:S D→Option eg)=>match nZ with
      |o::_=>match o.guard with
       |some (i,b)=>match guardOf ops σ.sl i with
        |some (d,.c (.one (.v .bool c K g)))=>
         pZ c
          (match b with
            |true=>pY T Φ ops inner nZ s (iq σ d true K g) k
            |false=>ii T Φ ops nZ s (iq σ d true K g) [] fun σ _=>k σ)
          (match b with
            |true=>ii T Φ ops nZ s (iq σ d false K g) [] fun σ _=>k σ
            |false=>pY T Φ ops inner nZ s (iq σ d false K g) k)
        |_=>ii T Φ ops nZ s σ [] fun σ _=>k σ
       |none=>pY T Φ ops inner nZ s σ k
      |[]=>none
     wrap T (dstsOf nZ) (some (true,[(.normal,j)])) (fun σ k=>go σ (k .normal)) σ1 fun _ bc=>pY T Φ ops next (l.drop (s-p+m)) (s+m) bc k
def bit(m i:Nat):Bool:=Nat.beq ((m>>>i)% 2) 1
def vA(acc:List Nat)(o:Oper):Nat:=o.after.toList.foldl (fun s e=>if Region.binds .any e then s|||(1<<<e.on)|||(acc.reverse.getD e.on 0) else s) 0
def gI:List Oper→List Nat→List Nat
 |[],acc=>acc.reverse
 |o::r,acc=>gI r (vA acc o::acc)
def tmpsOf(ops:List Oper)(o:Oper):List Nat:=(o.op.operands.toList.filterMap fun| .tmp t=>some t|_=>none)++(match o.guard with
 |some (j,_)=>match ops[j]? with
  |some og=>og.dst.toList
  |none=>[]
 |none=>[])
def apart(ops:List Oper)(a b:Oper):Bool:=match a.dst with
 |none=>match b.dst with
  |none=>true
  |some d=> !(bo (tmpsOf ops a) d)
 |some d=> !(bo (tmpsOf ops b) d)&&match b.dst with
  |none=>true
  |some d'=> !(Nat.beq d d')&& !(bo (tmpsOf ops a) d')
def vW(ops:List Oper)(an:List Nat):Nat→List Oper→List (Nat×Oper)→Bool
 |_,[],_=>true
 |j,o::r,seen=>(seen.all fun p=>bit (an.getD j 0) p.1||apart ops p.2 o)&&o.after.toList.all (fun e=> !(Region.binds .any e)||Nat.blt e.on j)&&vW ops an (j+1) r ((j,o)::seen)
def xe(a b:Lg):Bool:=mT a.wr b.rd&&mT b.wr a.rd&&mT a.wr b.wr
def tX(an:List Nat):List Lg→Bool
 |[]=>true
 |a::r=>(r.all fun b=>bit (an.getD a.i 0) b.i||xe a b)&&tX an r
def MS(T:aV D)(Φ:List (au D))(ops:List Oper)(draw:Bool)(sg:Sg){ρ:Type}(σ:S D)(k:S D→Option ρ):Option ρ:=
 match draw with
 |true=>
  match vW ops (gI ops []) 0 ops [] with
  |true=>ii T Φ ops ops 0 σ [] fun aJ lg=>match tX (gI ops []) lg with
   |true=>k aJ
   |false=>none
  |false=>none
 |false=>pY T Φ ops sg ops 0 σ k
def writes:Code→List Nat
 | .region _ ops _=>dstsOf ops.toList
 | .seq a b=>writes a++writes b
 | .cond _ a b=>writes a++writes b
 | .block _ a=>writes a
 | .loop a=>writes a
 | .scope a=>writes a
 | .rangeFunc _ ps a b=>ps.toList++writes a++writes b
 |_=>[]
def rM(T:aV D)(wr:List Nat)(j:J)(pr:Bool)(E:List (Out×J)){ρ:Type}(body:∀{eg:Type},S D→(Out→S D→Option eg)→Option eg)(σ:S D)(k:Out→S D→Option ρ):Option ρ:=
 let mv:=j.mv++pn E
 let lk:=(kept σ mv).map Prod.fst++σ.lk
 qX T j {σ with lk:=lk} fun h0=>
  rI (aC (σ:=HH D j.ci) (ρ:=nP D pr ρ E) (fun h=>match kZ T j wr mv σ h with
   |some cn=>body {cn with lk:=lk} fun o σ1=>match o with
    | .normal=>qX T j σ1 fun h'=>some (.inl h')
    |o=>match toE T pr E o σ1 (k o {σ1 with lk:=σ.lk}) with
     |some x=>some (.inr x)
     |none=>none
   |none=>none) h0) fun x=>oH T pr wr mv σ k E x
def rT:Code→Option Nat
 | .label l=>some l
 |_=>none
def Rz(a:Code)(an:An):Option (Nat×J×Bool×List (Out×J)×An):=match rT a,an with
 |some l,.lab j pr E x=>some (l,j,pr,E,x)
 |_,_=>none
def iY(l:Nat):Out→Out
 | .normal=> .goto l
 | .goto l'=>if Nat.beq l' l then .normal else .goto l'
 |o=>o
def qq:Code→Option (Nat×Code)
 | .label l=>some (l,.skip)
 | .seq a b=>match rT a with
   |some l=>some (l,b)
   |none=>qq b
 |_=>none
def jt(c:Code):Bool:=(qq c).isNone
def gr:Code→Bool
 | .seq a b=>(match rT a with
   |some _=>jt b
   |none=>jt a&&gr a)&&gr b
 | .cond _ a b=>jt a&&jt b&&gr a&&gr b
 | .block _ a=>jt a&&gr a
 | .loop a=>jt a&&gr a
 | .scope a=>gr a
 |_=>true
def gu:Code→Bool
 | .seq a b=>gu a&&gu b
 | .cond _ a b=>gu a&&gu b
 | .block _ a=>gu a
 | .loop a=>gu a
 | .scope _=>false
 |_=>true
def eM(T:aV D)(Φ:List (au D)):Code→An→∀{ρ:Type},S D→(Out→S D→Option ρ)→Option ρ
 | .skip,_,_,σ,k=>k .normal σ
 | .region _ ops draw,an,_,σ,k=>wrap T (dstsOf ops.toList) an.cut (fun σ k=>MS T Φ ops.toList draw an.sg σ (k .normal)) σ k
 | .seq a b,an,_,σ,k=>match Rz a an with
   |some x=>rM T (writes b) x.2.1 x.2.2.1 x.2.2.2.1 (fun σ k=>lq x.2.2.2.2.fz σ fun σ=>eM T Φ b x.2.2.2.2.un σ fun o aJ=>k (iY x.1 o) aJ) σ fun o aJ=>k (iY x.1 o) aJ
   |none=>wrap T (writes (.seq a b)) an.cut (fun σ k=>lq an.a.fz σ fun σ=>eM T Φ a an.a.un σ fun o aJ=>match o with
    | .normal=>lq an.b.fz aJ fun σ=>eM T Φ b an.b.un σ k
    |o=>k o aJ) σ k
 | .cond c a b,an,_,σ,k=>wrap T (writes (.cond c a b)) an.cut (fun σ k=>match eb σ.sl c with
     |some (.c (.one (.v .bool d _ _)))=>pZ d (lq an.a.fz σ fun σ=>eM T Φ a an.a.un σ k) (lq an.b.fz σ fun σ=>eM T Φ b an.b.un σ k)
     |_=>none) σ k
 | .block id a,an,_,σ,k=>wrap T (writes a) an.cut (fun σ k=>lq an.a.fz σ fun σ=>eM T Φ a an.a.un σ fun o aJ=>match o with
     | .exit ue=>match Nat.beq ue id with
       |true=>k .normal aJ
       |false=>k o aJ
     |o=>k o aJ) σ k
 | .exit id,_,_,σ,k=>k (.exit id) σ
 | .ret,_,_,σ,k=>k .ret σ
 | .scope a,an,_,σ,k=>wrap T (writes a) an.cut (fun σ k=>lq an.a.fz σ fun σ=>eM T Φ a an.a.un σ fun o aJ=>match o with
     | .goto _=>none
     |o=>k o aJ) σ k
 | .goto l,_,_,σ,k=>k (.goto l) σ
 | .loop a,.loop j pr E x,_,σ,k=>rM T (writes a) j pr E (fun σ k=>lq x.fz σ fun σ=>eM T Φ a x.un σ k) σ k
 |_,_,_,_,_=>none
def wJ(T:aV D)(sl:List (Nat×AV D)):List ResultVar→Q D (List (AV D))
 |[]=> .ret []
 | .tmp t::r=>match aq sl t with
   |some a=>(wJ T sl r).bind fun l=> .ret (a::l)
   |none=> .fail
 | .cell t ty::r=>match aq sl t,aq T.ty ty with
   |some (.c (.one (.ptr i off))),some ty=> .obj i fun
    | .box cs=>match sI ty T cs off with
      |some a=>(wJ T sl r).bind fun l=> .ret (a::l)
      |none=> .fail
    |_=> .fail
   |_,_=> .fail
def stay(c:au D):List (Nat×Nat):=(c.bI.filter fun p=>bo (c.ob.map Prod.fst) p.1).map fun p=>(p.1,p.1)
def rA(T:aV D)(c:au D)(rs:List ResultVar):Out→S D→Option (HH D c.outs)
 | .ret,σ=>fin σ
 | .normal,σ=>fin σ
 |_,_=>none
where fin (σ:S D):Option (HH D c.outs):=(wJ T σ.sl rs).go σ.ob [] fun dC _=>
 (xO T false 0 c.outs c.ir c.bI (stay c) σ.nx dC).go σ.ob [] fun x _=>match fP T (cM T c.outs x.1) some id 3000 c.ir,gh T (cM T c.outs x.1) some id 3000 c.bI with
   |some _,some _=>some x.1
   |_,_=>none
def DW(T:aV D)(Φ:List (au D))(c:au D)(rs:List ResultVar)(code:Code)(an:An)(h:HH D c.ins):Option (HH D c.outs):=match jt code&&gr code with
 |true=>match xR T c h with
  |some σ=>lq an.fz σ fun σ=>eM T Φ code an.un σ (rA T c rs)
  |none=>none
 |false=>none
end
end Rx
end Go.Proofs.YtaneejpkncdodaaGreat
