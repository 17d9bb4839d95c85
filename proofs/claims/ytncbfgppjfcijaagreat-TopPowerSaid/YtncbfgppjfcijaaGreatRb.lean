import Derived.Test.YtncbfgppjfcijaaGreatRa
set_option linter.unusedVariables false
open ByteArray renaming empty→arX
open Nat renaming beq→aqH,ble→aq2,blt→aqZ
open Prod renaming fst→aqO
noncomputable section
namespace Go.Proofs.YtncbfgppjfcijaaGreat
open Go Dp
namespace Rx
section
variable {D:Nat→Type}
def iv(k:IntKind)(n:Int)(g:Nat):AV D:= .c (.one (.v (.int k) n [] g))
def bv(b:Bool)(g:Nat):AV D:= .c (.one (.v .bool b [] g))
def N3:Value→Option (AV D)
 | .int k n=>some (iv k n 0)
 | .bool b=>some (bv b 0)
 | .string s=>some (.c (.one (.v .str s [] 0)))
 | .slice none 0 0=>some (.c (.one .bi))
 | .pointer none=>some (.c (.one .nA))
 | .nilFunc=>some (.c (.one .xp))
 |_=>none
def dm(sl:List (Nat×AV D)):Operand→Option (AV D)
 | .tmp t=>au sl t
 | .const v=>N3 v
 | .func f=>if aqZ f 1000000 then some (.c (.one (.fn f []))) else none
 | .global _=>none
def dk(sl:List (Nat×AV D)):List Operand→Option (List (AV D))
 |[]=>some []
 |x::r=>match dm sl x,dk sl r with
  |some a,some b=>some (a::b)
  |_,_=>none
def bo(a:AV D):Q D (bT D):= .ret ⟨a,[],[]⟩
def g_.n(T:aV D):g_→Nat
 | .one _| .ptr| .fn=>1
 | .st n=>(T.lv n).length
def g_.agg:g_→Bool
 | .st _=>true
 |_=>false
def cellsD(K:List Nat):Nat→List (DV D)→List (A1 D)
 |_,[]=>[]
 |g,⟨l,d⟩::r=> .v l d (uD K l) g::cellsD K (g+1) r
def ql(T:aV D):g_→Option (List (A1 D))
 | .one (.int k)=>some [.v (.int k) (0:Int) [] 0]
 | .one .bool=>some [.v .bool false [] 0]
 | .one .str=>some [.v .str arX [] 0]
 | .one (.sl _)=>some [.bi]
 | .st n=>some (vK (T.lv n))
 | .ptr=>some [.nA]
 | .fn=>some [.xp]
where vK:List Lf→List (A1 D)
 |[]=>[]
 |l::r=>(match l with| .int k=> .v (.int k) (0:Int) [] 0| .bool=> .v .bool false [] 0| .str=> .v .str arX [] 0| .sl _=> .bi)::vK r
def qG(g:Bool)(l:List (A1 D)):Option (AV D):=if g then some (.c (.agg l)) else match l with
 |[a]=>some (.c (.one a))
 |_=>none
def cellsOf:AV D→Option (List (A1 D))
 | .c (.one a)=>some [a]
 | .c (.agg l)=>some l
 | .cL _=>none
def sU(ty:g_)(T:aV D)(cs:List (A1 D))(off:Nat):Option (AV D):=
 if aq2 (off+ty.n T) cs.length then qG ty.agg ((cs.drop off).take (ty.n T)) else none
def wB(cs us:List (A1 D))(off:Nat):Option (List (A1 D)):=
 if aq2 (off+us.length) cs.length&&us.all storable then some (cs.take off++us++cs.drop (off+us.length)) else none
def py(ls:List Lf):List (A1 D)→Q D (List (DV D)×List Nat×List Nat)
 |[]=> .ret ([],[],[])
 |a::r=>match ls with
  |[]=> .fail
  |l::Fl=>match a with
   | .v l' d K _=>(py Fl r).bind fun x=> .ret (⟨l',d⟩::x.1,K++x.2.1,x.2.2)
   | .bi=>match l with
     | .sl n=>(py Fl r).bind fun x=> .ret (⟨.sl n,[]⟩::x.1,x.2.1,x.2.2)
     |_=> .fail
   | .own j=> .obj j fun o=>match HV o with
     |some (d,K)=>(py Fl r).bind fun x=> .ret (d::x.1,K++x.2.1,x.2.2)
     |none=>match vV o with
      |some (d,K)=>(py Fl r).bind fun x=> .ret (d::x.1,1::K++x.2.1,j::x.2.2)
      |none=> .fail
   |_=> .fail
def Nw(g:Bool):AV D→Bool
 | .c (.one _)=> !g
 | .c (.agg _)=>g
 | .cL _=>false
def Ko(T:aV D)(n:Nat)(a:AV D):Q D (D n×List Nat×List Nat):=if Nw (T.ag n) a then match cellsOf a with
 |some cs=>(py (T.lv n) cs).bind fun x=>match T.gi n x.1 with
  |some y=> .ret (y,x.2)
  |none=> .fail
 |none=> .fail
 else .fail
def px(T:aV D)(n:Nat):List (AV D)→Q D (List (D n)×List Nat×List Nat)
 |[]=> .ret ([],[],[])
 |a::r=>(Ko T n a).bind fun x=>(px T n r).bind fun y=> .ret (x.1::y.1,x.2.1++y.2.1,x.2.2++y.2.2)
def AG(n:Nat):A1 D→Q D (List (D n)×List Nat)
 | .v (.sl n') xs K _=>if h:n'=n then .ret (h▸xs,K) else .fail
 | .bi=> .ret ([],[])
 | .own j=> .obj j fun
   | .sl n' _ xs K _=>if h:n'=n then .ret (h▸xs,K) else .fail
   | .fz n' xs K=>if h:n'=n then .ret (h▸xs,K) else .fail
   |_=> .fail
 | .tail j n' k=> .obj j fun
   | .sl n0 _ xs K _=>if aqH n0 n' then(if h:n0=n then .ret (h▸GP xs k,K) else .fail) else .fail
   |_=> .fail
 | .pre j n' k=> .obj j fun
   | .sl n0 _ xs K _=>if aqH n0 n' then(if h:n0=n then .ret (h▸Dz xs k,K) else .fail) else .fail
   |_=> .fail
 |_=> .fail
def Lt:A1 D→Q D Int
 | .v (.sl _) xs _ _=> .ret (len xs)
 | .ch _ _ _ _ _ _ d=> .ret (len d)
 | .bi=> .ret 0
 | .own j=> .obj j fun
   | .sl _ _ xs _ _=> .ret (len xs)
   | .bU _ _ _ _ xs _ _=> .ret (len xs)
   | .fz _ xs _=> .ret (len xs)
   |_=> .fail
 | .tail i n j=> .obj i fun
   | .sl n' _ xs _ _=>if aqH n' n then .ret (sj (len xs) j) else .fail
   |_=> .fail
 |_=> .fail
def O4(op:BinOp)(g:Nat)(k k':IntKind)(a b:Int):Q D (bT D):=match op with
 | .shr=> .part (oi k.bits a b) fun c=>bo (iv k c g)
 |op=>if k=k' then match op with
   | .add=>bo (iv k (jl k (Ba a b)) g)
   | .sub=>bo (iv k (jl k (sj a b)) g)
   | .mul=>bo (iv k (jl k (agC a b)) g)
   | .and=>bo (iv k (qO k a b) g)
   | .eql=>bo (bv (FA a b) g)
   | .neq=>bo (bv (Tl a b) g)
   | .lss=>bo (bv (LL a b) g)
   | .leq=>bo (bv (Tu a b) g)
   | .gtr=>bo (bv (Tw a b) g)
   | .geq=>bo (bv (Tx a b) g)
   |_=> .fail
  else .fail
def Ji(op:BinOp)(g:Nat)(a b:ByteArray):Q D (bT D):=match op with
 | .add=> .part (Rw a b) fun c=>bo (.c (.one (.v .str c [] g)))
 | .eql=>bo (bv (wX a b) g)
 | .neq=>bo (bv (y8 (wX a b)) g)
 |_=> .fail
def O3(op:BinOp)(g:Nat):AV D→AV D→Q D (bT D)
 | .c (.one (.v (.int k) a _ _)),.c (.one (.v (.int k') b _ _))=>match k,k' with
   | .i64,.i64=>match op with
     | .add=>bo (iv .i64 (agJ a b) g)
     | .sub=>bo (iv .i64 (agf a b) g)
     | .mul=>bo (iv .i64 (agD a b) g)
     | .quo=> .part (ny a b) fun c=>bo (iv .i64 c g)
     | .rem=> .part (jh a b) fun c=>bo (iv .i64 c g)
     | .eql=>bo (bv (FA a b) g)
     | .neq=>bo (bv (Tl a b) g)
     | .lss=>bo (bv (LL a b) g)
     | .leq=>bo (bv (Tu a b) g)
     | .gtr=>bo (bv (Tw a b) g)
     | .geq=>bo (bv (Tx a b) g)
     | .shr=> .part (oi 64 a b) fun c=>bo (iv .i64 c g)
     |_=> .fail
   |k,k'=>O4 op g k k' a b
 | .c (.one (.v .str a _ _)),.c (.one (.v .str b _ _))=>Ji op g a b
 |_,_=> .fail
def O5(op:BinOp)(g:Nat)(a b:Bool):Q D (bT D):=match op with
 | .eql=>bo (bv (beq' a b) g)
 | .neq=>bo (bv (y8 (beq' a b)) g)
 |_=> .fail
def KI(T:aV D)(t i:Nat):Option Nat:=match au T.oR t with
 |some l=>match l[i]? with
  |some p=>some p.1
  |none=>none
 |none=>none
def Lm(i n:Nat)(j:Int)(off t tc q:Nat)(xs:List (D n))(gx ht g:Nat):DV D→Q D (bT D)
 |⟨.sl m,d⟩=>if aqH m q then(if aqH ht 0 then .ret ⟨.c (.one (.ch i n j off (g+1) m d)),[(i,some (.bU n t tc q xs gx (g+1)))],[]⟩ else bo (.c (.one (.ch i n j off ht m d)))) else .fail
 |⟨l,d⟩=>bo (.c (.one (.v l d [] g)))
def EY:g_→Bool
 | .one _=>true
 |_=>false
def Ll(T:aV D)(g:Nat)(ty:g_):A1 D→Q D (bT D)
 | .ptr i off=> .obj i fun
   | .box cs=>match sU ty T cs off with
     |some a=>bo a
     |none=> .fail
   |_=> .fail
 | .rp n x off K=>match sU ty T (cellsD K g (T.out n x)) off with
   |some a=>bo a
   |none=> .fail
 | .el i n j y off tc tj=> .obj i fun
   | .sl n' _ xs K g'=>if aqH g' tc then match sU ty T (cellsD K g (T.out n y)) off with
       |some a=>bo a
       |none=> .fail
     else if aqH n n' then .part (idx xs j) fun y=>match sU ty T (cellsD K g (T.out n' y)) off with
      |some a=>bo a
      |none=> .fail
     else .fail
   | .bU n' t c q xs g' ht=>if aqH n n'&&EY ty then .part (idx xs j) fun y=>match(T.out n' y)[off]? with
       |some x=>Lm i n' j off t c q xs g' ht g x
       |none=> .fail
     else .fail
   |_=> .fail
 |_=> .fail
def Q2(T:aV D)(g:Nat)(ty:g_)(a:AV D):A1 D→Q D (bT D)
 | .ptr i off=> .obj i fun
   | .box cs=>match cellsOf a with
     |some us=>if aqH us.length (ty.n T) then match wB cs us off with
       |some fI=> .ret ⟨.c (.one .undef),[(i,some (.box fI))],[]⟩
       |none=> .fail
      else .fail
     |none=> .fail
   |_=> .fail
 | .el i n j y off tc tj=> .obj i fun
   | .sl n' t xs K g'=>match cellsOf a with
     |some us=>if aqH us.length (ty.n T)&&aqH n n'&&aq2 (off+us.length) (T.lv n').length then(py ((T.lv n').drop off) us).bind fun x=>
       .part (idx xs j) fun y=>match T.gi n' ((T.out n' y).take off++x.1++(T.out n' y).drop (off+x.1.length)) with
         |some z=>if bp x.2.2 i then .fail else .part (cm xs j z) fun zs=> .ret ⟨.c (.one .undef),[(i,some (.sl n' t zs (x.2.1++K) g))],x.2.2⟩
         |none=> .fail
      else .fail
     |none=> .fail
   | .fi n' t' rG q xs j' pA s gx=>match a with
     | .c (.one (.sY i' s'))=>if aqH i i'&&aqH s s'&&aqH n n'&&aqH off pA&&EY ty then .part (sR j j') fun _=> .ret ⟨.c (.one .undef),[(i,some (.bU n' t' rG q xs gx 0))],[]⟩ else .fail
     |_=> .fail
   |_=> .fail
 |_=> .fail
def LP(m:Nat)(j:Int)(tj:Nat):A1 D→Q D (bT D)
 | .v (.sl n) xs K _=>if aqH n m then .part (idx xs j) fun y=>bo (.c (.one (.rp n y 0 K))) else .fail
 | .own i=> .obj i fun
   | .sl n _ xs _ tc=>if aqH n m&& !(aqH tc 0) then .part (idx xs j) fun y=>bo (.c (.one (.el i n j y 0 tc tj))) else .fail
   | .bU n _ _ _ xs tc _=>if aqH n m&& !(aqH tc 0) then .part (idx xs j) fun y=>bo (.c (.one (.el i n j y 0 tc tj))) else .fail
   | .fi n _ _ _ xs _ _ _ tc=>if aqH n m&& !(aqH tc 0) then .part (idx xs j) fun y=>bo (.c (.one (.el i n j y 0 tc tj))) else .fail
   | .fz n xs K=>if aqH n m then .part (idx xs j) fun y=>bo (.c (.one (.rp n y 0 K))) else .fail
   |_=> .fail
 | .bi=> .part (none:Option (D m)) fun y=>bo (.c (.one (.rp m y 0 [])))
 | .tail i n0 j0=> .obj i fun
   | .sl n _ xs _ tc=>if aqH n m&&aqH n n0&& !(aqH tc 0) then .part (idx (GP xs j0) j) fun y=>bo (.c (.one (.el i n (Ba j0 j) y 0 tc 0))) else .fail
   |_=> .fail
 |_=> .fail
def rV(T:aV D)(l:List (Nat×Nat)):List (A1 D)→List (Nat×Operand)→List (AV D)→Option (List (A1 D))
 |cs,[],[]=>some cs
 |cs,(i,_)::r,a::as=>match l[i]?,cellsOf a with
  |some (off,sz),some us=>if aqH us.length sz then match wB cs us off with
    |some fI=>rV T l fI r as
    |none=>none
   else none
  |_,_=>none
 |_,_,_=>none
def rN:Nat→List (Nat×Operand)→Bool
 |_,[]=>true
 |k,(i,_)::r=>aqH i k&&rN (k+1) r
def Tf(T:aV D)(n tc q:Nat):Bool:=match au T.kd n with
 |some p=>aqH p.1 tc&&aqH p.2 q
 |none=>false
def jr:Lf→Bool
 | .sl _=>false
 |_=>true
def p7(T:aV D)(n:Nat)(K:List Nat):List Nat:=match(T.lv n).all jr with
 |true=>[]
 |false=>K
def H3(T:aV D)(ah n t:Nat)(a x:A1 D):Q D (bT D):=(AG n x).bind fun y0=>ZF (y0.1,p7 T n y0.2)
where ZF (ys:List (D n)×List Nat):Q D (bT D):=match a with
 | .own i=> .obj i fun
   | .sl n' t' xs K _=>if h:n'=n then(if aqH t' t then .part (bq (h▸xs) ys.1) fun zs=> .ret ⟨.c (.one (.own ah)),[(ah,some (.sl n t zs (ys.2++K) (ah+16))),(i,none)],[]⟩ else .fail) else .fail
   |_=> .fail
 | .bi=> .part (bq [] ys.1) fun zs=> .ret ⟨.c (.one (.own ah)),[(ah,some (.sl n t zs ys.2 (ah+16)))],[]⟩
 | .pre i e j=> .obj i fun
   | .sl n' t' xs K _=>if h:n'=n then(if aqH t' t&&aqH n' e then .part (bq (h▸Dz xs j) ys.1) fun zs=> .ret ⟨.c (.one (.own ah)),[(ah,some (.sl n t zs (ys.2++K) (ah+16))),(i,none)],[]⟩ else .fail) else .fail
   |_=> .fail
 | .ch i e j off ct m _=> .obj i fun
   | .bU e' te tc q xs _ ht=>if aqH e e'&&aqH ct ht&& !(aqH ht 0)&&aqH m q&&aqH tc t&&aqH q n&&Tf T e' tc q then .part (idx xs j) fun y=>match(T.out e' y)[off]? with
       |some ⟨.sl m',d⟩=>if h:m'=n then .part (bq (h▸d) ys.1) fun zs=>match T.gi e' ((T.out e' y).set off ⟨.sl n,zs⟩) with
         |some y'=> .part (cm xs j y') fun qp=> .ret ⟨.c (.one (.sY i ah)),[(i,some (.fi e' te tc q qp j off ah (ah+16)))],[]⟩
         |none=> .fail
        else .fail
       |_=> .fail
     else .fail
   |_=> .fail
 |_=> .fail
def GW(T:aV D)(ah n i:Nat)(j:Int)(ys:List (D n)×List Nat):Q D (bT D):= .obj i fun
 | .sl n' t xs K _=>if h:n'=n then .ret ⟨iv .i64 (Ca (len xs) j (len ys.1)) 0,[(i,some (.sl n t (GU (h▸xs) j ys.1) (ys.2++K) (ah+16)))],[]⟩ else .fail
 |_=> .fail
def N2(T:aV D)(ah n:Nat)(a x:A1 D):Q D (bT D):=(AG n x).bind fun y0=>match a with
 | .own i=>GW T ah n i 0 (y0.1,p7 T n y0.2)
 | .tail i n' j=>if aqH n' n then GW T ah n i j (y0.1,p7 T n y0.2) else .fail
 |_=> .fail
def tw(d:Int):Option Operand→List (AV D)→Q D (Int×List (AV D))
 |none,as=> .ret (d,as)
 |some _,.c (.one (.v (.int .i64) l _ _))::as=> .ret (l,as)
 |some _,_=> .fail
def oh(g m:Nat)(lo hi:Option Operand)(n:Nat)(xs:List (D n))(K:List Nat)(as:List (AV D)):Q D (bT D):=
 if aqH n m then(tw 0 lo as).bind fun l=>(tw (len xs) hi l.2).bind fun h=>match h.2 with
  |[]=> .part (dV xs l.1 h.1) fun zs=>bo (.c (.one (.v (.sl n) zs K g)))
  |_=> .fail
  else .fail
def JT(fl:Bool)(ah g m:Nat)(lo hi:Option Operand)(a:A1 D)(as:List (AV D)):Q D (bT D):=match a with
 | .v (.sl n) xs K _=>oh g m lo hi n xs K as
 | .bi=>(tw 0 lo as).bind fun l=>(tw 0 hi l.2).bind fun h=>match h.2 with
   |[]=> .part (dV ([]:List Unit) l.1 h.1) fun _=>bo (.c (.one .bi))
   |_=> .fail
 | .own i=> .obj i fun
   | .fz n xs K=>oh g m lo hi n xs K as
   | .sl n t xs K _=>match lo with
     |none=>if aqH n m then(tw (len xs) hi as).bind fun h=>match h.2 with
       |[]=>match fl with
        |true=> .part (dV xs 0 h.1) fun _=>bo (.c (.one (.pre i n h.1)))
        |false=> .part (dV xs 0 h.1) fun zs=> .ret ⟨.c (.one (.own ah)),[(ah,some (.sl n t zs K (ah+16))),(i,none)],[]⟩
       |_=> .fail
      else .fail
     |some _=>match hi with
      |none=>if aqH n m then(tw 0 lo as).bind fun l=>match l.2 with
        |[]=> .part (dV xs l.1 (len xs)) fun _=>bo (.c (.one (.tail i n l.1)))
        |_=> .fail
       else .fail
      |some _=> .fail
   |_=> .fail
 |_=> .fail
def yB:List (A1 D)→Option (List (DV D))
 |[]=>some []
 | .v l d _ _::r=>match yB r with
   |some x=>some (⟨l,d⟩::x)
   |none=>none
 |_=>none
def vH:DV D→DV D→Bool
 |⟨.int _,a⟩,⟨.int _,b⟩=>FA a b
 |⟨.bool,a⟩,⟨.bool,b⟩=>beq' a b
 |⟨.str,a⟩,⟨.str,b⟩=>wX a b
 |_,_=>false
def oW:List (DV D)→List (DV D)→Bool
 |[],_=>true
 |x::xs,ys=>match xs,ys with
  |[],y::_=>vH x y
  |x'::qp,y::ys'=>HU (vH x y) (oW (x'::qp) ys')
  |_,[]=>true
def NL(op:BinOp)(g:Nat)(ls:List Lf)(p q:List (A1 D)):Q D (bT D):=match yB p,yB q with
 |some xs,some ys=>if xs.map DV.l=ls∧ys.map DV.l=ls then match op with
   | .eql=>bo (bv (oW xs ys) g)
   | .neq=>bo (bv (y8 (oW xs ys)) g)
   |_=> .fail
  else .fail
 |_,_=> .fail
def Fw(T:aV D):AV D→Option (List (DV D)×Bool)
 | .c (.one (.nU n xs _))=>some (xs.flatMap (T.out n),true)
 | .c (.one (.v l d _ _))=>some ([⟨l,d⟩],false)
 | .c (.agg cs)=>match yB cs with
   |some x=>some (x,true)
   |none=>none
 |_=>none
def j6:List (DV D)→List (DV D)→Bool
 |x::r,y::s=>match s with
  |[]=>vH x y
  |_::_=>HU (vH x y) (j6 r s)
 |_,_=>true
def zo:(l:Lf)→l.den D
 | .int _=>(0:Int)
 | .bool=>false
 | .str=>arX
 | .sl _=>[]
def xx(l:Lf):List (DV D)→l.den D
 |[]=>zo l
 |⟨l',d⟩::r=>match r with
  |[]=>if h:l'=l then h▸d else zo l
  |_::_=>xx l r
def sh:List Lf→Option Lf
 |[]=>none
 |l::r=>match r with
  |[]=>some l
  |_::_=>sh r
def Fv(T:aV D)(n:Nat)(ks:List (DV D))(g:Bool):Bool:=decide (ks.map DV.l=(T.lv n).dropLast)&&(match ks with|[_]=> !g|_=>g)
def KV(T:aV D)(n g:Nat)(a k:AV D):Q D (bT D):=match a,Fw T k with
 | .c (.one (.own i)),some (ks,kg)=> .obj i fun
   | .mp n' xs=>if aqH n n'&&Fv T n' ks kg then match sh (T.lv n') with
       |some l=>bo (.c (.one (.v l (Fb (fun x=>j6 (T.out n' x) ks) (fun x=>xx l (T.out n' x)) (zo l) xs) [] g)))
       |none=> .fail
     else .fail
   |_=> .fail
 |_,_=> .fail
def KP(T:aV D)(n:Nat)(a k u:AV D):Q D (bT D):=match a,Fw T k,u with
 | .c (.one (.own i)),some (ks,kg),.c (.one (.v l d _ _))=> .obj i fun
   | .mp n' xs=>if aqH n n'&&Fv T n' ks kg then match T.gi n' (ks++[⟨l,d⟩]) with
       |some z=> .ret ⟨.c (.one .undef),[(i,some (.mp n' (E8 (fun x=>j6 (T.out n' x) ks) z xs)))],[]⟩
       |none=> .fail
     else .fail
   |_=> .fail
 |_,_,_=> .fail
def Ai:Operand→Operand→Bool
 | .tmp a,.tmp b=>aqH a b
 | .const (.int .i64 a),.const (.int .i64 b)=>decide (a=b)
 |_,_=>false
def xq(T:aV D)(n:Nat)(h:T.lv n=[.int .u8])(b:Int):D n:=T.uu n (h▸(b:HL D [.int .u8]))
def od(T:aV D)(n:Nat)(h:T.lv n=[.int .u8])(x:D n):Int:=(h▸T.xl n x:HL D [.int .u8])
def aeG(t:TypeId):Operand→Nat
 | .tmp i=>t*4096+i
 |_=>0
def xm(T:aV D)(ah:Nat):Op→List (AV D)→Q D (bT D)
 | .move _,[a]=>bo a
 | .assign _,[a]=>bo a
 | .pick _ _ _,[c,a,b]=>match c with
   | .c (.one (.v .bool d _ _))=>if d=true then bo a else bo b
   |_=> .fail
 | .binOp op t _ _ _,[a,b]=>match a,b with
   | .c (.agg p),.c (.agg q)=>match au T.vD t with
     |some n=>NL op (ah+16) n p q
     |none=> .fail
   | .c (.one (.v .bool p _ _)),.c (.one (.v .bool q _ _))=>match au T.ty t with
     |some (.one .bool)=>O5 op (ah+16) p q
     |_=> .fail
   | .c (.one (.vb _ _ _ _ p)),.c (.one .bi)=>match au T.bS t with
     |some _=>match op with
      | .eql=>bo (bv p (ah+16))
      | .neq=>bo (bv (y8 p) (ah+16))
      |_=> .fail
     |none=> .fail
   |a,b=>O3 op (ah+16) a b
 | .unOp .not _ _,[a]=>match a with
   | .c (.one (.v .bool b _ _))=>bo (bv (y8 b) (ah+16))
   |_=> .fail
 | .unOp .neg _ _,[a]=>match a with
   | .c (.one (.v (.int .i64) n _ _))=>bo (iv .i64 (ags n) (ah+16))
   |_=> .fail
 | .nilCheck _,[a]=>match a with
   | .c (.one (.ptr i off))=>bo a
   | .c (.one (.rp n x off K))=>bo a
   | .c (.one (.el i n j y off tc tj))=>bo a
   |_=> .fail
 | .extract _ i,[a]=>match a with
   | .cL l=>match l[i]? with
     |some x=>bo (.c x)
     |none=> .fail
   |_=> .fail
 | .fieldAddr t _ i,[a]=>match KI T t i,a with
   |some o,.c (.one (.ptr j off))=>bo (.c (.one (.ptr j (off+o))))
   |some o,.c (.one (.rp n x off K))=>bo (.c (.one (.rp n x (off+o) K)))
   |some o,.c (.one (.el j n k y off tc tj))=>bo (.c (.one (.el j n k y (off+o) tc tj)))
   |_,_=> .fail
 | .load t _,[a]=>match au T.ty t,a with
   |some ty,.c (.one p)=>Ll T (ah+16) ty p
   |_,_=> .fail
 | .store t _ _,[p,a]=>match au T.ty t,p with
   |some ty,.c (.one p)=>Q2 T (ah+16) ty a p
   |_,_=> .fail
 | .box _ _,[a]=>match cellsOf a with
   |some cs=>if cs.all storable then .ret ⟨.c (.one (.ptr ah 0)),[(ah,some (.box cs))],[]⟩ else .fail
   |none=> .fail
 | .alloc t,[]=>match au T.ty t with
   |some ty=>match ql T ty with
    |some cs=> .ret ⟨.c (.one (.ptr ah 0)),[(ah,some (.box cs))],[]⟩
    |none=> .fail
   |none=> .fail
 | .build t ps,as=>match au T.ml t with
   |some (m,e,n)=>if rN 0 ps.toList&&aqH ps.toList.length m then(px T n as).bind fun x=>match au T.ty t with
     |some (.st _)=>if x.2.2.isEmpty&&aq2 (x.1.flatMap (T.out n)).length 48 then bo (.c (.agg (cellsD x.2.1 (ah+16) (x.1.flatMap (T.out n))))) else .fail
     |_=> .ret ⟨.c (.one (.nU n x.1 x.2.1)),[],x.2.2⟩
    else .fail
   |none=>match au T.ty t,au T.oR t with
    |some (.st n),some l=>match rV T l (ql.vK (T.lv n)) ps.toList as with
     |some cs=>bo (.c (.agg cs))
     |none=> .fail
    |_,_=> .fail
 | .index t _ _,[a,i]=>match au T.ml t,a,i with
   |some (m,e,n),.c (.one (.nU n' xs K)),.c (.one (.v (.int .i64) j _ _))=>if aqH n n'&&aqH xs.length m then .part (idx xs j) fun y=>match qG (T.ag n') (cellsD K (ah+16) (T.out n' y)) with
     |some r=>bo r
     |none=> .fail
    else .fail
   |some (m,e,n),.c (.agg cs),.c (.one (.v (.int .i64) j _ _))=>if T.ag n then .fail else(px T n (cs.map fun c=> .c (.one c))).bind fun x=>if x.2.2.isEmpty&&aqH x.1.length m then .part (idx x.1 j) fun y=>match qG (T.ag n) (cellsD x.2.1 (ah+16) (T.out n y)) with
     |some r=>bo r
     |none=> .fail
    else .fail
   |none,.c (.one (.v .str s _ _)),.c (.one (.v (.int .i64) j _ _))=>match au T.ty t with
    |some (.one .str)=> .part (Kd s j) fun b=>bo (iv .u8 b (ah+16))
    |_=> .fail
   |_,_,_=> .fail
 | .buildSlice t m ps,as=>match au T.bS t with
   |some (e,n)=>if rN 0 ps.toList&&aqH ps.toList.length m&&aq2 (m*(T.lv n).length) 65536 then(px T n as).bind fun x=>
     .ret ⟨.c (.one (.own ah)),[(ah,some (.sl n e x.1 x.2.1 (ah+16)))],x.2.2⟩
    else .fail
   |none=> .fail
 | .indexAddr t _ io,[a,i]=>match au T.bS t,a,i with
   |some (_,n),.c (.one a),.c (.one (.v (.int .i64) j _ tj))=>LP n j tj a
   |none,.c (.one (.ptr b off)),.c (.one (.v (.int .i64) _ _ _))=>match au T.ml t,io with
    |some (m,_,n),.const (.int .i64 (.ofNat q))=>if aqZ q m then bo (.c (.one (.ptr b (off+q*(T.lv n).length)))) else .fail
    |_,_=> .fail
   |_,_,_=> .fail
 | .makeSlice t x y,[a,_]=>match au T.bS t,a with
   |some (e,n),.c (.one (.v (.int .i64) l _ _))=>if Ai x y then .part (jC (T.zero n) l) fun zs=>match au T.kd n with
     |some (tc,q)=> .ret ⟨.c (.one (.own ah)),[(ah,some (.bU n e tc q zs (ah+16) 0))],[]⟩
     |none=> .ret ⟨.c (.one (.own ah)),[(ah,some (.sl n e zs [] (ah+16)))],[]⟩
    else .fail
   |_,_=> .fail
 | .slice t x lo hi none,a::as=>match au T.bS t,a with
   |some (_,n),.c (.one a)=>JT (bp T.pre (aeG t x)) ah (ah+16) n lo hi a as
   |_,_=> .fail
 | .makeMap t none,[]=>match au T.ou t with
   |some (_,_,n)=> .ret ⟨.c (.one (.own ah)),[(ah,some (.mp n []))],[]⟩
   |none=> .fail
 | .lookup t _ _ false,[m,k]=>match au T.ou t with
   |some (_,_,n)=>KV T n (ah+16) m k
   |none=> .fail
 | .mapUpdate t _ _ _,[m,k,u]=>match au T.ou t with
   |some (_,_,n)=>KP T n m k u
   |none=> .fail
 | .convert s t _,[a]=>match au T.ty s,au T.ty t,a with
   |some (.one (.int _)),some (.one (.int k')),.c (.one (.v (.int k) n _ _))=>match k' with
    | .i64=>bo (iv .i64 (W n) (ah+16))
    |k'=>bo (iv k' (jl k' n) (ah+16))
   |some (.one .str),some (.one (.sl _)),.c (.one (.v .str x _ _))=>match au T.bS t with
    |some (e,n)=>match au T.ty e with
     |some (.one (.int .u8))=>if h:T.lv n=[.int .u8] then .part (Ke (xq T n h) x) fun xs=>bo (.c (.one (.v (.sl n) xs [1] (ah+16)))) else .fail
     |_=> .fail
    |none=> .fail
   |some (.one (.sl _)),some (.one .str),.c (.one a)=>match au T.bS s with
    |some (e,n)=>match au T.ty e with
     |some (.one (.int .u8))=>if h:T.lv n=[.int .u8] then(AG n a).bind fun x=>bo (.c (.one (.v .str (yV (od T n h) x.1) [] (ah+16)))) else .fail
     |_=> .fail
    |none=> .fail
   |_,_,_=> .fail
 | .makeFunc (.func f) first fJ,as=>if aqZ f 1000000 then match yI as with
     |some cs=>if aqH first.size 0 then bo (.c (.one (.fn f cs))) else if aqH fJ.size 0 then bo (.c (.one (.fn (f+1000000) cs))) else .fail
     |none=> .fail
   else .fail
 | .call {callee:= .builtin b,argTypes:=ts,.. },as=>match b,as with
   | .len,[.c (.one a)]=>match ts.toList with
     |[t]=>match au T.bS t with
      |some _=>(Lt a).bind fun n=>bo (iv .i64 n (ah+16))
      |none=>match au T.ty t,a with
       |some (.one .str),.v .str s _ _=>bo (iv .i64 (Kc s) (ah+16))
       |_,_=> .fail
     |_=> .fail
   | .min,[.c (.one (.v (.int .i64) p _ _)),.c (.one (.v (.int .i64) q _ _))]=>bo (iv .i64 (dx p q) (ah+16))
   | .max,[.c (.one (.v (.int .i64) p _ _)),.c (.one (.v (.int .i64) q _ _))]=>bo (iv .i64 (imax p q) (ah+16))
   | .max,[.c (.one (.v (.int .i64) p _ _)),.c (.one (.v (.int .i64) q _ _)),.c (.one (.v (.int .i64) r _ _))]=>bo (iv .i64 (imax (imax p q) r) (ah+16))
   | .max,[.c (.one (.v (.int .i64) p _ _)),.c (.one (.v (.int .i64) q _ _)),.c (.one (.v (.int .i64) r _ _)),.c (.one (.v (.int .i64) s _ _))]=>bo (iv .i64 (imax (imax (imax p q) r) s) (ah+16))
   | .min,[.c (.one (.v (.int .i64) p _ _)),.c (.one (.v (.int .i64) q _ _)),.c (.one (.v (.int .i64) r _ _))]=>bo (iv .i64 (dx (dx p q) r) (ah+16))
   | .clear,[.c (.one (.tail i n j))]=>match ts.toList with
     |[t]=>match au T.bS t with
      |some (_,n')=>if aqH n n' then .obj i fun
        | .sl n0 te xs K _=>if aqH n0 n then .ret ⟨.cL [],[(i,some (.sl n0 te (nS (T.zero n0) xs j) K (ah+16)))],[]⟩ else .fail
        |_=> .fail
       else .fail
      |none=> .fail
     |_=> .fail
   | .copy,[.c (.one a),.c (.one x)]=>match ts.toList with
     |[t,t']=>if aqH t t' then match au T.bS t with
        |some (_,n)=>N2 T ah n a x
        |none=> .fail
      else .fail
     |_=> .fail
   | .append,[.c (.one a),.c (.one x)]=>match ts.toList with
     |[t,t']=>if aqH t t' then match au T.bS t with
        |some (e,n)=>H3 T ah n e a x
        |none=> .fail
      else match au T.bS t,au T.ty t',a,x with
       |some (e,n),some (.one (.int .i64)),.bi,.v (.int .i64) k _ _=> .part (Fa (T.zero n) k) fun zs=> .ret ⟨.c (.one (.own ah)),[(ah,some (.sl n e zs [] (ah+16)))],[]⟩
       |_,_,_,_=> .fail
     |_=> .fail
   | .cap,[.c (.one .bi)]=>match ts.toList with
     |[t]=>match au T.bS t with
      |some _=>bo (iv .i64 0 (ah+16))
      |none=> .fail
     |_=> .fail
   |_,_=> .fail
 |_,_=> .fail
where yI:List (AV D)→Option (List (A0 D))
 |[]=>some []
 | .c (.one (.ptr i off))::r=>match yI r with
   |some l=>some (.ptr i off::l)
   |none=>none
 | .c (.one (.rp n x off K))::r=>match yI r with
   |some l=>some (.rp n x off K::l)
   |none=>none
 |_=>none
def Vq:P1→A1 D→Bool
 | .own _,.own _=>true
 | .own _,.bi=>true
 | .own _,_=>false
 | .fn f _,.fn f' _=>aqH f f'
 | .fn _ _,_=>false
 | .ptr _ _,.ptr _ _=>true
 | .ptr _ _,_=>false
 | .bi,.bi=>true
 | .bi,_=>false
 |_,_=>true
def NB:List P1→List (A1 D)→Bool
 |p::ps,a::as=>Vq p a&&NB ps as
 |_,_=>true
def akt:PC→AV D→Bool
 | .one p,.c (.one a)=>Vq p a
 | .agg ps,.c (.agg l)=>NB ps l
 |_,_=>false
def Vp:List PC→List (AV D)→Bool
 |[],[]=>true
 |p::ps,a::as=>akt p a&&Vp ps as
 |_,_=>false
def agp:AO D→Bool
 | .fz .. =>true
 |_=>false
def AQ:List P1→List (A1 D)→Q D Bool
 | .own _::ps,.own i::as=> .obj i fun o=>if agp o=true then .ret false else AQ ps as
 |_::ps,_::as=>AQ ps as
 |_,_=> .ret true
def ao3(ob:List (Nat×PO)):P1→A1 D→Q D Bool
 | .ptr i _,.ptr j _=>match au ob i with
   |some (.box ps)=> .obj j fun o=>match o with
    | .box cs=>match NB ps cs with
      |true=>AQ ps cs
      |false=> .ret false
    |_=> .ret true
   |_=> .ret true
 |p,a=>AQ [p] [a]
def KD(ob:List (Nat×PO)):List PC→List (AV D)→Q D Bool
 | .one p::ps,.c (.one a)::as=>(ao3 ob p a).bind fun b=>if b=true then KD ob ps as else .ret false
 | .agg qs::ps,.c (.agg l)::as=>(AQ qs l).bind fun b=>if b=true then KD ob ps as else .ret false
 |_,_=> .ret true
def Cd:List (ar D)→Nat→List (AV D)→Q D (ar D)
 |[],_,_=> .fail
 |c::r,f,as=>if aqH c.f f&&Vp c.args as then(KD c.ob c.args as).bind fun b=>if b=true then .ret c else Cd r f as else Cd r f as
def ar.yW(c:ar D):Bool:=bp (c.ie.flatMap oA++c.bG.flatMap fun p=>oz p.2) 0
def fh(known:List (Nat×Nat)):Nat→List (Nat×PO)→List (Nat×Nat)
 |_,[]=>[]
 |k,(p,_)::r=>match au known p with
  |some i=>(p,i)::fh known k r
  |none=>(p,k)::fh known (k+1) r
def B'(ids:List (Nat×Nat))(bG:List (Nat×PO)):List (Nat×Option (AO D)):=
 (ids.filter fun p=> !(bp (bG.map aqO) p.1)).map fun p=>(p.2,none)
def RL:List (AC D)→AV D
 |[x]=> .c x
 |l=> .cL l
def H0:Nat→List (AC D)→List (Nat×AV D)
 |_,[]=>[]
 |k,a::r=>(k,.c a)::H0 (k+1) r
def yi(T:aV D)(c:ar D)(h:HH D c.ins):Option (S D):=
 let fl:=cN T c.ins h
 if aq2 fl.length 900&&c.ob.all (fun p=>aq2 1000 p.1&&aqZ p.1 1100) then
  match fO T fl some id 1100 c.args,gj T fl some id 1100 c.ob with
  |some a,some b=>some ⟨H0 0 a,b,2000,[]⟩
  |_,_=>none
 else none
def G7(T:aV D)(Φ:List (ar D))(ah f:Nat)(args:List (AV D)):Q D (bT D):=(Cd Φ f args).bind fun c=>(ye T true 0 c.ins c.args c.ob [] ah args).bind fun x=>if(c.yW&& !x.2.ku.isEmpty)|| !(aq2 x.2.nf (ah+8))||(yi T c x.1).isNone then .fail else
     .part (c.fn x.1) fun y=>
       let fl:=cN T c.outs y
       let ids:=fh x.2.ids (ah+8) c.bG
       let ri:=au ids
       let rK:=fun K=>(if bp K 0 then x.2.kr else [])++(if bp K 1 then [1] else [])
       match fO T fl ri rK (ah+16) c.ie,gj T fl ri rK (ah+16) c.bG with
       |some r,some di=>if aq2 fl.length 48 then .ret ⟨RL r,di++B' x.2.ids c.bG,[]⟩ else .fail
       |_,_=> .fail
def Oe:A0 D→AV D
 | .ptr i off=> .c (.one (.ptr i off))
 | .rp n x off K=> .c (.one (.rp n x off K))
def uo(T:aV D)(Φ:List (ar D))(ah:Nat)(o:Op)(as:List (AV D)):Q D (bT D):=match o with
 | .call {callee:= .value _,.. }=>match as with
   | .c (.one (.fn f fJ))::as=>match aqZ f 1000000 with
     |true=>G7 T Φ ah f (as++fJ.map Oe)
     |false=>G7 T Φ ah (f-1000000) (fJ.map Oe++as)
   |_=> .fail
 |o=>xm T ah o as
def yj(lk:List Nat)(e:bT D):Bool:=na (e.nt.map aqO) lk&&na e.fz lk
def tA(σ:S D)(dst:Option Nat)(e:bT D):S D:=
 {σ with sl:=(match dst with|some d=>(d,e.dst)::σ.sl|none=>σ.sl),ob:=e.fz.map (fun i=>(i,none))++e.nt++σ.ob,nx:=σ.nx+64}
def pt(σ:S D)(dst:Option Nat):S D:=
 {σ with sl:=(match dst with|some d=>(d,.c (.one .undef))::σ.sl|none=>σ.sl),nx:=σ.nx+64}
structure Lg where
 i:Nat
 rd:List Nat
 wr:List Nat
def bT.wr(e:bT D):List Nat:=e.nt.map aqO++e.fz
def ue(T:aV D)(Φ:List (ar D))(p:Nat)(o:Oper)(σ:S D)(lg:List Lg){ρ:Type}(k:S D→List Lg→Option ρ):Option ρ:=match dk σ.sl o.op.operands.toList with
 |some as=>(uo T Φ σ.nx o.op as).go σ.ob [] fun e rd=>match yj σ.lk e with
  |true=>k (tA σ o.dst e) (⟨p,rd,e.wr⟩::lg)
  |false=>none
 |none=>none
def guardOf(ops:List Oper)(sl:List (Nat×AV D))(j:Nat):Option (Nat×AV D):=match ops[j]? with
 |some og=>match og.dst with
  |some d=>match au sl d with
   |some a=>some (d,a)
   |none=>none
  |none=>none
 |none=>none
def iC(σ:S D)(d:Nat)(b:Bool)(K:List Nat)(g:Nat):S D:={σ with sl:=(d,.c (.one (.v .bool b K g)))::σ.sl}
def LD:AV D→Bool
 | .c (.one .undef)=>true
 |_=>false
def im(T:aV D)(Φ:List (ar D))(ops:List Oper){ρ:Type}:List Oper→Nat→S D→List Lg→(S D→List Lg→Option ρ)→Option ρ
 |[],_,σ,lg,k=>k σ lg
 |o::r,p,σ,lg,k=>match o.guard with
  |none=>ue T Φ p o σ lg fun σ lg=>im T Φ ops r (p+1) σ lg k
  |some (j,b)=>match guardOf ops σ.sl j with
   |none=>none
   |some (d,a)=>match a with
    | .c (.one (.v .bool c K g))=>
      Cf c
       (match b with
         |true=>ue T Φ p o (iC σ d true K g) lg fun σ lg=>im T Φ ops r (p+1) σ lg k
         |false=>im T Φ ops r (p+1) (pt (iC σ d true K g) o.dst) lg k)
       (match b with
         |true=>im T Φ ops r (p+1) (pt (iC σ d false K g) o.dst) lg k
         |false=>ue T Φ p o (iC σ d false K g) lg fun σ lg=>im T Φ ops r (p+1) σ lg k)
    |a=>if LD a then im T Φ ops r (p+1) (pt σ o.dst) lg k else none
def rF:S D→List Nat→Option (S D)
 |σ,[]=>some σ
 |σ,i::r=>match cw σ.ob i with
  |some (.bU n t _ _ xs g _)=>if bp σ.lk i then none else rF {σ with ob:=(i,some (.sl n t xs [1] g))::σ.ob} r
  |_=>none
def lz:S D→List Nat→Option (S D)
 |σ,[]=>some σ
 |σ,i::r=>match cw σ.ob i with
  |some o=>match vV o with
   |some (⟨.sl n,xs⟩,K)=>if bp σ.lk i then none else lz {σ with ob:=(i,some (.fz n xs (1::K)))::σ.ob} r
   |_=>none
  |none=>none
def lu(l:List Nat)(σ:S D){ρ:Type}(k:S D→Option ρ):Option ρ:=match lz σ l with
 |some aI=>k aI
 |none=>none
def dstsOf(l:List Oper):List Nat:=l.filterMap (·.dst)
def qa(T:aV D)(Φ:List (ar D))(ops:List Oper):Sg→∀{ρ:Type},List Oper→Nat→S D→(S D→Option ρ)→Option ρ
 | .nil,_,l,p,σ,k=>im T Φ ops l p σ [] fun σ _=>k σ
 | .rF s b next,_,l,p,σ,k=>im T Φ ops (l.take (s-p)) p σ [] fun σ1 _=>match rF σ1 b with
   |some bc=>qa T Φ ops next (l.drop (s-p)) s bc k
   |none=>none
 | .oj s m j inner next,_,l,p,σ,k=>im T Φ ops (l.take (s-p)) p σ [] fun σ1 _=>
     let oj:=(l.drop (s-p)).take m
     let go:=fun{eo:Type} (σ:S D) (k:S D→Option eo)=>match oj with
      |o::_=>match o.guard with
       |some (i,b)=>match guardOf ops σ.sl i with
        |some (d,.c (.one (.v .bool c K g)))=>
         Cf c
          (match b with
            |true=>qa T Φ ops inner oj s (iC σ d true K g) k
            |false=>im T Φ ops oj s (iC σ d true K g) [] fun σ _=>k σ)
          (match b with
            |true=>im T Φ ops oj s (iC σ d false K g) [] fun σ _=>k σ
            |false=>qa T Φ ops inner oj s (iC σ d false K g) k)
        |_=>im T Φ ops oj s σ [] fun σ _=>k σ
       |none=>qa T Φ ops inner oj s σ k
      |[]=>none
     wrap T (dstsOf oj) (some (true,[(.normal,j)])) (fun σ k=>go σ (k .normal)) σ1 fun _ bc=>qa T Φ ops next (l.drop (s-p+m)) (s+m) bc k
def bit(m i:Nat):Bool:=aqH ((m>>>i)% 2) 1
def vY(acc:List Nat)(o:Oper):Nat:=o.after.toList.foldl (fun s e=>if Region.binds .any e then s|||(1<<<e.on)|||(acc.reverse.getD e.on 0) else s) 0
def gN:List Oper→List Nat→List Nat
 |[],acc=>acc.reverse
 |o::r,acc=>gN r (vY acc o::acc)
def tmpsOf(ops:List Oper)(o:Oper):List Nat:=(o.op.operands.toList.filterMap fun| .tmp t=>some t|_=>none)++(match o.guard with
 |some (j,_)=>match ops[j]? with
  |some og=>og.dst.toList
  |none=>[]
 |none=>[])
def apart(ops:List Oper)(a b:Oper):Bool:=match a.dst with
 |none=>match b.dst with
  |none=>true
  |some d=> !(bp (tmpsOf ops a) d)
 |some d=> !(bp (tmpsOf ops b) d)&&match b.dst with
  |none=>true
  |some d'=> !(aqH d d')&& !(bp (tmpsOf ops a) d')
def wC(ops:List Oper)(an:List Nat):Nat→List Oper→List (Nat×Oper)→Bool
 |_,[],_=>true
 |j,o::r,seen=>(seen.all fun p=>bit (an.getD j 0) p.1||apart ops p.2 o)&&o.after.toList.all (fun e=> !(Region.binds .any e)||aqZ e.on j)&&wC ops an (j+1) r ((j,o)::seen)
def xv(a b:Lg):Bool:=na a.wr b.rd&&na b.wr a.rd&&na a.wr b.wr
def uz(an:List Nat):List Lg→Bool
 |[]=>true
 |a::r=>(r.all fun b=>bit (an.getD a.i 0) b.i||xv a b)&&uz an r
def N1(T:aV D)(Φ:List (ar D))(ops:List Oper)(draw:Bool)(sg:Sg){ρ:Type}(σ:S D)(k:S D→Option ρ):Option ρ:=
 match draw with
 |true=>
  match wC ops (gN ops []) 0 ops [] with
  |true=>im T Φ ops ops 0 σ [] fun aI lg=>match uz (gN ops []) lg with
   |true=>k aI
   |false=>none
  |false=>none
 |false=>qa T Φ ops sg ops 0 σ k
def writes:Code→List Nat
 | .region _ ops _=>dstsOf ops.toList
 | .seq a b=>writes a++writes b
 | .cond _ a b=>writes a++writes b
 | .block _ a=>writes a
 | .loop a=>writes a
 | .scope a=>writes a
 | .rangeFunc _ ps a b=>ps.toList++writes a++writes b
 |_=>[]
def sd(T:aV D)(wr:List Nat)(j:J)(pr:Bool)(E:List (Out×J)){ρ:Type}(body:∀{eo:Type},S D→(Out→S D→Option eo)→Option eo)(σ:S D)(k:Out→S D→Option ρ):Option ρ:=
 let mv:=j.mv++pC E
 let lk:=(kept σ mv).map aqO++σ.lk
 rb T j {σ with lk:=lk} fun h0=>
  rY (ay (σ:=HH D j.bZ) (ρ:=nY D pr ρ E) (fun h=>match k9 T j wr mv σ h with
   |some ci=>body {ci with lk:=lk} fun o σ1=>match o with
    | .normal=>rb T j σ1 fun h'=>some (.inl h')
    |o=>match toE T pr E o σ1 (k o {σ1 with lk:=σ.lk}) with
     |some x=>some (.inr x)
     |none=>none
   |none=>none) h0) fun x=>oQ T pr wr mv σ k E x
def sn:Code→Option Nat
 | .label l=>some l
 |_=>none
def S6(a:Code)(an:An):Option (Nat×J×Bool×List (Out×J)×An):=match sn a,an with
 |some l,.lab j pr E x=>some (l,j,pr,E,x)
 |_,_=>none
def je(l:Nat):Out→Out
 | .normal=> .goto l
 | .goto l'=>if aqH l' l then .normal else .goto l'
 |o=>o
def qy:Code→Option (Nat×Code)
 | .label l=>some (l,.skip)
 | .seq a b=>match sn a with
   |some l=>some (l,b)
   |none=>qy b
 |_=>none
def jB(c:Code):Bool:=(qy c).isNone
def gE:Code→Bool
 | .seq a b=>(match sn a with
   |some _=>jB b
   |none=>jB a&&gE a)&&gE b
 | .cond _ a b=>jB a&&jB b&&gE a&&gE b
 | .block _ a=>jB a&&gE a
 | .loop a=>jB a&&gE a
 | .scope a=>gE a
 |_=>true
def gF:Code→Bool
 | .seq a b=>gF a&&gF b
 | .cond _ a b=>gF a&&gF b
 | .block _ a=>gF a
 | .loop a=>gF a
 | .scope _=>false
 |_=>true
def eK(T:aV D)(Φ:List (ar D)):Code→An→∀{ρ:Type},S D→(Out→S D→Option ρ)→Option ρ
 | .skip,_,_,σ,k=>k .normal σ
 | .region _ ops draw,an,_,σ,k=>wrap T (dstsOf ops.toList) an.cut (fun σ k=>N1 T Φ ops.toList draw an.sg σ (k .normal)) σ k
 | .seq a b,an,_,σ,k=>match S6 a an with
   |some x=>sd T (writes b) x.2.1 x.2.2.1 x.2.2.2.1 (fun σ k=>lu x.2.2.2.2.fz σ fun σ=>eK T Φ b x.2.2.2.2.un σ fun o aI=>k (je x.1 o) aI) σ fun o aI=>k (je x.1 o) aI
   |none=>wrap T (writes (.seq a b)) an.cut (fun σ k=>lu an.a.fz σ fun σ=>eK T Φ a an.a.un σ fun o aI=>match o with
    | .normal=>lu an.b.fz aI fun σ=>eK T Φ b an.b.un σ k
    |o=>k o aI) σ k
 | .cond c a b,an,_,σ,k=>wrap T (writes (.cond c a b)) an.cut (fun σ k=>match dm σ.sl c with
     |some (.c (.one (.v .bool d _ _)))=>Cf d (lu an.a.fz σ fun σ=>eK T Φ a an.a.un σ k) (lu an.b.fz σ fun σ=>eK T Φ b an.b.un σ k)
     |_=>none) σ k
 | .block id a,an,_,σ,k=>wrap T (writes a) an.cut (fun σ k=>lu an.a.fz σ fun σ=>eK T Φ a an.a.un σ fun o aI=>match o with
     | .exit uG=>match aqH uG id with
       |true=>k .normal aI
       |false=>k o aI
     |o=>k o aI) σ k
 | .exit id,_,_,σ,k=>k (.exit id) σ
 | .ret,_,_,σ,k=>k .ret σ
 | .scope a,an,_,σ,k=>wrap T (writes a) an.cut (fun σ k=>lu an.a.fz σ fun σ=>eK T Φ a an.a.un σ fun o aI=>match o with
     | .goto _=>none
     |o=>k o aI) σ k
 | .goto l,_,_,σ,k=>k (.goto l) σ
 | .loop a,.loop j pr E x,_,σ,k=>sd T (writes a) j pr E (fun σ k=>lu x.fz σ fun σ=>eK T Φ a x.un σ k) σ k
 |_,_,_,_,_=>none
def w_(T:aV D)(sl:List (Nat×AV D)):List ResultVar→Q D (List (AV D))
 |[]=> .ret []
 | .tmp t::r=>match au sl t with
   |some a=>(w_ T sl r).bind fun l=> .ret (a::l)
   |none=> .fail
 | .cell t ty::r=>match au sl t,au T.ty ty with
   |some (.c (.one (.ptr i off))),some ty=> .obj i fun
    | .box cs=>match sU ty T cs off with
      |some a=>(w_ T sl r).bind fun l=> .ret (a::l)
      |none=> .fail
    |_=> .fail
   |_,_=> .fail
def stay(c:ar D):List (Nat×Nat):=(c.bG.filter fun p=>bp (c.ob.map aqO) p.1).map fun p=>(p.1,p.1)
def rQ(T:aV D)(c:ar D)(rs:List ResultVar):Out→S D→Option (HH D c.outs)
 | .ret,σ=>fin σ
 | .normal,σ=>fin σ
 |_,_=>none
where fin (σ:S D):Option (HH D c.outs):=(w_ T σ.sl rs).go σ.ob [] fun dA _=>
 (ye T false 0 c.outs c.ie c.bG (stay c) σ.nx dA).go σ.ob [] fun x _=>match fO T (cN T c.outs x.1) some id 3000 c.ie,gj T (cN T c.outs x.1) some id 3000 c.bG with
   |some _,some _=>some x.1
   |_,_=>none
def Em(T:aV D)(Φ:List (ar D))(c:ar D)(rs:List ResultVar)(code:Code)(an:An)(h:HH D c.ins):Option (HH D c.outs):=match jB code&&gE code with
 |true=>match yi T c h with
  |some σ=>lu an.fz σ fun σ=>eK T Φ code an.un σ (rQ T c rs)
  |none=>none
 |false=>none
end
end Rx
end Go.Proofs.YtncbfgppjfcijaaGreat
