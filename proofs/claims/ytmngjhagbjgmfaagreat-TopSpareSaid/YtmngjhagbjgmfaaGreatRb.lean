import Derived.Test.YtmngjhagbjgmfaaGreatRa
set_option linter.all false
open Bool renaming false->ai,true->ab
open ByteArray renaming empty->tq
open Go renaming Code->bL,Oper->aS,Operand->aZ,ResultVar->lc
open Nat renaming beq->aT,ble->ef,blt->dx
open Option renaming some->aa
open Prod renaming fst->bS
noncomputable section
namespace Go.Proofs.YtmngjhagbjgmfaaGreat
open Go Dp
namespace Rx
section
variable {D:Nat->Type}
def iv(k:IntKind)(n:Int)(g:Nat):AV D:= .c (.one (.v (.int k) n [] g))
def bv(b:Bool)(g:Nat):AV D:= .c (.one (.v .bool b [] g))
def VL:Value->Option (AV D)
 | .int k n=>aa (iv k n 0)
 | .bool b=>aa (bv b 0)
 | .string s=>aa (.c (.one (.v .str s [] 0)))
 | .slice none 0 0=>aa (.c (.one .bE))
 | .pointer none=>aa (.c (.one .ss))
 | .nilFunc=>aa (.c (.one .Dd))
 | .map none=>aa (.c (.one .zz))
 |_=>none
def eQ(sl:List (Nat×AV D)):aZ->Option (AV D)
 | .tmp t=>aE sl t
 | .const v=>VL v
 | .func f=>if dx f 1000000 then aa (.c (.one (.fn f [])))else none
 | .global _=>none
def eP(sl:List (Nat×AV D)):List aZ->Option (List (AV D))
 |[]=>aa []
 |x::r=>match eQ sl x,eP sl r with
  |some a,aa b=>aa (a::b)
  |_,_=>none
def bX(a:AV D):Q D (cW D):= .ret ⟨a,[],[]⟩
def kW.n(T:bb D):kW->Nat
 | .one _| .ptr| .fn=>1
 | .st n=>(T.lv n).length
def kW.agg:kW->Bool
 | .st _=>ab
 |_=>ai
def cellsD(K:List Nat):Nat->List (DV D)->List (A1 D)
 |_,[]=>[]
 |g,⟨l,d⟩::r=> .v l d (Ao K l) g::cellsD K (g+1) r
def wa(T:bb D):kW->Option (List (A1 D))
 | .one (.int k)=>aa [.v (.int k) (0:Int) [] 0]
 | .one .bool=>aa [.v .bool ai [] 0]
 | .one .str=>aa [.v .str tq [] 0]
 | .one (.sl _)=>aa [.bE]
 | .st n=>aa (By (T.lv n))
 | .ptr=>aa [.ss]
 | .fn=>aa [.Dd]
where By:List Lf->List (A1 D)
 |[]=>[]
 |l::r=>(match l with| .int k=> .v (.int k) (0:Int) [] 0| .bool=> .v .bool ai [] 0| .str=> .v .str tq [] 0| .sl _=> .bE)::By r
def u7(g:Bool)(l:List (A1 D)):Option (AV D):=if g then aa (.c (.agg l))else match l with
 |[a]=>aa (.c (.one a))
 |_=>none
def cellsOf:AV D->Option (List (A1 D))
 | .c (.one a)=>aa [a]
 | .c (.agg l)=>aa l
 | .dV _=>none
def yP(ty:kW)(T:bb D)(cs:List (A1 D))(off:Nat):Option (AV D):=
 if ef (off+ty.n T) cs.length then u7 ty.agg ((cs.drop off).take (ty.n T))else none
def CB(cs us:List (A1 D))(off:Nat):Option (List (A1 D)):=
 if ef (off+us.length) cs.length&&us.all storable then aa (cs.take off++us++cs.drop (off+us.length))else none
def u0(ls:List Lf):List (A1 D)->Q D (List (DV D)×List Nat×List Nat)
 |[]=> .ret ([],[],[])
 |a::r=>match ls with
  |[]=> .fail
  |l::L8=>match a with
   | .v l' d K _=>(u0 L8 r).bind λx=> .ret (⟨l',d⟩::x.1,K++x.2.1,x.2.2)
   | .bE=>match l with
     | .sl n=>(u0 L8 r).bind λx=> .ret (⟨.sl n,[]⟩::x.1,x.2.1,x.2.2)
     |_=> .fail
   | .own j=> .obj j λo=>match O0 o with
     |some (d,K)=>(u0 L8 r).bind λx=> .ret (d::x.1,K++x.2.1,x.2.2)
     |none=>match BJ o with
      |some (d,K)=>(u0 L8 r).bind λx=> .ret (d::x.1,1::K++x.2.1,j::x.2.2)
      |none=> .fail
   |_=> .fail
def U3(g:Bool):AV D->Bool
 | .c (.one _)=> !g
 | .c (.agg _)=>g
 | .dV _=>ai
def RU(T:bb D)(n:Nat)(a:AV D):Q D (D n×List Nat×List Nat):=if U3 (T.ag n) a then match cellsOf a with
 |some cs=>(u0 (T.lv n) cs).bind λx=>match T.iU n x.1 with
  |some y=> .ret (y,x.2)
  |none=> .fail
 |none=> .fail
 else .fail
def uZ(T:bb D)(n:Nat):List (AV D)->Q D (List (D n)×List Nat×List Nat)
 |[]=> .ret ([],[],[])
 |a::r=>(RU T n a).bind λx=>(uZ T n r).bind λy=> .ret (x.1::y.1,x.2.1++y.2.1,x.2.2++y.2.2)
def GF(n:Nat):A1 D->Q D (List (D n)×List Nat)
 | .v (.sl n') xs K _=>if h:n'=n then .ret (h▸xs,K)else .fail
 | .bE=> .ret ([],[])
 | .own j=> .obj j λ
   | .sl n' _ xs K _=>if h:n'=n then .ret (h▸xs,K)else .fail
   | .fz n' xs K=>if h:n'=n then .ret (h▸xs,K)else .fail
   |_=> .fail
 | .tail j n' k=> .obj j λ
   | .sl n0 _ xs K _=>if aT n0 n' then(if h:n0=n then .ret (h▸uv xs k,K)else .fail)else .fail
   |_=> .fail
 | .pre j n' k=> .obj j λ
   | .sl n0 _ xs K _=>if aT n0 n' then(if h:n0=n then .ret (h▸Cw xs k,K)else .fail)else .fail
   |_=> .fail
 |_=> .fail
def SU:A1 D->Q D Int
 | .v (.sl _) xs _ _=> .ret (len xs)
 | .ch _ _ _ _ _ _ d=> .ret (len d)
 | .bE=> .ret 0
 | .own j=> .obj j λ
   | .sl _ _ xs _ _=> .ret (len xs)
   | .cX _ _ _ _ xs _ _=> .ret (len xs)
   | .fz _ xs _=> .ret (len xs)
   |_=> .fail
 | .tail i n j=> .obj i λ
   | .sl n' _ xs _ _=>if aT n' n then .ret (ab7 (len xs) j)else .fail
   |_=> .fail
 |_=> .fail
def W_(op:BinOp)(g:Nat)(k k':IntKind)(a b:Int):Q D (cW D):=match op with
 | .shr=> .part (wy k.bits a b) λc=>bX (iv k c g)
 |op=>if k=k' then match op with
   | .add=>bX (iv k (rm k (G6 a b)) g)
   | .sub=>bX (iv k (rm k (ab7 a b)) g)
   | .mul=>bX (iv k (rm k (asn a b)) g)
   | .and=>bX (iv k (Tm k a b) g)
   | .eql=>bX (bv (Mn a b) g)
   | .neq=>bX (bv (ine a b) g)
   | .lss=>bX (bv (ilt a b) g)
   | .leq=>bX (bv (ile a b) g)
   | .gtr=>bX (bv (igt a b) g)
   | .geq=>bX (bv (ige a b) g)
   |_=> .fail
  else .fail
def QK(op:BinOp)(g:Nat)(a b:ByteArray):Q D (cW D):=match op with
 | .add=> .part (KP a b) λc=>bX (.c (.one (.v .str c [] g)))
 | .eql=>bX (bv (CV a b) g)
 | .neq=>bX (bv (EU (CV a b)) g)
 |_=> .fail
def W9(op:BinOp)(g:Nat):AV D->AV D->Q D (cW D)
 | .c (.one (.v (.int k) a _ _)),.c (.one (.v (.int k') b _ _))=>match k,k' with
   | .i64,.i64=>match op with
     | .add=>bX (iv .i64 (asu a b) g)
     | .sub=>bX (iv .i64 (arY a b) g)
     | .mul=>bX (iv .i64 (aso a b) g)
     | .quo=> .part (mQ a b) λc=>bX (iv .i64 c g)
     | .rem=> .part (kL a b) λc=>bX (iv .i64 c g)
     | .eql=>bX (bv (Mn a b) g)
     | .neq=>bX (bv (ine a b) g)
     | .lss=>bX (bv (ilt a b) g)
     | .leq=>bX (bv (ile a b) g)
     | .gtr=>bX (bv (igt a b) g)
     | .geq=>bX (bv (ige a b) g)
     | .shr=> .part (wy 64 a b) λc=>bX (iv .i64 c g)
     |_=> .fail
   |k,k'=>W_ op g k k' a b
 | .c (.one (.v .str a _ _)),.c (.one (.v .str b _ _))=>QK op g a b
 |_,_=> .fail
def Xa(op:BinOp)(g:Nat)(a b:Bool):Q D (cW D):=match op with
 | .eql=>bX (bv (beq' a b) g)
 | .neq=>bX (bv (EU (beq' a b)) g)
 |_=> .fail
def Sj(T:bb D)(t i:Nat):Option Nat:=match aE T.um t with
 |some l=>match l[i]? with
  |some p=>aa p.1
  |none=>none
 |none=>none
def SN(i n:Nat)(j:Int)(off t tc q:Nat)(xs:List (D n))(gx ht g:Nat):DV D->Q D (cW D)
 |⟨.sl m,d⟩=>if aT m q then(if aT ht 0 then .ret ⟨.c (.one (.ch i n j off (g+1) m d)),[(i,aa (.cX n t tc q xs gx (g+1)))],[]⟩else bX (.c (.one (.ch i n j off ht m d))))else .fail
 |⟨l,d⟩=>bX (.c (.one (.v l d [] g)))
def LC:kW->Bool
 | .one _=>ab
 |_=>ai
def SM(T:bb D)(g:Nat)(ty:kW):A1 D->Q D (cW D)
 | .ptr i off=> .obj i λ
   | .box cs=>match yP ty T cs off with
     |some a=>bX a
     |none=> .fail
   |_=> .fail
 | .rp n x off K=>match yP ty T (cellsD K g (T.out n x)) off with
   |some a=>bX a
   |none=> .fail
 | .el i n j y off tc tj=> .obj i λ
   | .sl n' _ xs K g'=>if aT g' tc then match yP ty T (cellsD K g (T.out n y)) off with
       |some a=>bX a
       |none=> .fail
     else if aT n n' then .part (idx xs j) λy=>match yP ty T (cellsD K g (T.out n' y)) off with
      |some a=>bX a
      |none=> .fail
     else .fail
   | .cX n' t c q xs g' ht=>if aT n n'&&LC ty then .part (idx xs j) λy=>match(T.out n' y)[off]? with
       |some x=>SN i n' j off t c q xs g' ht g x
       |none=> .fail
     else .fail
   |_=> .fail
 |_=> .fail
def ZK(T:bb D)(g:Nat)(ty:kW)(a:AV D):A1 D->Q D (cW D)
 | .ptr i off=> .obj i λ
   | .box cs=>match cellsOf a with
     |some us=>if aT us.length (ty.n T)then match CB cs us off with
       |some i_=> .ret ⟨.c (.one .undef),[(i,aa (.box i_))],[]⟩
       |none=> .fail
      else .fail
     |none=> .fail
   |_=> .fail
 | .el i n j y off tc tj=> .obj i λ
   | .sl n' t xs K g'=>match cellsOf a with
     |some us=>if aT us.length (ty.n T)&&aT n n'&&ef (off+us.length) (T.lv n').length then(u0 ((T.lv n').drop off) us).bind λx=>
       .part (idx xs j) λy=>match T.iU n' ((T.out n' y).take off++x.1++(T.out n' y).drop (off+x.1.length))with
         |some z=>if bM x.2.2 i then .fail else .part (df xs j z) λzs=> .ret ⟨.c (.one .undef),[(i,aa (.sl n' t zs (x.2.1++K) g))],x.2.2⟩
         |none=> .fail
      else .fail
     |none=> .fail
   | .im n' t' xD q xs j' u9 s gx=>match a with
     | .c (.one (.yT i' s'))=>if aT i i'&&aT s s'&&aT n n'&&aT off u9&&LC ty then .part (yJ j j') λ_=> .ret ⟨.c (.one .undef),[(i,aa (.cX n' t' xD q xs gx 0))],[]⟩else .fail
     |_=> .fail
   |_=> .fail
 |_=> .fail
def Tj(m:Nat)(j:Int)(tj:Nat):A1 D->Q D (cW D)
 | .v (.sl n) xs K _=>if aT n m then .part (idx xs j) λy=>bX (.c (.one (.rp n y 0 K)))else .fail
 | .own i=> .obj i λ
   | .sl n _ xs _ tc=>if aT n m&& !(aT tc 0)then .part (idx xs j) λy=>bX (.c (.one (.el i n j y 0 tc tj)))else .fail
   | .cX n _ _ _ xs tc _=>if aT n m&& !(aT tc 0)then .part (idx xs j) λy=>bX (.c (.one (.el i n j y 0 tc tj)))else .fail
   | .im n _ _ _ xs _ _ _ tc=>if aT n m&& !(aT tc 0)then .part (idx xs j) λy=>bX (.c (.one (.el i n j y 0 tc tj)))else .fail
   | .fz n xs K=>if aT n m then .part (idx xs j) λy=>bX (.c (.one (.rp n y 0 K)))else .fail
   |_=> .fail
 | .bE=> .part (none:Option (D m)) λy=>bX (.c (.one (.rp m y 0 [])))
 | .tail i n0 j0=> .obj i λ
   | .sl n _ xs _ tc=>if aT n m&&aT n n0&& !(aT tc 0)then .part (idx (uv xs j0) j) λy=>bX (.c (.one (.el i n (G6 j0 j) y 0 tc 0)))else .fail
   |_=> .fail
 |_=> .fail
def xX(T:bb D)(l:List (Nat×Nat)):List (A1 D)->List (Nat×aZ)->List (AV D)->Option (List (A1 D))
 |cs,[],[]=>aa cs
 |cs,(i,_)::r,a::as=>match l[i]?,cellsOf a with
  |some (off,sz),aa us=>if aT us.length sz then match CB cs us off with
    |some i_=>xX T l i_ r as
    |none=>none
   else none
  |_,_=>none
 |_,_,_=>none
def xL:Nat->List (Nat×aZ)->Bool
 |_,[]=>ab
 |k,(i,_)::r=>aT i k&&xL (k+1) r
def aca(T:bb D)(n tc q:Nat):Bool:=match aE T.kd n with
 |some p=>aT p.1 tc&&aT p.2 q
 |none=>ai
def jG:Lf->Bool
 | .sl _=>ai
 |_=>ab
def vI(T:bb D)(n:Nat)(K:List Nat):List Nat:=match(T.lv n).all jG with
 |true=>[]
 |false=>K
def O6(T:bb D)(aq n t:Nat)(a x:A1 D):Q D (cW D):=(GF n x).bind λy0=>ajy (y0.1,vI T n y0.2)
where ajy (ys:List (D n)×List Nat):Q D (cW D):=match a with
 | .own i=> .obj i λ
   | .sl n' t' xs K _=>if h:n'=n then(if aT t' t then .part (bF (h▸xs) ys.1) λzs=> .ret ⟨.c (.one (.own aq)),[(aq,aa (.sl n t zs (ys.2++K) (aq+16))),(i,none)],[]⟩else .fail)else .fail
   |_=> .fail
 | .bE=> .part (bF [] ys.1) λzs=> .ret ⟨.c (.one (.own aq)),[(aq,aa (.sl n t zs ys.2 (aq+16)))],[]⟩
 | .pre i e j=> .obj i λ
   | .sl n' t' xs K _=>if h:n'=n then(if aT t' t&&aT n' e then .part (bF (h▸Cw xs j) ys.1) λzs=> .ret ⟨.c (.one (.own aq)),[(aq,aa (.sl n t zs (ys.2++K) (aq+16))),(i,none)],[]⟩else .fail)else .fail
   |_=> .fail
 | .ch i e j off ct m _=> .obj i λ
   | .cX e' te tc q xs _ ht=>if aT e e'&&aT ct ht&& !(aT ht 0)&&aT m q&&aT tc t&&aT q n&&aca T e' tc q then .part (idx xs j) λy=>match(T.out e' y)[off]? with
       |some ⟨.sl m',d⟩=>if h:m'=n then .part (bF (h▸d) ys.1) λzs=>match T.iU e' ((T.out e' y).set off ⟨.sl n,zs⟩)with
         |some y'=> .part (df xs j y') λwm=> .ret ⟨.c (.one (.yT i aq)),[(i,aa (.im e' te tc q wm j off aq (aq+16)))],[]⟩
         |none=> .fail
        else .fail
       |_=> .fail
     else .fail
   |_=> .fail
 |_=> .fail
def NU(T:bb D)(aq n i:Nat)(j:Int)(ys:List (D n)×List Nat):Q D (cW D):= .obj i λ
 | .sl n' t xs K _=>if h:n'=n then .ret ⟨iv .i64 (VI (len xs) j (len ys.1)) 0,[(i,aa (.sl n t (aeZ (h▸xs) j ys.1) (ys.2++K) (aq+16)))],[]⟩else .fail
 |_=> .fail
def VK(T:bb D)(aq n:Nat)(a x:A1 D):Q D (cW D):=(GF n x).bind λy0=>match a with
 | .own i=>NU T aq n i 0 (y0.1,vI T n y0.2)
 | .tail i n' j=>if aT n' n then NU T aq n i j (y0.1,vI T n y0.2)else .fail
 |_=> .fail
def y6(d:Int):Option aZ->List (AV D)->Q D (Int×List (AV D))
 |none,as=> .ret (d,as)
 |some _,.c (.one (.v (.int .i64) l _ _))::as=> .ret (l,as)
 |some _,_=> .fail
def tH(g m:Nat)(lo hi:Option aZ)(n:Nat)(xs:List (D n))(K:List Nat)(as:List (AV D)):Q D (cW D):=
 if aT n m then(y6 0 lo as).bind λl=>(y6 (len xs) hi l.2).bind λh=>match h.2 with
  |[]=> .part (dI xs l.1 h.1) λzs=>bX (.c (.one (.v (.sl n) zs K g)))
  |_=> .fail
  else .fail
def Rk(fl fq:Bool)(aq g m:Nat)(lo hi:Option aZ)(a:A1 D)(as:List (AV D)):Q D (cW D):=match a with
 | .v (.sl n) xs K _=>tH g m lo hi n xs K as
 | .bE=>(y6 0 lo as).bind λl=>(y6 0 hi l.2).bind λh=>match h.2 with
   |[]=> .part (dI ([]:List Unit) l.1 h.1) λ_=>bX (.c (.one .bE))
   |_=> .fail
 | .own i=> .obj i λ
   | .fz n xs K=>tH g m lo hi n xs K as
   | .sl n t xs K _=>match lo with
     |none=>if aT n m then(y6 (len xs) hi as).bind λh=>match h.2 with
       |[]=>match fl with
        |true=> .part (dI xs 0 h.1) λ_=>bX (.c (.one (.pre i n h.1)))
        |false=> .part (dI xs 0 h.1) λzs=> .ret ⟨.c (.one (.own aq)),[(aq,aa (.sl n t zs K (aq+16))),(i,none)],[]⟩
       |_=> .fail
      else .fail
     |some _=>match hi with
      |none=>if aT n m then(y6 0 lo as).bind λl=>match l.2 with
        |[]=>match fq with
         |false=> .part (dI xs l.1 (len xs)) λ_=>bX (.c (.one (.tail i n l.1)))
         |true=> .part (dI xs l.1 (len xs)) λzs=> .ret ⟨.c (.one (.own aq)),[(aq,aa (.sl n t zs K (aq+16))),(i,none)],[]⟩
        |_=> .fail
       else .fail
      |some _=> .fail
   |_=> .fail
 |_=> .fail
def Ep:List (A1 D)->Option (List (DV D))
 |[]=>aa []
 | .v l d _ _::r=>match Ep r with
   |some x=>aa (⟨l,d⟩::x)
   |none=>none
 |_=>none
def Bs:DV D->DV D->Bool
 |⟨.int _,a⟩,⟨.int _,b⟩=>Mn a b
 |⟨.bool,a⟩,⟨.bool,b⟩=>beq' a b
 |⟨.str,a⟩,⟨.str,b⟩=>CV a b
 |_,_=>ai
def uu:List (DV D)->List (DV D)->Bool
 |[],_=>ab
 |x::xs,ys=>match xs,ys with
  |[],y::_=>Bs x y
  |x'::wm,y::ys'=>OZ (Bs x y) (uu (x'::wm) ys')
  |_,[]=>ab
def Vh(op:BinOp)(g:Nat)(ls:List Lf)(p q:List (A1 D)):Q D (cW D):=match Ep p,Ep q with
 |some xs,aa ys=>if xs.map DV.l=ls∧ys.map DV.l=ls then match op with
   | .eql=>bX (bv (uu xs ys) g)
   | .neq=>bX (bv (EU (uu xs ys)) g)
   |_=> .fail
  else .fail
 |_,_=> .fail
def Mi(T:bb D):AV D->Option (List (DV D)×Bool)
 | .c (.one (.uy n xs _))=>aa (xs.flatMap (T.out n),ab)
 | .c (.one (.v l d _ _))=>aa ([⟨l,d⟩],ai)
 | .c (.agg cs)=>match Ep cs with
   |some x=>aa (x,ab)
   |none=>none
 |_=>none
def jS:List (DV D)->List (DV D)->Bool
 |x::r,y::s=>match s with
  |[]=>Bs x y
  |_::_=>OZ (Bs x y) (jS r s)
 |_,_=>ab
def zk:(l:Lf)->l.den D
 | .int _=>(0:Int)
 | .bool=>ai
 | .str=>tq
 | .sl _=>[]
def yf(l:Lf):List (DV D)->l.den D
 |[]=>zk l
 |⟨l',d⟩::r=>match r with
  |[]=>if h:l'=l then h▸d else zk l
  |_::_=>yf l r
def yg:List Lf->Option Lf
 |[]=>none
 |l::r=>match r with
  |[]=>aa l
  |_::_=>yg r
def Mh(T:bb D)(n:Nat)(ks:List (DV D))(g:Bool):Bool:=decide (ks.map DV.l=(T.lv n).dropLast)&&(match ks with|[_]=> !g|_=>g)
def Sy(T:bb D)(n g:Nat)(ok:Bool)(a k:AV D):Q D (cW D):=match a,Mi T k with
 | .c (.one (.own i)),aa (ks,kg)=> .obj i λ
   | .mp n' xs=>if aT n n'&&Mh T n' ks kg then match yg (T.lv n')with
       |some l=>match ok with
        |false=>bX (.c (.one (.v l (yb (λx=>jS (T.out n' x) ks) (λx=>yf l (T.out n' x)) (zk l) xs) [] g)))
        |true=>bX (.dV [.one (.v l (yb (λx=>jS (T.out n' x) ks) (λx=>yf l (T.out n' x)) (zk l) xs) [] g),.one (.v .bool (Df (λx=>jS (T.out n' x) ks) xs) [] (g+1))])
       |none=> .fail
     else .fail
   |_=> .fail
 |_,_=> .fail
def LQ(T:bb D)(n:Nat)(a k u:AV D):Q D (cW D):=match a,Mi T k,u with
 | .c (.one (.own i)),aa (ks,kg),.c (.one (.v l d _ _))=> .obj i λ
   | .mp n' xs=>if aT n n'&&Mh T n' ks kg then match T.iU n' (ks++[⟨l,d⟩])with
       |some z=> .ret ⟨.c (.one .undef),[(i,aa (.mp n' (Ac (λx=>jS (T.out n' x) ks) z xs)))],[]⟩
       |none=> .fail
     else .fail
   |_=> .fail
 |_,_,_=> .fail
def Gq:aZ->aZ->Bool
 | .tmp a,.tmp b=>aT a b
 | .const (.int .i64 a),.const (.int .i64 b)=>decide (a=b)
 |_,_=>ai
def De(T:bb D)(n:Nat)(h:T.lv n=[.int .u8])(b:Int):D n:=T.Ae n (h▸(b:HL D [.int .u8]))
def tF(T:bb D)(n:Nat)(h:T.lv n=[.int .u8])(x:D n):Int:=(h▸T.C_ n x:HL D [.int .u8])
def loC:Option aZ->Bool
 |some (.const _)=>ab
 |_=>ai
def aa2(t:TypeId):aZ->Nat
 | .tmp i=>t*4096+i
 |_=>0
def Da(T:bb D)(aq:Nat):Op->List (AV D)->Q D (cW D)
 | .move _,[a]=>bX a
 | .assign _,[a]=>bX a
 | .pick _ _ _,[c,a,b]=>match c with
   | .c (.one (.v .bool d _ _))=>if d=ab then bX a else bX b
   |_=> .fail
 | .binOp op t _ _ _,[a,b]=>match a,b with
   | .c (.agg p),.c (.agg q)=>match aE T.Bo t with
     |some n=>Vh op (aq+16) n p q
     |none=> .fail
   | .c (.one (.v .bool p _ _)),.c (.one (.v .bool q _ _))=>match aE T.ty t with
     |some (.one .bool)=>Xa op (aq+16) p q
     |_=> .fail
   | .c (.one (.vb _ _ _ _ p)),.c (.one .bE)=>match aE T.de t with
     |some _=>match op with
      | .eql=>bX (bv p (aq+16))
      | .neq=>bX (bv (EU p) (aq+16))
      |_=> .fail
     |none=> .fail
   |a,b=>W9 op (aq+16) a b
 | .unOp .not _ _,[a]=>match a with
   | .c (.one (.v .bool b _ _))=>bX (bv (EU b) (aq+16))
   |_=> .fail
 | .unOp .neg _ _,[a]=>match a with
   | .c (.one (.v (.int .i64) n _ _))=>bX (iv .i64 (asb n) (aq+16))
   |_=> .fail
 | .nilCheck _,[a]=>match a with
   | .c (.one (.ptr i off))=>bX a
   | .c (.one (.rp n x off K))=>bX a
   | .c (.one (.el i n j y off tc tj))=>bX a
   |_=> .fail
 | .extract _ i,[a]=>match a with
   | .dV l=>match l[i]? with
     |some x=>bX (.c x)
     |none=> .fail
   |_=> .fail
 | .fieldAddr t _ i,[a]=>match Sj T t i,a with
   |some o,.c (.one (.ptr j off))=>bX (.c (.one (.ptr j (off+o))))
   |some o,.c (.one (.rp n x off K))=>bX (.c (.one (.rp n x (off+o) K)))
   |some o,.c (.one (.el j n k y off tc tj))=>bX (.c (.one (.el j n k y (off+o) tc tj)))
   |_,_=> .fail
 | .load t _,[a]=>match aE T.ty t,a with
   |some ty,.c (.one p)=>SM T (aq+16) ty p
   |_,_=> .fail
 | .store t _ _,[p,a]=>match aE T.ty t,p with
   |some ty,.c (.one p)=>ZK T (aq+16) ty a p
   |_,_=> .fail
 | .box _ _,[a]=>match cellsOf a with
   |some cs=>if cs.all storable then .ret ⟨.c (.one (.ptr aq 0)),[(aq,aa (.box cs))],[]⟩else .fail
   |none=> .fail
 | .alloc t,[]=>match aE T.ty t with
   |some ty=>match wa T ty with
    |some cs=> .ret ⟨.c (.one (.ptr aq 0)),[(aq,aa (.box cs))],[]⟩
    |none=> .fail
   |none=> .fail
 | .build t ps,as=>match aE T.qL t with
   |some (m,e,n)=>if xL 0 ps.toList&&aT ps.toList.length m then(uZ T n as).bind λx=>match aE T.ty t with
     |some (.st _)=>if x.2.2.isEmpty&&ef (x.1.flatMap (T.out n)).length 112 then bX (.c (.agg (cellsD x.2.1 (aq+16) (x.1.flatMap (T.out n)))))else .fail
     |_=> .ret ⟨.c (.one (.uy n x.1 x.2.1)),[],x.2.2⟩
    else .fail
   |none=>match aE T.ty t,aE T.um t with
    |some (.st n),aa l=>match xX T l (wa.By (T.lv n)) ps.toList as with
     |some cs=>bX (.c (.agg cs))
     |none=> .fail
    |_,_=> .fail
 | .index t _ _,[a,i]=>match aE T.qL t,a,i with
   |some (m,e,n),.c (.one (.uy n' xs K)),.c (.one (.v (.int .i64) j _ _))=>if aT n n'&&aT xs.length m then .part (idx xs j) λy=>match u7 (T.ag n') (cellsD K (aq+16) (T.out n' y))with
     |some r=>bX r
     |none=> .fail
    else .fail
   |some (m,e,n),.c (.agg cs),.c (.one (.v (.int .i64) j _ _))=>if T.ag n then .fail else(uZ T n (cs.map λc=> .c (.one c))).bind λx=>if x.2.2.isEmpty&&aT x.1.length m then .part (idx x.1 j) λy=>match u7 (T.ag n) (cellsD x.2.1 (aq+16) (T.out n y))with
     |some r=>bX r
     |none=> .fail
    else .fail
   |none,.c (.one (.v .str s _ _)),.c (.one (.v (.int _) j _ _))=>match aE T.ty t with
    |some (.one .str)=> .part (KN s j) λb=>bX (iv .u8 b (aq+16))
    |_=> .fail
   |_,_,_=> .fail
 | .buildSlice t m ps,as=>match aE T.de t with
   |some (e,n)=>if xL 0 ps.toList&&aT ps.toList.length m&&ef (m*(T.lv n).length) 65536 then(uZ T n as).bind λx=>
     .ret ⟨.c (.one (.own aq)),[(aq,aa (.sl n e x.1 x.2.1 (aq+16)))],x.2.2⟩
    else .fail
   |none=> .fail
 | .indexAddr t _ io,[a,i]=>match aE T.de t,a,i with
   |some (_,n),.c (.one a),.c (.one (.v (.int .i64) j _ tj))=>Tj n j tj a
   |none,.c (.one (.ptr b off)),.c (.one (.v (.int .i64) _ _ _))=>match aE T.qL t,io with
    |some (m,_,n),.const (.int .i64 (.ofNat q))=>if dx q m then bX (.c (.one (.ptr b (off+q*(T.lv n).length))))else .fail
    |_,_=> .fail
   |_,_,_=> .fail
 | .makeSlice t x y,[a,_]=>match aE T.de t,a with
   |some (e,n),.c (.one (.v (.int .i64) l _ _))=>if Gq x y then .part (mu (T.zero n) l) λzs=>match aE T.kd n with
     |some (tc,q)=> .ret ⟨.c (.one (.own aq)),[(aq,aa (.cX n e tc q zs (aq+16) 0))],[]⟩
     |none=> .ret ⟨.c (.one (.own aq)),[(aq,aa (.sl n e zs [] (aq+16)))],[]⟩
    else .fail
   |_,_=> .fail
 | .slice t x lo hi none,a::as=>match aE T.de t,a with
   |some (_,n),.c (.one a)=>Rk (bM T.pre (aa2 t x)) (match loC lo with|true=>bM T.pre (aa2 t x+4294967296)|false=>ai) aq (aq+16) n lo hi a as
   |_,_=> .fail
 | .makeMap t none,[]=>match aE T.qc t with
   |some (_,_,n)=> .ret ⟨.c (.one (.own aq)),[(aq,aa (.mp n []))],[]⟩
   |none=> .fail
 | .lookup t _ _ ok,[m,k]=>match aE T.qc t with
   |some (_,_,n)=>Sy T n (aq+16) ok m k
   |none=> .fail
 | .mapUpdate t _ _ _,[m,k,u]=>match aE T.qc t with
   |some (_,_,n)=>LQ T n m k u
   |none=> .fail
 | .insert t _ _ _,[m,k,u]=>match aE T.qc t with
   |some (_,_,n)=>LQ T n m k u
   |none=> .fail
 | .convert s t _,[a]=>match aE T.ty s,aE T.ty t,a with
   |some (.one (.int _)),aa (.one (.int k')),.c (.one (.v (.int k) n _ _))=>match k' with
    | .i64=>bX (iv .i64 (W n) (aq+16))
    |k'=>bX (iv k' (rm k' n) (aq+16))
   |some (.one .str),aa (.one (.sl _)),.c (.one (.v .str x _ _))=>match aE T.de t with
    |some (e,n)=>match aE T.ty e with
     |some (.one (.int .u8))=>if h:T.lv n=[.int .u8]then .part (KO (De T n h) x) λxs=>bX (.c (.one (.v (.sl n) xs [1] (aq+16))))else .fail
     |_=> .fail
    |none=> .fail
   |some (.one (.sl _)),aa (.one .str),.c (.one a)=>match aE T.de s with
    |some (e,n)=>match aE T.ty e with
     |some (.one (.int .u8))=>if h:T.lv n=[.int .u8]then(GF n a).bind λx=>bX (.c (.one (.v .str (xl (tF T n h) x.1) [] (aq+16))))else .fail
     |_=> .fail
    |none=> .fail
   |_,_,_=> .fail
 | .makeFunc (.func f) first jc,as=>if dx f 1000000 then match EA as with
     |some cs=>if aT first.size 0 then bX (.c (.one (.fn f cs)))else if aT jc.size 0 then bX (.c (.one (.fn (f+1000000) cs)))else .fail
     |none=> .fail
   else .fail
 | .call {callee:= .builtin b,argTypes:=ts,.. },as=>match b,as with
   | .len,[.c (.one a)]=>match ts.toList with
     |[t]=>match aE T.de t with
      |some _=>(SU a).bind λn=>bX (iv .i64 n (aq+16))
      |none=>match aE T.ty t,a with
       |some (.one .str),.v .str s _ _=>bX (iv .i64 (rc s) (aq+16))
       |_,_=> .fail
     |_=> .fail
   | .min,[.c (.one (.v (.int .i64) p _ _)),.c (.one (.v (.int .i64) q _ _))]=>bX (iv .i64 (eu p q) (aq+16))
   | .max,[.c (.one (.v (.int .i64) p _ _)),.c (.one (.v (.int .i64) q _ _))]=>bX (iv .i64 (imax p q) (aq+16))
   | .max,[.c (.one (.v (.int .i64) p _ _)),.c (.one (.v (.int .i64) q _ _)),.c (.one (.v (.int .i64) r _ _))]=>bX (iv .i64 (imax (imax p q) r) (aq+16))
   | .max,[.c (.one (.v (.int .i64) p _ _)),.c (.one (.v (.int .i64) q _ _)),.c (.one (.v (.int .i64) r _ _)),.c (.one (.v (.int .i64) s _ _))]=>bX (iv .i64 (imax (imax (imax p q) r) s) (aq+16))
   | .min,[.c (.one (.v (.int .i64) p _ _)),.c (.one (.v (.int .i64) q _ _)),.c (.one (.v (.int .i64) r _ _))]=>bX (iv .i64 (eu (eu p q) r) (aq+16))
   | .clear,[.c (.one (.tail i n j))]=>match ts.toList with
     |[t]=>match aE T.de t with
      |some (_,n')=>if aT n n' then .obj i λ
        | .sl n0 te xs K _=>if aT n0 n then .ret ⟨.dV [],[(i,aa (.sl n0 te (rL (T.zero n0) xs j) K (aq+16)))],[]⟩else .fail
        |_=> .fail
       else .fail
      |none=> .fail
     |_=> .fail
   | .copy,[.c (.one a),.c (.one x)]=>match ts.toList with
     |[t,t']=>if aT t t' then match aE T.de t with
        |some (_,n)=>VK T aq n a x
        |none=> .fail
      else .fail
     |_=> .fail
   | .append,[.c (.one a),.c (.one x)]=>match ts.toList with
     |[t,t']=>if aT t t' then match aE T.de t with
        |some (e,n)=>O6 T aq n e a x
        |none=> .fail
      else match aE T.de t,aE T.ty t',a,x with
       |some (e,n),aa (.one (.int .i64)),.bE,.v (.int .i64) k _ _=> .part (Ad (T.zero n) k) λzs=> .ret ⟨.c (.one (.own aq)),[(aq,aa (.sl n e zs [] (aq+16)))],[]⟩
       |_,_,_,_=> .fail
     |_=> .fail
   | .cap,[.c (.one .bE)]=>match ts.toList with
     |[t]=>match aE T.de t with
      |some _=>bX (iv .i64 0 (aq+16))
      |none=> .fail
     |_=> .fail
   |_,_=> .fail
 |_,_=> .fail
where EA:List (AV D)->Option (List (A0 D))
 |[]=>aa []
 | .c (.one (.ptr i off))::r=>match EA r with
   |some l=>aa (.ptr i off::l)
   |none=>none
 | .c (.one (.rp n x off K))::r=>match EA r with
   |some l=>aa (.rp n x off K::l)
   |none=>none
 |_=>none
def aey:P1->A1 D->Bool
 | .own _,.own _=>ab
 | .own _,.bE=>ab
 | .own _,_=>ai
 | .fn f _,.fn f' _=>aT f f'
 | .fn _ _,_=>ai
 | .ptr _ _,.ptr _ _=>ab
 | .ptr _ _,_=>ai
 | .bE,.bE=>ab
 | .bE,_=>ai
 |_,_=>ab
def U9:List P1->List (A1 D)->Bool
 |p::ps,a::as=>aey p a&&U9 ps as
 |_,_=>ab
def aw7:PC->AV D->Bool
 | .one p,.c (.one a)=>aey p a
 | .agg ps,.c (.agg l)=>U9 ps l
 |_,_=>ai
def aex:List PC->List (AV D)->Bool
 |[],[]=>ab
 |p::ps,a::as=>aw7 p a&&aex ps as
 |_,_=>ai
def ar7:AO D->Bool
 | .fz .. =>ab
 |_=>ai
def GM:List P1->List (A1 D)->Q D Bool
 | .own _::ps,.own i::as=> .obj i λo=>if ar7 o=ab then .ret ai else GM ps as
 |_::ps,_::as=>GM ps as
 |_,_=> .ret ab
def aB_(ob:List (Nat×PO)):P1->A1 D->Q D Bool
 | .ptr i _,.ptr j _=>match aE ob i with
   |some (.box ps)=> .obj j λo=>match o with
    | .box cs=>match U9 ps cs with
      |true=>GM ps cs
      |false=> .ret ai
    |_=> .ret ab
   |_=> .ret ab
 |p,a=>GM [p] [a]
def Sd(ob:List (Nat×PO)):List PC->List (AV D)->Q D Bool
 | .one p::ps,.c (.one a)::as=>(aB_ ob p a).bind λb=>if b=ab then Sd ob ps as else .ret ai
 | .agg qs::ps,.c (.agg l)::as=>(GM qs l).bind λb=>if b=ab then Sd ob ps as else .ret ai
 |_,_=> .ret ab
def Ip:List (az D)->Nat->List (AV D)->Q D (az D)
 |[],_,_=> .fail
 |c::r,f,as=>if aT c.f f&&aex c.args as then(Sd c.ob c.args as).bind λb=>if b=ab then .ret c else Ip r f as else Ip r f as
def az.EM(c:az D):Bool:=bM (c.jR.flatMap tQ++c.b7.flatMap λp=>tP p.2) 0
def il(known:List (Nat×Nat)):Nat->List (Nat×PO)->List (Nat×Nat)
 |_,[]=>[]
 |k,(p,_)::r=>match aE known p with
  |some i=>(p,i)::il known k r
  |none=>(p,k)::il known (k+1) r
def Ik(ids:List (Nat×Nat))(b7:List (Nat×PO)):List (Nat×Option (AO D)):=(ids.filter λp=> !(bM (b7.map bS) p.1)).map λp=>(p.2,none)
def aaz:List (AC D)->AV D
 |[x]=> .c x
 |l=> .dV l
def EW:Nat->List (AC D)->List (Nat×AV D)
 |_,[]=>[]
 |k,a::r=>(k,.c a)::EW (k+1) r
def yK(T:bb D)(c:az D)(h:HH D c.ins):Option (S D):=
 let fl:=dE T c.ins h
 if ef fl.length 900&&c.ob.all (λp=>ef 1000 p.1&&dx p.1 1100)then
  match gX T fl aa id 1100 c.args,jC T fl aa id 1100 c.ob with
  |some a,aa b=>aa ⟨EW 0 a,b,2000,[]⟩
  |_,_=>none
 else none
def Oa(T:bb D)(Φ:List (az D))(aq f:Nat)(args:List (AV D)):Q D (cW D):=(Ip Φ f args).bind λc=>(Bl T ab 0 c.ins c.args c.ob [] aq args).bind λx=>if(c.EM&& !x.2.ku.isEmpty)|| !(ef x.2.nf (aq+8))||(yK T c x.1).isNone then .fail else
     .part (c.fn x.1) λy=>
       let fl:=dE T c.outs y
       let ids:=il x.2.ids (aq+8) c.b7
       let ri:=aE ids
       let rK:=λK=>(if bM K 0 then x.2.kr else [])++(if bM K 1 then [1]else [])
       match gX T fl ri rK (aq+16) c.jR,jC T fl ri rK (aq+16) c.b7 with
       |some r,aa eO=>if ef fl.length 112 then .ret ⟨aaz r,eO++Ik x.2.ids c.b7,[]⟩else .fail
       |_,_=> .fail
def N_:A0 D->AV D
 | .ptr i off=> .c (.one (.ptr i off))
 | .rp n x off K=> .c (.one (.rp n x off K))
def z_(T:bb D)(Φ:List (az D))(aq:Nat)(o:Op)(as:List (AV D)):Q D (cW D):=match o with
 | .call {callee:= .value _,.. }=>match as with
   | .c (.one (.fn f jc))::as=>match dx f 1000000 with
     |true=>Oa T Φ aq f (as++jc.map N_)
     |false=>Oa T Φ aq (f-1000000) (jc.map N_++as)
   |_=> .fail
 |o=>Da T aq o as
def D_(lk:List Nat)(e:cW D):Bool:=qG (e.sj.map bS) lk&&qG e.fz lk
def y8(σ:S D)(dst:Option Nat)(e:cW D):S D:={σ with sl:=(match dst with|some d=>(d,e.dst)::σ.sl|none=>σ.sl),ob:=e.fz.map (λi=>(i,none))++e.sj++σ.ob,nx:=σ.nx+128}
def uV(σ:S D)(dst:Option Nat):S D:={σ with sl:=(match dst with|some d=>(d,.c (.one .undef))::σ.sl|none=>σ.sl),nx:=σ.nx+128}
structure Lg where
 i:Nat
 rd:List Nat
 wr:List Nat
def cW.wr(e:cW D):List Nat:=e.sj.map bS++e.fz
def zC(T:bb D)(Φ:List (az D))(p:Nat)(o:aS)(σ:S D)(lg:List Lg){ρ:Type}(k:S D->List Lg->Option ρ):Option ρ:=match eP σ.sl o.op.operands.toList with
 |some as=>(z_ T Φ σ.nx o.op as).go σ.ob [] λe rd=>match D_ σ.lk e with
  |true=>k (y8 σ o.dst e) (⟨p,rd,e.wr⟩::lg)
  |false=>none
 |none=>none
def guardOf(ops:List aS)(sl:List (Nat×AV D))(j:Nat):Option (Nat×AV D):=match ops[j]? with
 |some og=>match og.dst with
  |some d=>match aE sl d with
   |some a=>aa (d,a)
   |none=>none
  |none=>none
 |none=>none
def li(σ:S D)(d:Nat)(b:Bool)(K:List Nat)(g:Nat):S D:={σ with sl:=(d,.c (.one (.v .bool b K g)))::σ.sl}
def S7:AV D->Bool
 | .c (.one .undef)=>ab
 |_=>ai
def ja(T:bb D)(Φ:List (az D))(ops:List aS){ρ:Type}:List aS->Nat->S D->List Lg->(S D->List Lg->Option ρ)->Option ρ
 |[],_,σ,lg,k=>k σ lg
 |o::r,p,σ,lg,k=>match o.guard with
  |none=>zC T Φ p o σ lg λσ lg=>ja T Φ ops r (p+1) σ lg k
  |some (j,b)=>match guardOf ops σ.sl j with
   |none=>none
   |some (d,a)=>match a with
    | .c (.one (.v .bool c K g))=>
      Ev c
       (match b with
         |true=>zC T Φ p o (li σ d ab K g) lg λσ lg=>ja T Φ ops r (p+1) σ lg k
         |false=>ja T Φ ops r (p+1) (uV (li σ d ab K g) o.dst) lg k)
       (match b with
         |true=>ja T Φ ops r (p+1) (uV (li σ d ai K g) o.dst) lg k
         |false=>zC T Φ p o (li σ d ai K g) lg λσ lg=>ja T Φ ops r (p+1) σ lg k)
    |a=>if S7 a then ja T Φ ops r (p+1) (uV σ o.dst) lg k else none
def xC:S D->List Nat->Option (S D)
 |σ,[]=>aa σ
 |σ,i::r=>match dt σ.ob i with
  |some (.cX n t _ _ xs g _)=>if bM σ.lk i then none else xC {σ with ob:=(i,aa (.sl n t xs [1] g))::σ.ob} r
  |_=>none
def qC:S D->List Nat->Option (S D)
 |σ,[]=>aa σ
 |σ,i::r=>match dt σ.ob i with
  |some o=>match BJ o with
   |some (⟨.sl n,xs⟩,K)=>if bM σ.lk i then none else qC {σ with ob:=(i,aa (.fz n xs (1::K)))::σ.ob} r
   |_=>none
  |none=>none
def oG(l:List Nat)(σ:S D){ρ:Type}(k:S D->Option ρ):Option ρ:=match qC σ l with
 |some bc=>k bc
 |none=>none
def dstsOf(l:List aS):List Nat:=l.filterMap (·.dst)
def vM(T:bb D)(Φ:List (az D))(ops:List aS):Sg->∀{ρ:Type},List aS->Nat->S D->(S D->Option ρ)->Option ρ
 | .nil,_,l,p,σ,k=>ja T Φ ops l p σ [] λσ _=>k σ
 | .xC s b next,_,l,p,σ,k=>ja T Φ ops (l.take (s-p)) p σ [] λaM _=>match xC aM b with
   |some bH=>vM T Φ ops next (l.drop (s-p)) s bH k
   |none=>none
 | .tJ s m j inner next,_,l,p,σ,k=>ja T Φ ops (l.take (s-p)) p σ [] λaM _=>
     let tJ:=(l.drop (s-p)).take m
     let go:=λ{ji:Type} (σ:S D) (k:S D->Option ji)=>match tJ with
      |o::_=>match o.guard with
       |some (i,b)=>match guardOf ops σ.sl i with
        |some (d,.c (.one (.v .bool c K g)))=>
         Ev c
          (match b with
            |true=>vM T Φ ops inner tJ s (li σ d ab K g) k
            |false=>ja T Φ ops tJ s (li σ d ab K g) [] λσ _=>k σ)
          (match b with
            |true=>ja T Φ ops tJ s (li σ d ai K g) [] λσ _=>k σ
            |false=>vM T Φ ops inner tJ s (li σ d ai K g) k)
        |_=>ja T Φ ops tJ s σ [] λσ _=>k σ
       |none=>vM T Φ ops inner tJ s σ k
      |[]=>none
     wrap T (dstsOf tJ) (aa (ab,[(.normal,j)])) (λσ k=>go σ (k .normal)) aM λ_ bH=>vM T Φ ops next (l.drop (s-p+m)) (s+m) bH k
def bit(m i:Nat):Bool:=aT ((m>>>i)% 2) 1
def BN(acc:List Nat)(o:aS):Nat:=o.after.toList.foldl (λs e=>if Region.binds .any e then s|||(1<<<e.on)|||(acc.reverse.getD e.on 0)else s) 0
def je:List aS->List Nat->List Nat
 |[],acc=>acc.reverse
 |o::r,acc=>je r (BN acc o::acc)
def tmpsOf(ops:List aS)(o:aS):List Nat:=(o.op.operands.toList.filterMap λ| .tmp t=>aa t|_=>none)++(match o.guard with
 |some (j,_)=>match ops[j]? with
  |some og=>og.dst.toList
  |none=>[]
 |none=>[])
def apart(ops:List aS)(a b:aS):Bool:=match a.dst with
 |none=>match b.dst with
  |none=>ab
  |some d=> !(bM (tmpsOf ops a) d)
 |some d=> !(bM (tmpsOf ops b) d)&&match b.dst with
  |none=>ab
  |some d'=> !(aT d d')&& !(bM (tmpsOf ops a) d')
def xI(ops:List aS)(an:List Nat):Nat->List aS->List (Nat×aS)->Bool
 |_,[],_=>ab
 |j,o::r,seen=>(seen.all λp=>bit (an.getD j 0) p.1||apart ops p.2 o)&&o.after.toList.all (λe=> !(Region.binds .any e)||dx e.on j)&&xI ops an (j+1) r ((j,o)::seen)
def Di(a b:Lg):Bool:=qG a.wr b.rd&&qG b.wr a.rd&&qG a.wr b.wr
def ye(an:List Nat):List Lg->Bool
 |[]=>ab
 |a::r=>(r.all λb=>bit (an.getD a.i 0) b.i||Di a b)&&ye an r
def VJ(T:bb D)(Φ:List (az D))(ops:List aS)(draw:Bool)(sg:Sg){ρ:Type}(σ:S D)(k:S D->Option ρ):Option ρ:=
 match draw with
 |true=>
  match xI ops (je ops []) 0 ops []with
  |true=>ja T Φ ops ops 0 σ [] λbc lg=>match ye (je ops []) lg with
   |true=>k bc
   |false=>none
  |false=>none
 |false=>vM T Φ ops sg ops 0 σ k
def writes:bL->List Nat
 | .region _ ops _=>dstsOf ops.toList
 | .seq a b=>writes a++writes b
 | .cond _ a b=>writes a++writes b
 | .block _ a=>writes a
 | .loop a=>writes a
 | .scope a=>writes a
 | .rangeFunc _ ps a b=>ps.toList++writes a++writes b
 |_=>[]
def SI(T:bb D)(wr:List Nat)(j:J)(pr:Bool)(E:List (Out×J)){ρ:Type}(body:∀{ji:Type},S D->(Out->S D->Option ji)->Option ji)(σ:S D)(k:Out->S D->Option ρ):Option ρ:=
 let mv:=j.mv++rk E
 let lk:=(kept σ mv).map bS++σ.lk
 qE T j {σ with lk:=lk} λh0=>
  nA (aI (σ:=HH D j.cL) (ρ:=vX D pr ρ E) (λh=>match lu T j wr mv σ h with
   |some ci=>body {ci with lk:=lk} λo aM=>match o with
    | .normal=>qE T j aM λh'=>aa (.inl h')
    |o=>match toE T pr E o aM (k o {aM with lk:=σ.lk})with
     |some x=>aa (.inr x)
     |none=>none
   |none=>none) h0) λx=>sO T pr wr mv σ k E x
def As:bL->Option Nat
 | .label l=>aa l
 |_=>none
def xH:bL->Option (Nat×bL)
 | .label l=>aa (l,.skip)
 | .seq a b=>match As a with
   |some l=>aa (l,b)
   |none=>xH b
 |_=>none
def iT(c:bL):Bool:=(xH c).isNone
def gz:bL->Bool
 | .seq a b=>(match As a with
   |some _=>iT b
   |none=>iT a&&gz a)&&gz b
 | .cond _ a b=>iT a&&iT b&&gz a&&gz b
 | .block _ a=>iT a&&gz a
 | .loop a=>iT a&&gz a
 | .scope a=>gz a
 |_=>ab
def kP:bL->Bool
 | .seq a b=>kP a&&kP b
 | .cond _ a b=>kP a&&kP b
 | .block _ a=>kP a
 | .loop a=>kP a
 | .scope _=>ai
 |_=>ab
def fQ(T:bb D)(Φ:List (az D)):bL->An->∀{ρ:Type},S D->(Out->S D->Option ρ)->Option ρ
 | .skip,_,_,σ,k=>k .normal σ
 | .region _ ops draw,an,_,σ,k=>wrap T (dstsOf ops.toList) an.cut (λσ k=>VJ T Φ ops.toList draw an.sg σ (k .normal)) σ k
 | .seq a b,an,_,σ,k=>wrap T (writes (.seq a b)) an.cut (λσ k=>oG an.a.fz σ λσ=>fQ T Φ a an.a.un σ λo bc=>match o with
     | .normal=>oG an.b.fz bc λσ=>fQ T Φ b an.b.un σ k
     |o=>k o bc) σ k
 | .cond c a b,an,_,σ,k=>wrap T (writes (.cond c a b)) an.cut (λσ k=>match eQ σ.sl c with
     |some (.c (.one (.v .bool d _ _)))=>Ev d (oG an.a.fz σ λσ=>fQ T Φ a an.a.un σ k) (oG an.b.fz σ λσ=>fQ T Φ b an.b.un σ k)
     |_=>none) σ k
 | .block id a,an,_,σ,k=>wrap T (writes a) an.cut (λσ k=>oG an.a.fz σ λσ=>fQ T Φ a an.a.un σ λo bc=>match o with
     | .exit Au=>match aT Au id with
       |true=>k .normal bc
       |false=>k o bc
     |o=>k o bc) σ k
 | .exit id,_,_,σ,k=>k (.exit id) σ
 | .ret,_,_,σ,k=>k .ret σ
 | .scope a,an,_,σ,k=>wrap T (writes a) an.cut (λσ k=>oG an.a.fz σ λσ=>fQ T Φ a an.a.un σ λo bc=>match o with
     | .goto _=>none
     |o=>k o bc) σ k
 | .goto l,_,_,σ,k=>k (.goto l) σ
 | .loop a,.loop j pr E x,_,σ,k=>SI T (writes a) j pr E (λσ k=>oG x.fz σ λσ=>fQ T Φ a x.un σ k) σ k
 |_,_,_,_,_=>none
def C1(T:bb D)(sl:List (Nat×AV D)):List lc->Q D (List (AV D))
 |[]=> .ret []
 | .tmp t::r=>match aE sl t with
   |some a=>(C1 T sl r).bind λl=> .ret (a::l)
   |none=> .fail
 | .cell t ty::r=>match aE sl t,aE T.ty ty with
   |some (.c (.one (.ptr i off))),aa ty=> .obj i λ
    | .box cs=>match yP ty T cs off with
      |some a=>(C1 T sl r).bind λl=> .ret (a::l)
      |none=> .fail
    |_=> .fail
   |_,_=> .fail
def stay(c:az D):List (Nat×Nat):=(c.b7.filter λp=>bM (c.ob.map bS) p.1).map λp=>(p.1,p.1)
def uY(T:bb D)(c:az D)(rs:List lc):Out->S D->Option (HH D c.outs)
 | .ret,σ=>fin σ
 | .normal,σ=>fin σ
 |_,_=>none
where fin (σ:S D):Option (HH D c.outs):=(C1 T σ.sl rs).go σ.ob [] λfj _=>
 (Bl T ai 0 c.outs c.jR c.b7 (stay c) σ.nx fj).go σ.ob [] λx _=>match gX T (dE T c.outs x.1) aa id 3000 c.jR,jC T (dE T c.outs x.1) aa id 3000 c.b7 with
   |some _,aa _=>aa x.1
   |_,_=>none
def KK(T:bb D)(Φ:List (az D))(c:az D)(rs:List lc)(code:bL)(an:An)(h:HH D c.ins):Option (HH D c.outs):=match iT code&&gz code with
 |true=>match yK T c h with
  |some σ=>oG an.fz σ λσ=>fQ T Φ code an.un σ (uY T c rs)
  |none=>none
 |false=>none
