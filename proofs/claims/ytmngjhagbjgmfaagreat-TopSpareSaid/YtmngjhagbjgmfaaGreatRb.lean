import Derived.Test.YtmngjhagbjgmfaaGreatRa
set_option linter.all false
open Bool renaming false->ai,true->ab
open ByteArray renaming empty->tv
open Go renaming Code->bM,Oper->aT,Operand->a_,ResultVar->li
open Nat renaming beq->aU,ble->eh,blt->dz
open Option renaming none->ak,some->aa
open Prod renaming fst->bT
noncomputable section
namespace Go.Proofs.YtmngjhagbjgmfaaGreat
open Go Dp
namespace Rx
section
variable {D:Nat->Type}
def iv(k:IntKind)(n:Int)(g:Nat):AV D:= .c (.one (.v (.int k) n [] g))
def bv(b:Bool)(g:Nat):AV D:= .c (.one (.v .bool b [] g))
def VQ:Value->Option (AV D)
 | .int k n=>aa (iv k n 0)
 | .bool b=>aa (bv b 0)
 | .string s=>aa (.c (.one (.v .str s [] 0)))
 | .slice ak 0 0=>aa (.c (.one .bF))
 | .pointer ak=>aa (.c (.one .sx))
 | .nilFunc=>aa (.c (.one .Dh))
 | .map ak=>aa (.c (.one .zD))
 |_=>ak
def eT(sl:List (Nat×AV D)):a_->Option (AV D)
 | .tmp t=>aF sl t
 | .const v=>VQ v
 | .func f=>if dz f 1000000 then aa (.c (.one (.fn f [])))else ak
 | .global _=>ak
def eR(sl:List (Nat×AV D)):List a_->Option (List (AV D))
 |[]=>aa []
 |x::r=>match eT sl x,eR sl r with
  |some a,aa b=>aa (a::b)
  |_,_=>ak
def bY(a:AV D):Q D (cY D):= .ret ⟨a,[],[]⟩
def kZ.n(T:bc D):kZ->Nat
 | .one _| .ptr| .fn=>1
 | .st n=>(T.lv n).length
def kZ.agg:kZ->Bool
 | .st _=>ab
 |_=>ai
def cellsD(K:List Nat):Nat->List (DV D)->List (A1 D)
 |_,[]=>[]
 |g,⟨l,d⟩::r=> .v l d (As K l) g::cellsD K (g+1) r
def wh(T:bc D):kZ->Option (List (A1 D))
 | .one (.int k)=>aa [.v (.int k) (0:Int) [] 0]
 | .one .bool=>aa [.v .bool ai [] 0]
 | .one .str=>aa [.v .str tv [] 0]
 | .one (.sl _)=>aa [.bF]
 | .st n=>aa (BC (T.lv n))
 | .ptr=>aa [.sx]
 | .fn=>aa [.Dh]
where BC:List Lf->List (A1 D)
 |[]=>[]
 |l::r=>(match l with| .int k=> .v (.int k) (0:Int) [] 0| .bool=> .v .bool ai [] 0| .str=> .v .str tv [] 0| .sl _=> .bF)::BC r
def vh(g:Bool)(l:List (A1 D)):Option (AV D):=if g then aa (.c (.agg l))else match l with
 |[a]=>aa (.c (.one a))
 |_=>ak
def cellsOf:AV D->Option (List (A1 D))
 | .c (.one a)=>aa [a]
 | .c (.agg l)=>aa l
 | .dX _=>ak
def yT(ty:kZ)(T:bc D)(cs:List (A1 D))(off:Nat):Option (AV D):=
 if eh (off+ty.n T) cs.length then vh ty.agg ((cs.drop off).take (ty.n T))else ak
def CF(cs us:List (A1 D))(off:Nat):Option (List (A1 D)):=
 if eh (off+us.length) cs.length&&us.all storable then aa (cs.take off++us++cs.drop (off+us.length))else ak
def u9(ls:List Lf):List (A1 D)->Q D (List (DV D)×List Nat×List Nat)
 |[]=> .ret ([],[],[])
 |a::r=>match ls with
  |[]=> .fail
  |l::Mb=>match a with
   | .v l' d K _=>(u9 Mb r).bind λx=> .ret (⟨l',d⟩::x.1,K++x.2.1,x.2.2)
   | .bF=>match l with
     | .sl n=>(u9 Mb r).bind λx=> .ret (⟨.sl n,[]⟩::x.1,x.2.1,x.2.2)
     |_=> .fail
   | .own j=> .obj j λo=>match O4 o with
     |some (d,K)=>(u9 Mb r).bind λx=> .ret (d::x.1,K++x.2.1,x.2.2)
     |none=>match BN o with
      |some (d,K)=>(u9 Mb r).bind λx=> .ret (d::x.1,1::K++x.2.1,j::x.2.2)
      |none=> .fail
   |_=> .fail
def U7(g:Bool):AV D->Bool
 | .c (.one _)=> !g
 | .c (.agg _)=>g
 | .dX _=>ai
def RY(T:bc D)(n:Nat)(a:AV D):Q D (D n×List Nat×List Nat):=if U7 (T.ag n) a then match cellsOf a with
 |some cs=>(u9 (T.lv n) cs).bind λx=>match T.iX n x.1 with
  |some y=> .ret (y,x.2)
  |none=> .fail
 |none=> .fail
 else .fail
def u7(T:bc D)(n:Nat):List (AV D)->Q D (List (D n)×List Nat×List Nat)
 |[]=> .ret ([],[],[])
 |a::r=>(RY T n a).bind λx=>(u7 T n r).bind λy=> .ret (x.1::y.1,x.2.1++y.2.1,x.2.2++y.2.2)
def GJ(n:Nat):A1 D->Q D (List (D n)×List Nat)
 | .v (.sl n') xs K _=>if h:n'=n then .ret (h▸xs,K)else .fail
 | .bF=> .ret ([],[])
 | .own j=> .obj j λ
   | .sl n' _ xs K _=>if h:n'=n then .ret (h▸xs,K)else .fail
   | .fz n' xs K=>if h:n'=n then .ret (h▸xs,K)else .fail
   |_=> .fail
 | .tail j n' k=> .obj j λ
   | .sl n0 _ xs K _=>if aU n0 n' then(if h:n0=n then .ret (h▸uz xs k,K)else .fail)else .fail
   |_=> .fail
 | .pre j n' k=> .obj j λ
   | .sl n0 _ xs K _=>if aU n0 n' then(if h:n0=n then .ret (h▸CB xs k,K)else .fail)else .fail
   |_=> .fail
 |_=> .fail
def SY:A1 D->Q D Int
 | .v (.sl _) xs _ _=> .ret (len xs)
 | .ch _ _ _ _ _ _ d=> .ret (len d)
 | .bF=> .ret 0
 | .own j=> .obj j λ
   | .sl _ _ xs _ _=> .ret (len xs)
   | .cZ _ _ _ _ xs _ _=> .ret (len xs)
   | .fz _ xs _=> .ret (len xs)
   |_=> .fail
 | .tail i n j=> .obj i λ
   | .sl n' _ xs _ _=>if aU n' n then .ret (ab' (len xs) j)else .fail
   |_=> .fail
 |_=> .fail
def Xd(op:BinOp)(g:Nat)(k k':IntKind)(a b:Int):Q D (cY D):=match op with
 | .shr=> .part (wD k.bits a b) λc=>bY (iv k c g)
 |op=>if k=k' then match op with
   | .add=>bY (iv k (ru k (G_ a b)) g)
   | .sub=>bY (iv k (ru k (ab' a b)) g)
   | .mul=>bY (iv k (ru k (asr a b)) g)
   | .and=>bY (iv k (Ts k a b) g)
   | .eql=>bY (bv (Mr a b) g)
   | .neq=>bY (bv (ine a b) g)
   | .lss=>bY (bv (ilt a b) g)
   | .leq=>bY (bv (ile a b) g)
   | .gtr=>bY (bv (igt a b) g)
   | .geq=>bY (bv (ige a b) g)
   |_=> .fail
  else .fail
def QO(op:BinOp)(g:Nat)(a b:ByteArray):Q D (cY D):=match op with
 | .add=> .part (KT a b) λc=>bY (.c (.one (.v .str c [] g)))
 | .eql=>bY (bv (C0 a b) g)
 | .neq=>bY (bv (EY (C0 a b)) g)
 |_=> .fail
def Xc(op:BinOp)(g:Nat):AV D->AV D->Q D (cY D)
 | .c (.one (.v (.int k) a _ _)),.c (.one (.v (.int k') b _ _))=>match k,k' with
   | .i64,.i64=>match op with
     | .add=>bY (iv .i64 (asy a b) g)
     | .sub=>bY (iv .i64 (ar2 a b) g)
     | .mul=>bY (iv .i64 (ass a b) g)
     | .quo=> .part (mT a b) λc=>bY (iv .i64 c g)
     | .rem=> .part (kO a b) λc=>bY (iv .i64 c g)
     | .eql=>bY (bv (Mr a b) g)
     | .neq=>bY (bv (ine a b) g)
     | .lss=>bY (bv (ilt a b) g)
     | .leq=>bY (bv (ile a b) g)
     | .gtr=>bY (bv (igt a b) g)
     | .geq=>bY (bv (ige a b) g)
     | .shr=> .part (wD 64 a b) λc=>bY (iv .i64 c g)
     |_=> .fail
   |k,k'=>Xd op g k k' a b
 | .c (.one (.v .str a _ _)),.c (.one (.v .str b _ _))=>QO op g a b
 |_,_=> .fail
def Xe(op:BinOp)(g:Nat)(a b:Bool):Q D (cY D):=match op with
 | .eql=>bY (bv (beq' a b) g)
 | .neq=>bY (bv (EY (beq' a b)) g)
 |_=> .fail
def So(T:bc D)(t i:Nat):Option Nat:=match aF T.uu t with
 |some l=>match l[i]? with
  |some p=>aa p.1
  |none=>ak
 |none=>ak
def SS(i n:Nat)(j:Int)(off t tc q:Nat)(xs:List (D n))(gx ht g:Nat):DV D->Q D (cY D)
 |⟨.sl m,d⟩=>if aU m q then(if aU ht 0 then .ret ⟨.c (.one (.ch i n j off (g+1) m d)),[(i,aa (.cZ n t tc q xs gx (g+1)))],[]⟩else bY (.c (.one (.ch i n j off ht m d))))else .fail
 |⟨l,d⟩=>bY (.c (.one (.v l d [] g)))
def LH:kZ->Bool
 | .one _=>ab
 |_=>ai
def SQ(T:bc D)(g:Nat)(ty:kZ):A1 D->Q D (cY D)
 | .ptr i off=> .obj i λ
   | .box cs=>match yT ty T cs off with
     |some a=>bY a
     |none=> .fail
   |_=> .fail
 | .rp n x off K=>match yT ty T (cellsD K g (T.out n x)) off with
   |some a=>bY a
   |none=> .fail
 | .el i n j y off tc tj=> .obj i λ
   | .sl n' _ xs K g'=>if aU g' tc then match yT ty T (cellsD K g (T.out n y)) off with
       |some a=>bY a
       |none=> .fail
     else if aU n n' then .part (idx xs j) λy=>match yT ty T (cellsD K g (T.out n' y)) off with
      |some a=>bY a
      |none=> .fail
     else .fail
   | .cZ n' t c q xs g' ht=>if aU n n'&&LH ty then .part (idx xs j) λy=>match(T.out n' y)[off]? with
       |some x=>SS i n' j off t c q xs g' ht g x
       |none=> .fail
     else .fail
   |_=> .fail
 |_=> .fail
def ZO(T:bc D)(g:Nat)(ty:kZ)(a:AV D):A1 D->Q D (cY D)
 | .ptr i off=> .obj i λ
   | .box cs=>match cellsOf a with
     |some us=>if aU us.length (ty.n T)then match CF cs us off with
       |some jd=> .ret ⟨.c (.one .undef),[(i,aa (.box jd))],[]⟩
       |none=> .fail
      else .fail
     |none=> .fail
   |_=> .fail
 | .el i n j y off tc tj=> .obj i λ
   | .sl n' t xs K g'=>match cellsOf a with
     |some us=>if aU us.length (ty.n T)&&aU n n'&&eh (off+us.length) (T.lv n').length then(u9 ((T.lv n').drop off) us).bind λx=>
       .part (idx xs j) λy=>match T.iX n' ((T.out n' y).take off++x.1++(T.out n' y).drop (off+x.1.length))with
         |some z=>if bN x.2.2 i then .fail else .part (di xs j z) λzs=> .ret ⟨.c (.one .undef),[(i,aa (.sl n' t zs (x.2.1++K) g))],x.2.2⟩
         |none=> .fail
      else .fail
     |none=> .fail
   | .iu n' t' xH q xs j' vi s gx=>match a with
     | .c (.one (.yX i' s'))=>if aU i i'&&aU s s'&&aU n n'&&aU off vi&&LH ty then .part (yN j j') λ_=> .ret ⟨.c (.one .undef),[(i,aa (.cZ n' t' xH q xs gx 0))],[]⟩else .fail
     |_=> .fail
   |_=> .fail
 |_=> .fail
def Tn(m:Nat)(j:Int)(tj:Nat):A1 D->Q D (cY D)
 | .v (.sl n) xs K _=>if aU n m then .part (idx xs j) λy=>bY (.c (.one (.rp n y 0 K)))else .fail
 | .own i=> .obj i λ
   | .sl n _ xs _ tc=>if aU n m&& !(aU tc 0)then .part (idx xs j) λy=>bY (.c (.one (.el i n j y 0 tc tj)))else .fail
   | .cZ n _ _ _ xs tc _=>if aU n m&& !(aU tc 0)then .part (idx xs j) λy=>bY (.c (.one (.el i n j y 0 tc tj)))else .fail
   | .iu n _ _ _ xs _ _ _ tc=>if aU n m&& !(aU tc 0)then .part (idx xs j) λy=>bY (.c (.one (.el i n j y 0 tc tj)))else .fail
   | .fz n xs K=>if aU n m then .part (idx xs j) λy=>bY (.c (.one (.rp n y 0 K)))else .fail
   |_=> .fail
 | .bF=> .part (none:Option (D m)) λy=>bY (.c (.one (.rp m y 0 [])))
 | .tail i n0 j0=> .obj i λ
   | .sl n _ xs _ tc=>if aU n m&&aU n n0&& !(aU tc 0)then .part (idx (uz xs j0) j) λy=>bY (.c (.one (.el i n (G_ j0 j) y 0 tc 0)))else .fail
   |_=> .fail
 |_=> .fail
def ya(T:bc D)(l:List (Nat×Nat)):List (A1 D)->List (Nat×a_)->List (AV D)->Option (List (A1 D))
 |cs,[],[]=>aa cs
 |cs,(i,_)::r,a::as=>match l[i]?,cellsOf a with
  |some (off,sz),aa us=>if aU us.length sz then match CF cs us off with
    |some jd=>ya T l jd r as
    |none=>ak
   else ak
  |_,_=>ak
 |_,_,_=>ak
def xP:Nat->List (Nat×a_)->Bool
 |_,[]=>ab
 |k,(i,_)::r=>aU i k&&xP (k+1) r
def acf(T:bc D)(n tc q:Nat):Bool:=match aF T.kd n with
 |some p=>aU p.1 tc&&aU p.2 q
 |none=>ai
def jJ:Lf->Bool
 | .sl _=>ai
 |_=>ab
def vM(T:bc D)(n:Nat)(K:List Nat):List Nat:=match(T.lv n).all jJ with
 |true=>[]
 |false=>K
def O_(T:bc D)(ar n t:Nat)(a x:A1 D):Q D (cY D):=(GJ n x).bind λy0=>ajC (y0.1,vM T n y0.2)
where ajC (ys:List (D n)×List Nat):Q D (cY D):=match a with
 | .own i=> .obj i λ
   | .sl n' t' xs K _=>if h:n'=n then(if aU t' t then .part (bG (h▸xs) ys.1) λzs=> .ret ⟨.c (.one (.own ar)),[(ar,aa (.sl n t zs (ys.2++K) (ar+16))),(i,ak)],[]⟩else .fail)else .fail
   |_=> .fail
 | .bF=> .part (bG [] ys.1) λzs=> .ret ⟨.c (.one (.own ar)),[(ar,aa (.sl n t zs ys.2 (ar+16)))],[]⟩
 | .pre i e j=> .obj i λ
   | .sl n' t' xs K _=>if h:n'=n then(if aU t' t&&aU n' e then .part (bG (h▸CB xs j) ys.1) λzs=> .ret ⟨.c (.one (.own ar)),[(ar,aa (.sl n t zs (ys.2++K) (ar+16))),(i,ak)],[]⟩else .fail)else .fail
   |_=> .fail
 | .ch i e j off ct m _=> .obj i λ
   | .cZ e' te tc q xs _ ht=>if aU e e'&&aU ct ht&& !(aU ht 0)&&aU m q&&aU tc t&&aU q n&&acf T e' tc q then .part (idx xs j) λy=>match(T.out e' y)[off]? with
       |some ⟨.sl m',d⟩=>if h:m'=n then .part (bG (h▸d) ys.1) λzs=>match T.iX e' ((T.out e' y).set off ⟨.sl n,zs⟩)with
         |some y'=> .part (di xs j y') λwv=> .ret ⟨.c (.one (.yX i ar)),[(i,aa (.iu e' te tc q wv j off ar (ar+16)))],[]⟩
         |none=> .fail
        else .fail
       |_=> .fail
     else .fail
   |_=> .fail
 |_=> .fail
def NY(T:bc D)(ar n i:Nat)(j:Int)(ys:List (D n)×List Nat):Q D (cY D):= .obj i λ
 | .sl n' t xs K _=>if h:n'=n then .ret ⟨iv .i64 (VM (len xs) j (len ys.1)) 0,[(i,aa (.sl n t (ae3 (h▸xs) j ys.1) (ys.2++K) (ar+16)))],[]⟩else .fail
 |_=> .fail
def VO(T:bc D)(ar n:Nat)(a x:A1 D):Q D (cY D):=(GJ n x).bind λy0=>match a with
 | .own i=>NY T ar n i 0 (y0.1,vM T n y0.2)
 | .tail i n' j=>if aU n' n then NY T ar n i j (y0.1,vM T n y0.2)else .fail
 |_=> .fail
def y_(d:Int):Option a_->List (AV D)->Q D (Int×List (AV D))
 |none,as=> .ret (d,as)
 |some _,.c (.one (.v (.int .i64) l _ _))::as=> .ret (l,as)
 |some _,_=> .fail
def tL(g m:Nat)(lo hi:Option a_)(n:Nat)(xs:List (D n))(K:List Nat)(as:List (AV D)):Q D (cY D):=
 if aU n m then(y_ 0 lo as).bind λl=>(y_ (len xs) hi l.2).bind λh=>match h.2 with
  |[]=> .part (dK xs l.1 h.1) λzs=>bY (.c (.one (.v (.sl n) zs K g)))
  |_=> .fail
  else .fail
def Ro(fl fq:Bool)(ar g m:Nat)(lo hi:Option a_)(a:A1 D)(as:List (AV D)):Q D (cY D):=match a with
 | .v (.sl n) xs K _=>tL g m lo hi n xs K as
 | .bF=>(y_ 0 lo as).bind λl=>(y_ 0 hi l.2).bind λh=>match h.2 with
   |[]=> .part (dK ([]:List Unit) l.1 h.1) λ_=>bY (.c (.one .bF))
   |_=> .fail
 | .own i=> .obj i λ
   | .fz n xs K=>tL g m lo hi n xs K as
   | .sl n t xs K _=>match lo with
     |none=>if aU n m then(y_ (len xs) hi as).bind λh=>match h.2 with
       |[]=>match fl with
        |true=> .part (dK xs 0 h.1) λ_=>bY (.c (.one (.pre i n h.1)))
        |false=> .part (dK xs 0 h.1) λzs=> .ret ⟨.c (.one (.own ar)),[(ar,aa (.sl n t zs K (ar+16))),(i,ak)],[]⟩
       |_=> .fail
      else .fail
     |some _=>match hi with
      |none=>if aU n m then(y_ 0 lo as).bind λl=>match l.2 with
        |[]=>match fq with
         |false=> .part (dK xs l.1 (len xs)) λ_=>bY (.c (.one (.tail i n l.1)))
         |true=> .part (dK xs l.1 (len xs)) λzs=> .ret ⟨.c (.one (.own ar)),[(ar,aa (.sl n t zs K (ar+16))),(i,ak)],[]⟩
        |_=> .fail
       else .fail
      |some _=> .fail
   |_=> .fail
 |_=> .fail
def Eu:List (A1 D)->Option (List (DV D))
 |[]=>aa []
 | .v l d _ _::r=>match Eu r with
   |some x=>aa (⟨l,d⟩::x)
   |none=>ak
 |_=>ak
def Bw:DV D->DV D->Bool
 |⟨.int _,a⟩,⟨.int _,b⟩=>Mr a b
 |⟨.bool,a⟩,⟨.bool,b⟩=>beq' a b
 |⟨.str,a⟩,⟨.str,b⟩=>C0 a b
 |_,_=>ai
def uy:List (DV D)->List (DV D)->Bool
 |[],_=>ab
 |x::xs,ys=>match xs,ys with
  |[],y::_=>Bw x y
  |x'::wv,y::ys'=>O3 (Bw x y) (uy (x'::wv) ys')
  |_,[]=>ab
def Vl(op:BinOp)(g:Nat)(ls:List Lf)(p q:List (A1 D)):Q D (cY D):=match Eu p,Eu q with
 |some xs,aa ys=>if xs.map DV.l=ls∧ys.map DV.l=ls then match op with
   | .eql=>bY (bv (uy xs ys) g)
   | .neq=>bY (bv (EY (uy xs ys)) g)
   |_=> .fail
  else .fail
 |_,_=> .fail
def Mm(T:bc D):AV D->Option (List (DV D)×Bool)
 | .c (.one (.uC n xs _))=>aa (xs.flatMap (T.out n),ab)
 | .c (.one (.v l d _ _))=>aa ([⟨l,d⟩],ai)
 | .c (.agg cs)=>match Eu cs with
   |some x=>aa (x,ab)
   |none=>ak
 |_=>ak
def jV:List (DV D)->List (DV D)->Bool
 |x::r,y::s=>match s with
  |[]=>Bw x y
  |_::_=>O3 (Bw x y) (jV r s)
 |_,_=>ab
def zo:(l:Lf)->l.den D
 | .int _=>(0:Int)
 | .bool=>ai
 | .str=>tv
 | .sl _=>[]
def yk(l:Lf):List (DV D)->l.den D
 |[]=>zo l
 |⟨l',d⟩::r=>match r with
  |[]=>if h:l'=l then h▸d else zo l
  |_::_=>yk l r
def ym:List Lf->Option Lf
 |[]=>ak
 |l::r=>match r with
  |[]=>aa l
  |_::_=>ym r
def Ml(T:bc D)(n:Nat)(ks:List (DV D))(g:Bool):Bool:=decide (ks.map DV.l=(T.lv n).dropLast)&&(match ks with|[_]=> !g|_=>g)
def SC(T:bc D)(n g:Nat)(ok:Bool)(a k:AV D):Q D (cY D):=match a,Mm T k with
 | .c (.one (.own i)),aa (ks,kg)=> .obj i λ
   | .mp n' xs=>if aU n n'&&Ml T n' ks kg then match ym (T.lv n')with
       |some l=>match ok with
        |false=>bY (.c (.one (.v l (yf (λx=>jV (T.out n' x) ks) (λx=>yk l (T.out n' x)) (zo l) xs) [] g)))
        |true=>bY (.dX [.one (.v l (yf (λx=>jV (T.out n' x) ks) (λx=>yk l (T.out n' x)) (zo l) xs) [] g),.one (.v .bool (Dj (λx=>jV (T.out n' x) ks) xs) [] (g+1))])
       |none=> .fail
     else .fail
   |_=> .fail
 |_,_=> .fail
def LV(T:bc D)(n:Nat)(a k u:AV D):Q D (cY D):=match a,Mm T k,u with
 | .c (.one (.own i)),aa (ks,kg),.c (.one (.v l d _ _))=> .obj i λ
   | .mp n' xs=>if aU n n'&&Ml T n' ks kg then match T.iX n' (ks++[⟨l,d⟩])with
       |some z=> .ret ⟨.c (.one .undef),[(i,aa (.mp n' (Ag (λx=>jV (T.out n' x) ks) z xs)))],[]⟩
       |none=> .fail
     else .fail
   |_=> .fail
 |_,_,_=> .fail
def Gu:a_->a_->Bool
 | .tmp a,.tmp b=>aU a b
 | .const (.int .i64 a),.const (.int .i64 b)=>decide (a=b)
 |_,_=>ai
def Di(T:bc D)(n:Nat)(h:T.lv n=[.int .u8])(b:Int):D n:=T.Ai n (h▸(b:HL D [.int .u8]))
def tJ(T:bc D)(n:Nat)(h:T.lv n=[.int .u8])(x:D n):Int:=(h▸T.Dd n x:HL D [.int .u8])
def loC:Option a_->Bool
 |some (.const _)=>ab
 |_=>ai
def aa6(t:TypeId):a_->Nat
 | .tmp i=>t*4096+i
 |_=>0
def De(T:bc D)(ar:Nat):Op->List (AV D)->Q D (cY D)
 | .move _,[a]=>bY a
 | .assign _,[a]=>bY a
 | .pick _ _ _,[c,a,b]=>match c with
   | .c (.one (.v .bool d _ _))=>if d=ab then bY a else bY b
   |_=> .fail
 | .binOp op t _ _ _,[a,b]=>match a,b with
   | .c (.agg p),.c (.agg q)=>match aF T.Bs t with
     |some n=>Vl op (ar+16) n p q
     |none=> .fail
   | .c (.one (.v .bool p _ _)),.c (.one (.v .bool q _ _))=>match aF T.ty t with
     |some (.one .bool)=>Xe op (ar+16) p q
     |_=> .fail
   | .c (.one (.vb _ _ _ _ p)),.c (.one .bF)=>match aF T.dh t with
     |some _=>match op with
      | .eql=>bY (bv p (ar+16))
      | .neq=>bY (bv (EY p) (ar+16))
      |_=> .fail
     |none=> .fail
   |a,b=>Xc op (ar+16) a b
 | .unOp .not _ _,[a]=>match a with
   | .c (.one (.v .bool b _ _))=>bY (bv (EY b) (ar+16))
   |_=> .fail
 | .unOp .neg _ _,[a]=>match a with
   | .c (.one (.v (.int .i64) n _ _))=>bY (iv .i64 (asg n) (ar+16))
   |_=> .fail
 | .nilCheck _,[a]=>match a with
   | .c (.one (.ptr i off))=>bY a
   | .c (.one (.rp n x off K))=>bY a
   | .c (.one (.el i n j y off tc tj))=>bY a
   |_=> .fail
 | .extract _ i,[a]=>match a with
   | .dX l=>match l[i]? with
     |some x=>bY (.c x)
     |none=> .fail
   |_=> .fail
 | .fieldAddr t _ i,[a]=>match So T t i,a with
   |some o,.c (.one (.ptr j off))=>bY (.c (.one (.ptr j (off+o))))
   |some o,.c (.one (.rp n x off K))=>bY (.c (.one (.rp n x (off+o) K)))
   |some o,.c (.one (.el j n k y off tc tj))=>bY (.c (.one (.el j n k y (off+o) tc tj)))
   |_,_=> .fail
 | .load t _,[a]=>match aF T.ty t,a with
   |some ty,.c (.one p)=>SQ T (ar+16) ty p
   |_,_=> .fail
 | .store t _ _,[p,a]=>match aF T.ty t,p with
   |some ty,.c (.one p)=>ZO T (ar+16) ty a p
   |_,_=> .fail
 | .box _ _,[a]=>match cellsOf a with
   |some cs=>if cs.all storable then .ret ⟨.c (.one (.ptr ar 0)),[(ar,aa (.box cs))],[]⟩else .fail
   |none=> .fail
 | .alloc t,[]=>match aF T.ty t with
   |some ty=>match wh T ty with
    |some cs=> .ret ⟨.c (.one (.ptr ar 0)),[(ar,aa (.box cs))],[]⟩
    |none=> .fail
   |none=> .fail
 | .build t ps,as=>match aF T.qO t with
   |some (m,e,n)=>if xP 0 ps.toList&&aU ps.toList.length m then(u7 T n as).bind λx=>match aF T.ty t with
     |some (.st _)=>if x.2.2.isEmpty&&eh (x.1.flatMap (T.out n)).length 112 then bY (.c (.agg (cellsD x.2.1 (ar+16) (x.1.flatMap (T.out n)))))else .fail
     |_=> .ret ⟨.c (.one (.uC n x.1 x.2.1)),[],x.2.2⟩
    else .fail
   |none=>match aF T.ty t,aF T.uu t with
    |some (.st n),aa l=>match ya T l (wh.BC (T.lv n)) ps.toList as with
     |some cs=>bY (.c (.agg cs))
     |none=> .fail
    |_,_=> .fail
 | .index t _ _,[a,i]=>match aF T.qO t,a,i with
   |some (m,e,n),.c (.one (.uC n' xs K)),.c (.one (.v (.int .i64) j _ _))=>if aU n n'&&aU xs.length m then .part (idx xs j) λy=>match vh (T.ag n') (cellsD K (ar+16) (T.out n' y))with
     |some r=>bY r
     |none=> .fail
    else .fail
   |some (m,e,n),.c (.agg cs),.c (.one (.v (.int .i64) j _ _))=>if T.ag n then .fail else(u7 T n (cs.map λc=> .c (.one c))).bind λx=>if x.2.2.isEmpty&&aU x.1.length m then .part (idx x.1 j) λy=>match vh (T.ag n) (cellsD x.2.1 (ar+16) (T.out n y))with
     |some r=>bY r
     |none=> .fail
    else .fail
   |none,.c (.one (.v .str s _ _)),.c (.one (.v (.int _) j _ _))=>match aF T.ty t with
    |some (.one .str)=> .part (KR s j) λb=>bY (iv .u8 b (ar+16))
    |_=> .fail
   |_,_,_=> .fail
 | .buildSlice t m ps,as=>match aF T.dh t with
   |some (e,n)=>if xP 0 ps.toList&&aU ps.toList.length m&&eh (m*(T.lv n).length) 65536 then(u7 T n as).bind λx=>
     .ret ⟨.c (.one (.own ar)),[(ar,aa (.sl n e x.1 x.2.1 (ar+16)))],x.2.2⟩
    else .fail
   |none=> .fail
 | .indexAddr t _ io,[a,i]=>match aF T.dh t,a,i with
   |some (_,n),.c (.one a),.c (.one (.v (.int .i64) j _ tj))=>Tn n j tj a
   |none,.c (.one (.ptr b off)),.c (.one (.v (.int .i64) _ _ _))=>match aF T.qO t,io with
    |some (m,_,n),.const (.int .i64 (.ofNat q))=>if dz q m then bY (.c (.one (.ptr b (off+q*(T.lv n).length))))else .fail
    |_,_=> .fail
   |_,_,_=> .fail
 | .makeSlice t x y,[a,_]=>match aF T.dh t,a with
   |some (e,n),.c (.one (.v (.int .i64) l _ _))=>if Gu x y then .part (mz (T.zero n) l) λzs=>match aF T.kd n with
     |some (tc,q)=> .ret ⟨.c (.one (.own ar)),[(ar,aa (.cZ n e tc q zs (ar+16) 0))],[]⟩
     |none=> .ret ⟨.c (.one (.own ar)),[(ar,aa (.sl n e zs [] (ar+16)))],[]⟩
    else .fail
   |_,_=> .fail
 | .slice t x lo hi ak,a::as=>match aF T.dh t,a with
   |some (_,n),.c (.one a)=>Ro (bN T.pre (aa6 t x)) (match loC lo with|true=>bN T.pre (aa6 t x+4294967296)|false=>ai) ar (ar+16) n lo hi a as
   |_,_=> .fail
 | .makeMap t ak,[]=>match aF T.qf t with
   |some (_,_,n)=> .ret ⟨.c (.one (.own ar)),[(ar,aa (.mp n []))],[]⟩
   |none=> .fail
 | .lookup t _ _ ok,[m,k]=>match aF T.qf t with
   |some (_,_,n)=>SC T n (ar+16) ok m k
   |none=> .fail
 | .mapUpdate t _ _ _,[m,k,u]=>match aF T.qf t with
   |some (_,_,n)=>LV T n m k u
   |none=> .fail
 | .insert t _ _ _,[m,k,u]=>match aF T.qf t with
   |some (_,_,n)=>LV T n m k u
   |none=> .fail
 | .convert s t _,[a]=>match aF T.ty s,aF T.ty t,a with
   |some (.one (.int _)),aa (.one (.int k')),.c (.one (.v (.int k) n _ _))=>match k' with
    | .i64=>bY (iv .i64 (W n) (ar+16))
    |k'=>bY (iv k' (ru k' n) (ar+16))
   |some (.one .str),aa (.one (.sl _)),.c (.one (.v .str x _ _))=>match aF T.dh t with
    |some (e,n)=>match aF T.ty e with
     |some (.one (.int .u8))=>if h:T.lv n=[.int .u8]then .part (KS (Di T n h) x) λxs=>bY (.c (.one (.v (.sl n) xs [1] (ar+16))))else .fail
     |_=> .fail
    |none=> .fail
   |some (.one (.sl _)),aa (.one .str),.c (.one a)=>match aF T.dh s with
    |some (e,n)=>match aF T.ty e with
     |some (.one (.int .u8))=>if h:T.lv n=[.int .u8]then(GJ n a).bind λx=>bY (.c (.one (.v .str (xp (tJ T n h) x.1) [] (ar+16))))else .fail
     |_=> .fail
    |none=> .fail
   |_,_,_=> .fail
 | .makeFunc (.func f) first jf,as=>if dz f 1000000 then match EE as with
     |some cs=>if aU first.size 0 then bY (.c (.one (.fn f cs)))else if aU jf.size 0 then bY (.c (.one (.fn (f+1000000) cs)))else .fail
     |none=> .fail
   else .fail
 | .call {callee:= .builtin b,argTypes:=ts,.. },as=>match b,as with
   | .len,[.c (.one a)]=>match ts.toList with
     |[t]=>match aF T.dh t with
      |some _=>(SY a).bind λn=>bY (iv .i64 n (ar+16))
      |none=>match aF T.ty t,a with
       |some (.one .str),.v .str s _ _=>bY (iv .i64 (rh s) (ar+16))
       |_,_=> .fail
     |_=> .fail
   | .min,[.c (.one (.v (.int .i64) p _ _)),.c (.one (.v (.int .i64) q _ _))]=>bY (iv .i64 (eA p q) (ar+16))
   | .max,[.c (.one (.v (.int .i64) p _ _)),.c (.one (.v (.int .i64) q _ _))]=>bY (iv .i64 (imax p q) (ar+16))
   | .max,[.c (.one (.v (.int .i64) p _ _)),.c (.one (.v (.int .i64) q _ _)),.c (.one (.v (.int .i64) r _ _))]=>bY (iv .i64 (imax (imax p q) r) (ar+16))
   | .max,[.c (.one (.v (.int .i64) p _ _)),.c (.one (.v (.int .i64) q _ _)),.c (.one (.v (.int .i64) r _ _)),.c (.one (.v (.int .i64) s _ _))]=>bY (iv .i64 (imax (imax (imax p q) r) s) (ar+16))
   | .min,[.c (.one (.v (.int .i64) p _ _)),.c (.one (.v (.int .i64) q _ _)),.c (.one (.v (.int .i64) r _ _))]=>bY (iv .i64 (eA (eA p q) r) (ar+16))
   | .clear,[.c (.one (.tail i n j))]=>match ts.toList with
     |[t]=>match aF T.dh t with
      |some (_,n')=>if aU n n' then .obj i λ
        | .sl n0 te xs K _=>if aU n0 n then .ret ⟨.dX [],[(i,aa (.sl n0 te (rO (T.zero n0) xs j) K (ar+16)))],[]⟩else .fail
        |_=> .fail
       else .fail
      |none=> .fail
     |_=> .fail
   | .copy,[.c (.one a),.c (.one x)]=>match ts.toList with
     |[t,t']=>if aU t t' then match aF T.dh t with
        |some (_,n)=>VO T ar n a x
        |none=> .fail
      else .fail
     |_=> .fail
   | .append,[.c (.one a),.c (.one x)]=>match ts.toList with
     |[t,t']=>if aU t t' then match aF T.dh t with
        |some (e,n)=>O_ T ar n e a x
        |none=> .fail
      else match aF T.dh t,aF T.ty t',a,x with
       |some (e,n),aa (.one (.int .i64)),.bF,.v (.int .i64) k _ _=> .part (Ah (T.zero n) k) λzs=> .ret ⟨.c (.one (.own ar)),[(ar,aa (.sl n e zs [] (ar+16)))],[]⟩
       |_,_,_,_=> .fail
     |_=> .fail
   | .cap,[.c (.one .bF)]=>match ts.toList with
     |[t]=>match aF T.dh t with
      |some _=>bY (iv .i64 0 (ar+16))
      |none=> .fail
     |_=> .fail
   |_,_=> .fail
 |_,_=> .fail
where EE:List (AV D)->Option (List (A0 D))
 |[]=>aa []
 | .c (.one (.ptr i off))::r=>match EE r with
   |some l=>aa (.ptr i off::l)
   |none=>ak
 | .c (.one (.rp n x off K))::r=>match EE r with
   |some l=>aa (.rp n x off K::l)
   |none=>ak
 |_=>ak
def aeC:P1->A1 D->Bool
 | .own _,.own _=>ab
 | .own _,.bF=>ab
 | .own _,_=>ai
 | .fn f _,.fn f' _=>aU f f'
 | .fn _ _,_=>ai
 | .ptr _ _,.ptr _ _=>ab
 | .ptr _ _,_=>ai
 | .bF,.bF=>ab
 | .bF,_=>ai
 |_,_=>ab
def Vc:List P1->List (A1 D)->Bool
 |p::ps,a::as=>aeC p a&&Vc ps as
 |_,_=>ab
def aw':PC->AV D->Bool
 | .one p,.c (.one a)=>aeC p a
 | .agg ps,.c (.agg l)=>Vc ps l
 |_,_=>ai
def aeB:List PC->List (AV D)->Bool
 |[],[]=>ab
 |p::ps,a::as=>aw' p a&&aeB ps as
 |_,_=>ai
def ar':AO D->Bool
 | .fz .. =>ab
 |_=>ai
def GQ:List P1->List (A1 D)->Q D Bool
 | .own _::ps,.own i::as=> .obj i λo=>if ar' o=ab then .ret ai else GQ ps as
 |_::ps,_::as=>GQ ps as
 |_,_=> .ret ab
def aCc(ob:List (Nat×PO)):P1->A1 D->Q D Bool
 | .ptr i _,.ptr j _=>match aF ob i with
   |some (.box ps)=> .obj j λo=>match o with
    | .box cs=>match Vc ps cs with
      |true=>GQ ps cs
      |false=> .ret ai
    |_=> .ret ab
   |_=> .ret ab
 |p,a=>GQ [p] [a]
def Si(ob:List (Nat×PO)):List PC->List (AV D)->Q D Bool
 | .one p::ps,.c (.one a)::as=>(aCc ob p a).bind λb=>if b=ab then Si ob ps as else .ret ai
 | .agg qs::ps,.c (.agg l)::as=>(GQ qs l).bind λb=>if b=ab then Si ob ps as else .ret ai
 |_,_=> .ret ab
def Iu:List (aA D)->Nat->List (AV D)->Q D (aA D)
 |[],_,_=> .fail
 |c::r,f,as=>if aU c.f f&&aeB c.args as then(Si c.ob c.args as).bind λb=>if b=ab then .ret c else Iu r f as else Iu r f as
def aA.EQ(c:aA D):Bool:=bN (c.jU.flatMap tV++c.b8.flatMap λp=>tU p.2) 0
def ir(known:List (Nat×Nat)):Nat->List (Nat×PO)->List (Nat×Nat)
 |_,[]=>[]
 |k,(p,_)::r=>match aF known p with
  |some i=>(p,i)::ir known k r
  |none=>(p,k)::ir known (k+1) r
def Ip(ids:List (Nat×Nat))(b8:List (Nat×PO)):List (Nat×Option (AO D)):=(ids.filter λp=> !(bN (b8.map bT) p.1)).map λp=>(p.2,ak)
def aaD:List (AC D)->AV D
 |[x]=> .c x
 |l=> .dX l
def E0:Nat->List (AC D)->List (Nat×AV D)
 |_,[]=>[]
 |k,a::r=>(k,.c a)::E0 (k+1) r
def yO(T:bc D)(c:aA D)(h:HH D c.ins):Option (S D):=
 let fl:=dH T c.ins h
 if eh fl.length 900&&c.ob.all (λp=>eh 1000 p.1&&dz p.1 1100)then
  match g9 T fl aa id 1100 c.args,jF T fl aa id 1100 c.ob with
  |some a,aa b=>aa ⟨E0 0 a,b,2000,[]⟩
  |_,_=>ak
 else ak
def Oe(T:bc D)(Φ:List (aA D))(ar f:Nat)(args:List (AV D)):Q D (cY D):=(Iu Φ f args).bind λc=>(Bp T ab 0 c.ins c.args c.ob [] ar args).bind λx=>if(c.EQ&& !x.2.ku.isEmpty)|| !(eh x.2.nf (ar+8))||(yO T c x.1).isNone then .fail else
     .part (c.fn x.1) λy=>
       let fl:=dH T c.outs y
       let ids:=ir x.2.ids (ar+8) c.b8
       let ri:=aF ids
       let rK:=λK=>(if bN K 0 then x.2.kr else [])++(if bN K 1 then [1]else [])
       match g9 T fl ri rK (ar+16) c.jU,jF T fl ri rK (ar+16) c.b8 with
       |some r,aa eQ=>if eh fl.length 112 then .ret ⟨aaD r,eQ++Ip x.2.ids c.b8,[]⟩else .fail
       |_,_=> .fail
def Od:A0 D->AV D
 | .ptr i off=> .c (.one (.ptr i off))
 | .rp n x off K=> .c (.one (.rp n x off K))
def Ad(T:bc D)(Φ:List (aA D))(ar:Nat)(o:Op)(as:List (AV D)):Q D (cY D):=match o with
 | .call {callee:= .value _,.. }=>match as with
   | .c (.one (.fn f jf))::as=>match dz f 1000000 with
     |true=>Oe T Φ ar f (as++jf.map Od)
     |false=>Oe T Φ ar (f-1000000) (jf.map Od++as)
   |_=> .fail
 |o=>De T ar o as
def Ed(lk:List Nat)(e:cY D):Bool:=qK (e.sq.map bT) lk&&qK e.fz lk
def zb(σ:S D)(dst:Option Nat)(e:cY D):S D:={σ with sl:=(match dst with|some d=>(d,e.dst)::σ.sl|none=>σ.sl),ob:=e.fz.map (λi=>(i,ak))++e.sq++σ.ob,nx:=σ.nx+128}
def uZ(σ:S D)(dst:Option Nat):S D:={σ with sl:=(match dst with|some d=>(d,.c (.one .undef))::σ.sl|none=>σ.sl),nx:=σ.nx+128}
structure Lg where
 i:Nat
 rd:List Nat
 wr:List Nat
def cY.wr(e:cY D):List Nat:=e.sq.map bT++e.fz
def zG(T:bc D)(Φ:List (aA D))(p:Nat)(o:aT)(σ:S D)(lg:List Lg){ρ:Type}(k:S D->List Lg->Option ρ):Option ρ:=match eR σ.sl o.op.operands.toList with
 |some as=>(Ad T Φ σ.nx o.op as).go σ.ob [] λe rd=>match Ed σ.lk e with
  |true=>k (zb σ o.dst e) (⟨p,rd,e.wr⟩::lg)
  |false=>ak
 |none=>ak
def guardOf(ops:List aT)(sl:List (Nat×AV D))(j:Nat):Option (Nat×AV D):=match ops[j]? with
 |some og=>match og.dst with
  |some d=>match aF sl d with
   |some a=>aa (d,a)
   |none=>ak
  |none=>ak
 |none=>ak
def lp(σ:S D)(d:Nat)(b:Bool)(K:List Nat)(g:Nat):S D:={σ with sl:=(d,.c (.one (.v .bool b K g)))::σ.sl}
def Ta:AV D->Bool
 | .c (.one .undef)=>ab
 |_=>ai
def je(T:bc D)(Φ:List (aA D))(ops:List aT){ρ:Type}:List aT->Nat->S D->List Lg->(S D->List Lg->Option ρ)->Option ρ
 |[],_,σ,lg,k=>k σ lg
 |o::r,p,σ,lg,k=>match o.guard with
  |none=>zG T Φ p o σ lg λσ lg=>je T Φ ops r (p+1) σ lg k
  |some (j,b)=>match guardOf ops σ.sl j with
   |none=>ak
   |some (d,a)=>match a with
    | .c (.one (.v .bool c K g))=>
      Ez c
       (match b with
         |true=>zG T Φ p o (lp σ d ab K g) lg λσ lg=>je T Φ ops r (p+1) σ lg k
         |false=>je T Φ ops r (p+1) (uZ (lp σ d ab K g) o.dst) lg k)
       (match b with
         |true=>je T Φ ops r (p+1) (uZ (lp σ d ai K g) o.dst) lg k
         |false=>zG T Φ p o (lp σ d ai K g) lg λσ lg=>je T Φ ops r (p+1) σ lg k)
    |a=>if Ta a then je T Φ ops r (p+1) (uZ σ o.dst) lg k else ak
def xG:S D->List Nat->Option (S D)
 |σ,[]=>aa σ
 |σ,i::r=>match dw σ.ob i with
  |some (.cZ n t _ _ xs g _)=>if bN σ.lk i then ak else xG {σ with ob:=(i,aa (.sl n t xs [1] g))::σ.ob} r
  |_=>ak
def qF:S D->List Nat->Option (S D)
 |σ,[]=>aa σ
 |σ,i::r=>match dw σ.ob i with
  |some o=>match BN o with
   |some (⟨.sl n,xs⟩,K)=>if bN σ.lk i then ak else qF {σ with ob:=(i,aa (.fz n xs (1::K)))::σ.ob} r
   |_=>ak
  |none=>ak
def oJ(l:List Nat)(σ:S D){ρ:Type}(k:S D->Option ρ):Option ρ:=match qF σ l with
 |some be=>k be
 |none=>ak
def dstsOf(l:List aT):List Nat:=l.filterMap (·.dst)
def vQ(T:bc D)(Φ:List (aA D))(ops:List aT):Sg->∀{ρ:Type},List aT->Nat->S D->(S D->Option ρ)->Option ρ
 | .nil,_,l,p,σ,k=>je T Φ ops l p σ [] λσ _=>k σ
 | .xG s b next,_,l,p,σ,k=>je T Φ ops (l.take (s-p)) p σ [] λaN _=>match xG aN b with
   |some bI=>vQ T Φ ops next (l.drop (s-p)) s bI k
   |none=>ak
 | .tN s m j inner next,_,l,p,σ,k=>je T Φ ops (l.take (s-p)) p σ [] λaN _=>
     let tN:=(l.drop (s-p)).take m
     let go:=λ{jl:Type} (σ:S D) (k:S D->Option jl)=>match tN with
      |o::_=>match o.guard with
       |some (i,b)=>match guardOf ops σ.sl i with
        |some (d,.c (.one (.v .bool c K g)))=>
         Ez c
          (match b with
            |true=>vQ T Φ ops inner tN s (lp σ d ab K g) k
            |false=>je T Φ ops tN s (lp σ d ab K g) [] λσ _=>k σ)
          (match b with
            |true=>je T Φ ops tN s (lp σ d ai K g) [] λσ _=>k σ
            |false=>vQ T Φ ops inner tN s (lp σ d ai K g) k)
        |_=>je T Φ ops tN s σ [] λσ _=>k σ
       |none=>vQ T Φ ops inner tN s σ k
      |[]=>ak
     wrap T (dstsOf tN) (aa (ab,[(.normal,j)])) (λσ k=>go σ (k .normal)) aN λ_ bI=>vQ T Φ ops next (l.drop (s-p+m)) (s+m) bI k
def bit(m i:Nat):Bool:=aU ((m>>>i)% 2) 1
def BR(acc:List Nat)(o:aT):Nat:=o.after.toList.foldl (λs e=>if Region.binds .any e then s|||(1<<<e.on)|||(acc.reverse.getD e.on 0)else s) 0
def jh:List aT->List Nat->List Nat
 |[],acc=>acc.reverse
 |o::r,acc=>jh r (BR acc o::acc)
def tmpsOf(ops:List aT)(o:aT):List Nat:=(o.op.operands.toList.filterMap λ| .tmp t=>aa t|_=>ak)++(match o.guard with
 |some (j,_)=>match ops[j]? with
  |some og=>og.dst.toList
  |none=>[]
 |none=>[])
def apart(ops:List aT)(a b:aT):Bool:=match a.dst with
 |none=>match b.dst with
  |none=>ab
  |some d=> !(bN (tmpsOf ops a) d)
 |some d=> !(bN (tmpsOf ops b) d)&&match b.dst with
  |none=>ab
  |some d'=> !(aU d d')&& !(bN (tmpsOf ops a) d')
def xM(ops:List aT)(an:List Nat):Nat->List aT->List (Nat×aT)->Bool
 |_,[],_=>ab
 |j,o::r,seen=>(seen.all λp=>bit (an.getD j 0) p.1||apart ops p.2 o)&&o.after.toList.all (λe=> !(Region.binds .any e)||dz e.on j)&&xM ops an (j+1) r ((j,o)::seen)
def Dm(a b:Lg):Bool:=qK a.wr b.rd&&qK b.wr a.rd&&qK a.wr b.wr
def yj(an:List Nat):List Lg->Bool
 |[]=>ab
 |a::r=>(r.all λb=>bit (an.getD a.i 0) b.i||Dm a b)&&yj an r
def VN(T:bc D)(Φ:List (aA D))(ops:List aT)(draw:Bool)(sg:Sg){ρ:Type}(σ:S D)(k:S D->Option ρ):Option ρ:=
 match draw with
 |true=>
  match xM ops (jh ops []) 0 ops []with
  |true=>je T Φ ops ops 0 σ [] λbe lg=>match yj (jh ops []) lg with
   |true=>k be
   |false=>ak
  |false=>ak
 |false=>vQ T Φ ops sg ops 0 σ k
def writes:bM->List Nat
 | .region _ ops _=>dstsOf ops.toList
 | .seq a b=>writes a++writes b
 | .cond _ a b=>writes a++writes b
 | .block _ a=>writes a
 | .loop a=>writes a
 | .scope a=>writes a
 | .rangeFunc _ ps a b=>ps.toList++writes a++writes b
 |_=>[]
def SM(T:bc D)(wr:List Nat)(j:J)(pr:Bool)(E:List (Out×J)){ρ:Type}(body:∀{jl:Type},S D->(Out->S D->Option jl)->Option jl)(σ:S D)(k:Out->S D->Option ρ):Option ρ:=
 let mv:=j.mv++rn E
 let lk:=(kept σ mv).map bT++σ.lk
 qH T j {σ with lk:=lk} λh0=>
  nD (aJ (σ:=HH D j.cM) (ρ:=v7 D pr ρ E) (λh=>match lB T j wr mv σ h with
   |some cj=>body {cj with lk:=lk} λo aN=>match o with
    | .normal=>qH T j aN λh'=>aa (.inl h')
    |o=>match toE T pr E o aN (k o {aN with lk:=σ.lk})with
     |some x=>aa (.inr x)
     |none=>ak
   |none=>ak) h0) λx=>sS T pr wr mv σ k E x
def Ax:bM->Option Nat
 | .label l=>aa l
 |_=>ak
def xL:bM->Option (Nat×bM)
 | .label l=>aa (l,.skip)
 | .seq a b=>match Ax a with
   |some l=>aa (l,b)
   |none=>xL b
 |_=>ak
def iW(c:bM):Bool:=(xL c).isNone
def gE:bM->Bool
 | .seq a b=>(match Ax a with
   |some _=>iW b
   |none=>iW a&&gE a)&&gE b
 | .cond _ a b=>iW a&&iW b&&gE a&&gE b
 | .block _ a=>iW a&&gE a
 | .loop a=>iW a&&gE a
 | .scope a=>gE a
 |_=>ab
def kS:bM->Bool
 | .seq a b=>kS a&&kS b
 | .cond _ a b=>kS a&&kS b
 | .block _ a=>kS a
 | .loop a=>kS a
 | .scope _=>ai
 |_=>ab
def fS(T:bc D)(Φ:List (aA D)):bM->An->∀{ρ:Type},S D->(Out->S D->Option ρ)->Option ρ
 | .skip,_,_,σ,k=>k .normal σ
 | .region _ ops draw,an,_,σ,k=>wrap T (dstsOf ops.toList) an.cut (λσ k=>VN T Φ ops.toList draw an.sg σ (k .normal)) σ k
 | .seq a b,an,_,σ,k=>wrap T (writes (.seq a b)) an.cut (λσ k=>oJ an.a.fz σ λσ=>fS T Φ a an.a.un σ λo be=>match o with
     | .normal=>oJ an.b.fz be λσ=>fS T Φ b an.b.un σ k
     |o=>k o be) σ k
 | .cond c a b,an,_,σ,k=>wrap T (writes (.cond c a b)) an.cut (λσ k=>match eT σ.sl c with
     |some (.c (.one (.v .bool d _ _)))=>Ez d (oJ an.a.fz σ λσ=>fS T Φ a an.a.un σ k) (oJ an.b.fz σ λσ=>fS T Φ b an.b.un σ k)
     |_=>ak) σ k
 | .block id a,an,_,σ,k=>wrap T (writes a) an.cut (λσ k=>oJ an.a.fz σ λσ=>fS T Φ a an.a.un σ λo be=>match o with
     | .exit Ay=>match aU Ay id with
       |true=>k .normal be
       |false=>k o be
     |o=>k o be) σ k
 | .exit id,_,_,σ,k=>k (.exit id) σ
 | .ret,_,_,σ,k=>k .ret σ
 | .scope a,an,_,σ,k=>wrap T (writes a) an.cut (λσ k=>oJ an.a.fz σ λσ=>fS T Φ a an.a.un σ λo be=>match o with
     | .goto _=>ak
     |o=>k o be) σ k
 | .goto l,_,_,σ,k=>k (.goto l) σ
 | .loop a,.loop j pr E x,_,σ,k=>SM T (writes a) j pr E (λσ k=>oJ x.fz σ λσ=>fS T Φ a x.un σ k) σ k
 |_,_,_,_,_=>ak
def C5(T:bc D)(sl:List (Nat×AV D)):List li->Q D (List (AV D))
 |[]=> .ret []
 | .tmp t::r=>match aF sl t with
   |some a=>(C5 T sl r).bind λl=> .ret (a::l)
   |none=> .fail
 | .cell t ty::r=>match aF sl t,aF T.ty ty with
   |some (.c (.one (.ptr i off))),aa ty=> .obj i λ
    | .box cs=>match yT ty T cs off with
      |some a=>(C5 T sl r).bind λl=> .ret (a::l)
      |none=> .fail
    |_=> .fail
   |_,_=> .fail
def stay(c:aA D):List (Nat×Nat):=(c.b8.filter λp=>bN (c.ob.map bT) p.1).map λp=>(p.1,p.1)
def u6(T:bc D)(c:aA D)(rs:List li):Out->S D->Option (HH D c.outs)
 | .ret,σ=>fin σ
 | .normal,σ=>fin σ
 |_,_=>ak
where fin (σ:S D):Option (HH D c.outs):=(C5 T σ.sl rs).go σ.ob [] λfm _=>
 (Bp T ai 0 c.outs c.jU c.b8 (stay c) σ.nx fm).go σ.ob [] λx _=>match g9 T (dH T c.outs x.1) aa id 3000 c.jU,jF T (dH T c.outs x.1) aa id 3000 c.b8 with
   |some _,aa _=>aa x.1
   |_,_=>ak
def KO(T:bc D)(Φ:List (aA D))(c:aA D)(rs:List li)(code:bM)(an:An)(h:HH D c.ins):Option (HH D c.outs):=match iW code&&gE code with
 |true=>match yO T c h with
  |some σ=>oJ an.fz σ λσ=>fS T Φ code an.un σ (u6 T c rs)
  |none=>ak
 |false=>ak
