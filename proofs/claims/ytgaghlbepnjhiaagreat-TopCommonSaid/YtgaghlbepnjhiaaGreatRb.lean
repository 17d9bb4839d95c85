import Derived.Test.YtgaghlbepnjhiaaGreatRa
set_option linter.all false
open Bool renaming false->ae,true->ab
open ByteArray renaming empty->tz
open Go renaming Code->bO,Oper->aV,Operand->ba,ResultVar->lT
open Nat renaming beq->aW,ble->eN,blt->dJ
open Option renaming some->aa
open Prod renaming fst->bV
noncomputable section
namespace Go.Proofs.YtgaghlbepnjhiaaGreat
open Go Dp
namespace Rx
section
variable {D:Nat->Type}
def iv(k:IntKind)(n:Int)(g:Nat):AV D:= .c (.one (.v (.int k) n [] g))
def bv(b:Bool)(g:Nat):AV D:= .c (.one (.v .bool b [] g))
def WH:Value->Option (AV D)
 | .int k n=>aa (iv k n 0)
 | .bool b=>aa (bv b 0)
 | .string s=>aa (.c (.one (.v .str s [] 0)))
 | .slice none 0 0=>aa (.c (.one .bH))
 | .pointer none=>aa (.c (.one .sF))
 | .nilFunc=>aa (.c (.one .DM))
 | .map none=>aa (.c (.one .zS))
 |_=>none
def eY(sl:List (Nat×AV D)):ba->Option (AV D)
 | .tmp t=>aF sl t
 | .const v=>WH v
 | .func f=>if dJ f 1000000 then aa (.c (.one (.fn f [])))else none
 | .global _=>none
def eX(sl:List (Nat×AV D)):List ba->Option (List (AV D))
 |[]=>aa []
 |x::r=>match eY sl x,eX sl r with
  |some a,aa b=>aa (a::b)
  |_,_=>none
def bZ(a:AV D):Q D (de D):= .ret ⟨a,[],[]⟩
def lc.n(T:bc D):lc->Nat
 | .one _| .ptr| .fn=>1
 | .st n=>(T.lv n).length
def lc.agg:lc->Bool
 | .st _=>ab
 |_=>ae
def cellsD(K:List Nat):Nat->List (DV D)->List (A1 D)
 |_,[]=>[]
 |g,⟨l,d⟩::r=> .v l d (AK K l) g::cellsD K (g+1) r
def wm(T:bc D):lc->Option (List (A1 D))
 | .one (.int k)=>aa [.v (.int k) (0:Int) [] 0]
 | .one .bool=>aa [.v .bool ae [] 0]
 | .one .str=>aa [.v .str tz [] 0]
 | .one (.sl _)=>aa [.bH]
 | .st n=>aa (BT (T.lv n))
 | .ptr=>aa [.sF]
 | .fn=>aa [.DM]
where BT:List Lf->List (A1 D)
 |[]=>[]
 |l::r=>(match l with| .int k=> .v (.int k) (0:Int) [] 0| .bool=> .v .bool ae [] 0| .str=> .v .str tz [] 0| .sl _=> .bH)::BT r
def vq(g:Bool)(l:List (A1 D)):Option (AV D):=if g then aa (.c (.agg l))else match l with
 |[a]=>aa (.c (.one a))
 |_=>none
def cellsOf:AV D->Option (List (A1 D))
 | .c (.one a)=>aa [a]
 | .c (.agg l)=>aa l
 | .dY _=>none
def ze(ty:lc)(T:bc D)(cs:List (A1 D))(off:Nat):Option (AV D):=
 if eN (off+ty.n T) cs.length then vq ty.agg ((cs.drop off).take (ty.n T))else none
def C6(cs us:List (A1 D))(off:Nat):Option (List (A1 D)):=
 if eN (off+us.length) cs.length&&us.all storable then aa (cs.take off++us++cs.drop (off+us.length))else none
def vi(ls:List Lf):List (A1 D)->Q D (List (DV D)×List Nat×List Nat)
 |[]=> .ret ([],[],[])
 |a::r=>match ls with
  |[]=> .fail
  |l::MS=>match a with
   | .v l' d K _=>(vi MS r).bind λx=> .ret (⟨l',d⟩::x.1,K++x.2.1,x.2.2)
   | .bH=>match l with
     | .sl n=>(vi MS r).bind λx=> .ret (⟨.sl n,[]⟩::x.1,x.2.1,x.2.2)
     |_=> .fail
   | .own j=> .obj j λo=>match PS o with
     |some (d,K)=>(vi MS r).bind λx=> .ret (d::x.1,K++x.2.1,x.2.2)
     |none=>match B7 o with
      |some (d,K)=>(vi MS r).bind λx=> .ret (d::x.1,1::K++x.2.1,j::x.2.2)
      |none=> .fail
   |_=> .fail
def VW(g:Bool):AV D->Bool
 | .c (.one _)=> !g
 | .c (.agg _)=>g
 | .dY _=>ae
def SP(T:bc D)(n:Nat)(a:AV D):Q D (D n×List Nat×List Nat):=if VW (T.ag n) a then match cellsOf a with
 |some cs=>(vi (T.lv n) cs).bind λx=>match T.jf n x.1 with
  |some y=> .ret (y,x.2)
  |none=> .fail
 |none=> .fail
 else .fail
def vh(T:bc D)(n:Nat):List (AV D)->Q D (List (D n)×List Nat×List Nat)
 |[]=> .ret ([],[],[])
 |a::r=>(SP T n a).bind λx=>(vh T n r).bind λy=> .ret (x.1::y.1,x.2.1++y.2.1,x.2.2++y.2.2)
def Hd(n:Nat):A1 D->Q D (List (D n)×List Nat)
 | .v (.sl n') xs K _=>if h:n'=n then .ret (h▸xs,K)else .fail
 | .bH=> .ret ([],[])
 | .own j=> .obj j λ
   | .sl n' _ xs K _=>if h:n'=n then .ret (h▸xs,K)else .fail
   | .fz n' xs K=>if h:n'=n then .ret (h▸xs,K)else .fail
   |_=> .fail
 | .tail j n' k=> .obj j λ
   | .sl n0 _ xs K _=>if aW n0 n' then(if h:n0=n then .ret (h▸uz xs k,K)else .fail)else .fail
   |_=> .fail
 | .pre j n' k=> .obj j λ
   | .sl n0 _ xs K _=>if aW n0 n' then(if h:n0=n then .ret (h▸C2 xs k,K)else .fail)else .fail
   |_=> .fail
 |_=> .fail
def TO:A1 D->Q D Int
 | .v (.sl _) xs _ _=> .ret (len xs)
 | .ch _ _ _ _ _ _ d=> .ret (len d)
 | .bH=> .ret 0
 | .own j=> .obj j λ
   | .sl _ _ xs _ _=> .ret (len xs)
   | .df _ _ _ _ xs _ _=> .ret (len xs)
   | .fz _ xs _=> .ret (len xs)
   |_=> .fail
 | .tail i n j=> .obj i λ
   | .sl n' _ xs _ _=>if aW n' n then .ret (ac4 (len xs) j)else .fail
   |_=> .fail
 |_=> .fail
def X2(op:BinOp)(g:Nat)(k k':IntKind)(a b:Int):Q D (de D):=match op with
 | .shr=> .part (wI k.bits a b) λc=>bZ (iv k c g)
 |op=>if k=k' then match op with
   | .add=>bZ (iv k (rA k (HD a b)) g)
   | .sub=>bZ (iv k (rA k (ac4 a b)) g)
   | .mul=>bZ (iv k (rA k (atF a b)) g)
   | .and=>bZ (iv k (Ue k a b) g)
   | .eql=>bZ (bv (M8 a b) g)
   | .neq=>bZ (bv (ine a b) g)
   | .lss=>bZ (bv (ilt a b) g)
   | .leq=>bZ (bv (ile a b) g)
   | .gtr=>bZ (bv (igt a b) g)
   | .geq=>bZ (bv (ige a b) g)
   |_=> .fail
  else .fail
def RB(op:BinOp)(g:Nat)(a b:ByteArray):Q D (de D):=match op with
 | .add=> .part (LM a b) λc=>bZ (.c (.one (.v .str c [] g)))
 | .eql=>bZ (bv (Ds a b) g)
 | .neq=>bZ (bv (Fp (Ds a b)) g)
 |_=> .fail
def X1(op:BinOp)(g:Nat):AV D->AV D->Q D (de D)
 | .c (.one (.v (.int k) a _ _)),.c (.one (.v (.int k') b _ _))=>match k,k' with
   | .i64,.i64=>match op with
     | .add=>bZ (iv .i64 (atM a b) g)
     | .sub=>bZ (iv .i64 (atf a b) g)
     | .mul=>bZ (iv .i64 (atG a b) g)
     | .quo=> .part (nJ a b) λc=>bZ (iv .i64 c g)
     | .rem=> .part (lA a b) λc=>bZ (iv .i64 c g)
     | .eql=>bZ (bv (M8 a b) g)
     | .neq=>bZ (bv (ine a b) g)
     | .lss=>bZ (bv (ilt a b) g)
     | .leq=>bZ (bv (ile a b) g)
     | .gtr=>bZ (bv (igt a b) g)
     | .geq=>bZ (bv (ige a b) g)
     | .shr=> .part (wI 64 a b) λc=>bZ (iv .i64 c g)
     |_=> .fail
   |k,k'=>X2 op g k k' a b
 | .c (.one (.v .str a _ _)),.c (.one (.v .str b _ _))=>RB op g a b
 |_,_=> .fail
def X3(op:BinOp)(g:Nat)(a b:Bool):Q D (de D):=match op with
 | .eql=>bZ (bv (beq' a b) g)
 | .neq=>bZ (bv (Fp (beq' a b)) g)
 |_=> .fail
def Tf(T:bc D)(t i:Nat):Option Nat:=match aF T.uu t with
 |some l=>match l[i]? with
  |some p=>aa p.1
  |none=>none
 |none=>none
def TI(i n:Nat)(j:Int)(off t tc q:Nat)(xs:List (D n))(gx ht g:Nat):DV D->Q D (de D)
 |⟨.sl m,d⟩=>if aW m q then(if aW ht 0 then .ret ⟨.c (.one (.ch i n j off (g+1) m d)),[(i,aa (.df n t tc q xs gx (g+1)))],[]⟩else bZ (.c (.one (.ch i n j off ht m d))))else .fail
 |⟨l,d⟩=>bZ (.c (.one (.v l d [] g)))
def Mt:lc->Bool
 | .one _=>ab
 |_=>ae
def TH(T:bc D)(g:Nat)(ty:lc):A1 D->Q D (de D)
 | .ptr i off=> .obj i λ
   | .box cs=>match ze ty T cs off with
     |some a=>bZ a
     |none=> .fail
   |_=> .fail
 | .rp n x off K=>match ze ty T (cellsD K g (T.out n x)) off with
   |some a=>bZ a
   |none=> .fail
 | .el i n j y off tc tj=> .obj i λ
   | .sl n' _ xs K g'=>if aW g' tc then match ze ty T (cellsD K g (T.out n y)) off with
       |some a=>bZ a
       |none=> .fail
     else if aW n n' then .part (idx xs j) λy=>match ze ty T (cellsD K g (T.out n' y)) off with
      |some a=>bZ a
      |none=> .fail
     else .fail
   | .df n' t c q xs g' ht=>if aW n n'&&Mt ty then .part (idx xs j) λy=>match(T.out n' y)[off]? with
       |some x=>TI i n' j off t c q xs g' ht g x
       |none=> .fail
     else .fail
   |_=> .fail
 |_=> .fail
def aaE(T:bc D)(g:Nat)(ty:lc)(a:AV D):A1 D->Q D (de D)
 | .ptr i off=> .obj i λ
   | .box cs=>match cellsOf a with
     |some us=>if aW us.length (ty.n T)then match C6 cs us off with
       |some jm=> .ret ⟨.c (.one .undef),[(i,aa (.box jm))],[]⟩
       |none=> .fail
      else .fail
     |none=> .fail
   |_=> .fail
 | .el i n j y off tc tj=> .obj i λ
   | .sl n' t xs K g'=>match cellsOf a with
     |some us=>if aW us.length (ty.n T)&&aW n n'&&eN (off+us.length) (T.lv n').length then(vi ((T.lv n').drop off) us).bind λx=>
       .part (idx xs j) λy=>match T.jf n' ((T.out n' y).take off++x.1++(T.out n' y).drop (off+x.1.length))with
         |some z=>if bP x.2.2 i then .fail else .part (dq xs j z) λzs=> .ret ⟨.c (.one .undef),[(i,aa (.sl n' t zs (x.2.1++K) g))],x.2.2⟩
         |none=> .fail
      else .fail
     |none=> .fail
   | .iH n' t' xX q xs j' vr s gx=>match a with
     | .c (.one (.zh i' s'))=>if aW i i'&&aW s s'&&aW n n'&&aW off vr&&Mt ty then .part (y7 j j') λ_=> .ret ⟨.c (.one .undef),[(i,aa (.df n' t' xX q xs gx 0))],[]⟩else .fail
     |_=> .fail
   |_=> .fail
 |_=> .fail
def Ub(m:Nat)(j:Int)(tj:Nat):A1 D->Q D (de D)
 | .v (.sl n) xs K _=>if aW n m then .part (idx xs j) λy=>bZ (.c (.one (.rp n y 0 K)))else .fail
 | .own i=> .obj i λ
   | .sl n _ xs _ tc=>if aW n m&& !(aW tc 0)then .part (idx xs j) λy=>bZ (.c (.one (.el i n j y 0 tc tj)))else .fail
   | .df n _ _ _ xs tc _=>if aW n m&& !(aW tc 0)then .part (idx xs j) λy=>bZ (.c (.one (.el i n j y 0 tc tj)))else .fail
   | .iH n _ _ _ xs _ _ _ tc=>if aW n m&& !(aW tc 0)then .part (idx xs j) λy=>bZ (.c (.one (.el i n j y 0 tc tj)))else .fail
   | .fz n xs K=>if aW n m then .part (idx xs j) λy=>bZ (.c (.one (.rp n y 0 K)))else .fail
   |_=> .fail
 | .bH=> .part (none:Option (D m)) λy=>bZ (.c (.one (.rp m y 0 [])))
 | .tail i n0 j0=> .obj i λ
   | .sl n _ xs _ tc=>if aW n m&&aW n n0&& !(aW tc 0)then .part (idx (uz xs j0) j) λy=>bZ (.c (.one (.el i n (HD j0 j) y 0 tc 0)))else .fail
   |_=> .fail
 |_=> .fail
def yt(T:bc D)(l:List (Nat×Nat)):List (A1 D)->List (Nat×ba)->List (AV D)->Option (List (A1 D))
 |cs,[],[]=>aa cs
 |cs,(i,_)::r,a::as=>match l[i]?,cellsOf a with
  |some (off,sz),aa us=>if aW us.length sz then match C6 cs us off with
    |some jm=>yt T l jm r as
    |none=>none
   else none
  |_,_=>none
 |_,_,_=>none
def ye:Nat->List (Nat×ba)->Bool
 |_,[]=>ab
 |k,(i,_)::r=>aW i k&&ye (k+1) r
def ac9(T:bc D)(n tc q:Nat):Bool:=match aF T.kd n with
 |some p=>aW p.1 tc&&aW p.2 q
 |none=>ae
def jE:Lf->Bool
 | .sl _=>ae
 |_=>ab
def vR(T:bc D)(n:Nat)(K:List Nat):List Nat:=match(T.lv n).all jE with
 |true=>[]
 |false=>K
def PY(T:bc D)(ar n t:Nat)(a x:A1 D):Q D (de D):=(Hd n x).bind λy0=>akI (y0.1,vR T n y0.2)
where akI (ys:List (D n)×List Nat):Q D (de D):=match a with
 | .own i=> .obj i λ
   | .sl n' t' xs K _=>if h:n'=n then(if aW t' t then .part (bD (h▸xs) ys.1) λzs=> .ret ⟨.c (.one (.own ar)),[(ar,aa (.sl n t zs (ys.2++K) (ar+16))),(i,none)],[]⟩else .fail)else .fail
   |_=> .fail
 | .bH=> .part (bD [] ys.1) λzs=> .ret ⟨.c (.one (.own ar)),[(ar,aa (.sl n t zs ys.2 (ar+16)))],[]⟩
 | .pre i e j=> .obj i λ
   | .sl n' t' xs K _=>if h:n'=n then(if aW t' t&&aW n' e then .part (bD (h▸C2 xs j) ys.1) λzs=> .ret ⟨.c (.one (.own ar)),[(ar,aa (.sl n t zs (ys.2++K) (ar+16))),(i,none)],[]⟩else .fail)else .fail
   |_=> .fail
 | .ch i e j off ct m _=> .obj i λ
   | .df e' te tc q xs _ ht=>if aW e e'&&aW ct ht&& !(aW ht 0)&&aW m q&&aW tc t&&aW q n&&ac9 T e' tc q then .part (idx xs j) λy=>match(T.out e' y)[off]? with
       |some ⟨.sl m',d⟩=>if h:m'=n then .part (bD (h▸d) ys.1) λzs=>match T.jf e' ((T.out e' y).set off ⟨.sl n,zs⟩)with
         |some y'=> .part (dq xs j y') λwA=> .ret ⟨.c (.one (.zh i ar)),[(i,aa (.iH e' te tc q wA j off ar (ar+16)))],[]⟩
         |none=> .fail
        else .fail
       |_=> .fail
     else .fail
   |_=> .fail
 |_=> .fail
def OV(T:bc D)(ar n i:Nat)(j:Int)(ys:List (D n)×List Nat):Q D (de D):= .obj i λ
 | .sl n' t xs K _=>if h:n'=n then .ret ⟨iv .i64 (WD (len xs) j (len ys.1)) 0,[(i,aa (.sl n t (afV (h▸xs) j ys.1) (ys.2++K) (ar+16)))],[]⟩else .fail
 |_=> .fail
def WG(T:bc D)(ar n:Nat)(a x:A1 D):Q D (de D):=(Hd n x).bind λy0=>match a with
 | .own i=>OV T ar n i 0 (y0.1,vR T n y0.2)
 | .tail i n' j=>if aW n' n then OV T ar n i j (y0.1,vR T n y0.2)else .fail
 |_=> .fail
def zo(d:Int):Option ba->List (AV D)->Q D (Int×List (AV D))
 |none,as=> .ret (d,as)
 |some _,.c (.one (.v (.int .i64) l _ _))::as=> .ret (l,as)
 |some _,_=> .fail
def tK(g m:Nat)(lo hi:Option ba)(n:Nat)(xs:List (D n))(K:List Nat)(as:List (AV D)):Q D (de D):=
 if aW n m then(zo 0 lo as).bind λl=>(zo (len xs) hi l.2).bind λh=>match h.2 with
  |[]=> .part (dH xs l.1 h.1) λzs=>bZ (.c (.one (.v (.sl n) zs K g)))
  |_=> .fail
  else .fail
def Sh(fl fq:Bool)(ar g m:Nat)(lo hi:Option ba)(a:A1 D)(as:List (AV D)):Q D (de D):=match a with
 | .v (.sl n) xs K _=>tK g m lo hi n xs K as
 | .bH=>(zo 0 lo as).bind λl=>(zo 0 hi l.2).bind λh=>match h.2 with
   |[]=> .part (dH ([]:List Unit) l.1 h.1) λ_=>bZ (.c (.one .bH))
   |_=> .fail
 | .own i=> .obj i λ
   | .fz n xs K=>tK g m lo hi n xs K as
   | .sl n t xs K _=>match lo with
     |none=>if aW n m then(zo (len xs) hi as).bind λh=>match h.2 with
       |[]=>match fl with
        |true=> .part (dH xs 0 h.1) λ_=>bZ (.c (.one (.pre i n h.1)))
        |false=> .part (dH xs 0 h.1) λzs=> .ret ⟨.c (.one (.own ar)),[(ar,aa (.sl n t zs K (ar+16))),(i,none)],[]⟩
       |_=> .fail
      else .fail
     |some _=>match hi with
      |none=>if aW n m then(zo 0 lo as).bind λl=>match l.2 with
        |[]=>match fq with
         |false=> .part (dH xs l.1 (len xs)) λ_=>bZ (.c (.one (.tail i n l.1)))
         |true=> .part (dH xs l.1 (len xs)) λzs=> .ret ⟨.c (.one (.own ar)),[(ar,aa (.sl n t zs K (ar+16))),(i,none)],[]⟩
        |_=> .fail
       else .fail
      |some _=> .fail
   |_=> .fail
 |_=> .fail
def ET:List (A1 D)->Option (List (DV D))
 |[]=>aa []
 | .v l d _ _::r=>match ET r with
   |some x=>aa (⟨l,d⟩::x)
   |none=>none
 |_=>none
def BO:DV D->DV D->Bool
 |⟨.int _,a⟩,⟨.int _,b⟩=>M8 a b
 |⟨.bool,a⟩,⟨.bool,b⟩=>beq' a b
 |⟨.str,a⟩,⟨.str,b⟩=>Ds a b
 |_,_=>ae
def uy:List (DV D)->List (DV D)->Bool
 |[],_=>ab
 |x::xs,ys=>match xs,ys with
  |[],y::_=>BO x y
  |x'::wA,y::ys'=>PR (BO x y) (uy (x'::wA) ys')
  |_,[]=>ab
def V_(op:BinOp)(g:Nat)(ls:List Lf)(p q:List (A1 D)):Q D (de D):=match ET p,ET q with
 |some xs,aa ys=>if xs.map DV.l=ls∧ys.map DV.l=ls then match op with
   | .eql=>bZ (bv (uy xs ys) g)
   | .neq=>bZ (bv (Fp (uy xs ys)) g)
   |_=> .fail
  else .fail
 |_,_=> .fail
def M3(T:bc D):AV D->Option (List (DV D)×Bool)
 | .c (.one (.tt n xs _))=>aa (xs.flatMap (T.out n),ab)
 | .c (.one (.v l d _ _))=>aa ([⟨l,d⟩],ae)
 | .c (.agg cs)=>match ET cs with
   |some x=>aa (x,ab)
   |none=>none
 |_=>none
def jW:List (DV D)->List (DV D)->Bool
 |x::r,y::s=>match s with
  |[]=>BO x y
  |_::_=>PR (BO x y) (jW r s)
 |_,_=>ab
def zG:(l:Lf)->l.den D
 | .int _=>(0:Int)
 | .bool=>ae
 | .str=>tz
 | .sl _=>[]
def yC(l:Lf):List (DV D)->l.den D
 |[]=>zG l
 |⟨l',d⟩::r=>match r with
  |[]=>if h:l'=l then h▸d else zG l
  |_::_=>yC l r
def yD:List Lf->Option Lf
 |[]=>none
 |l::r=>match r with
  |[]=>aa l
  |_::_=>yD r
def M2(T:bc D)(n:Nat)(ks:List (DV D))(g:Bool):Bool:=decide (ks.map DV.l=(T.lv n).dropLast)&&(match ks with|[_]=> !g|_=>g)
def Tt(T:bc D)(n g:Nat)(ok:Bool)(a k:AV D):Q D (de D):=match a,M3 T k with
 | .c (.one (.own i)),aa (ks,kg)=> .obj i λ
   | .mp n' xs=>if aW n n'&&M2 T n' ks kg then match yD (T.lv n')with
       |some l=>match ok with
        |false=>bZ (.c (.one (.v l (ry (λx=>jW (T.out n' x) ks) (λx=>yC l (T.out n' x)) (zG l) xs) [] g)))
        |true=>bZ (.dY [.one (.v l (ry (λx=>jW (T.out n' x) ks) (λx=>yC l (T.out n' x)) (zG l) xs) [] g),.one (.v .bool (sG (λx=>jW (T.out n' x) ks) xs) [] (g+1))])
       |none=> .fail
     else .fail
   |_=> .fail
 |_,_=> .fail
def MG(T:bc D)(n:Nat)(a k u:AV D):Q D (de D):=match a,M3 T k,u with
 | .c (.one (.own i)),aa (ks,kg),.c (.one (.v l d _ _))=> .obj i λ
   | .mp n' xs=>if aW n n'&&M2 T n' ks kg then match T.jf n' (ks++[⟨l,d⟩])with
       |some z=> .ret ⟨.c (.one .undef),[(i,aa (.mp n' (tP (λx=>jW (T.out n' x) ks) z xs)))],[]⟩
       |none=> .fail
     else .fail
   |_=> .fail
 |_,_,_=> .fail
def G1:ba->ba->Bool
 | .tmp a,.tmp b=>aW a b
 | .const (.int .i64 a),.const (.int .i64 b)=>decide (a=b)
 |_,_=>ae
def DN(T:bc D)(n:Nat)(h:T.lv n=[.int .u8])(b:Int):D n:=T.AA n (h▸(b:HL D [.int .u8]))
def tI(T:bc D)(n:Nat)(h:T.lv n=[.int .u8])(x:D n):Int:=(h▸T.DI n x:HL D [.int .u8])
def loC:Option ba->Bool
 |some (.const _)=>ab
 |_=>ae
def abV(t:TypeId):ba->Nat
 | .tmp i=>t*4096+i
 |_=>0
def DJ(T:bc D)(ar:Nat):Op->List (AV D)->Q D (de D)
 | .move _,[a]=>bZ a
 | .assign _,[a]=>bZ a
 | .pick _ _ _,[c,a,b]=>match c with
   | .c (.one (.v .bool d _ _))=>if d=ab then bZ a else bZ b
   |_=> .fail
 | .binOp op t _ _ _,[a,b]=>match a,b with
   | .c (.agg p),.c (.agg q)=>match aF T.BK t with
     |some n=>V_ op (ar+16) n p q
     |none=> .fail
   | .c (.one (.v .bool p _ _)),.c (.one (.v .bool q _ _))=>match aF T.ty t with
     |some (.one .bool)=>X3 op (ar+16) p q
     |_=> .fail
   | .c (.one (.vb _ _ _ _ p)),.c (.one .bH)=>match aF T.dp t with
     |some _=>match op with
      | .eql=>bZ (bv p (ar+16))
      | .neq=>bZ (bv (Fp p) (ar+16))
      |_=> .fail
     |none=> .fail
   |a,b=>X1 op (ar+16) a b
 | .unOp .not _ _,[a]=>match a with
   | .c (.one (.v .bool b _ _))=>bZ (bv (Fp b) (ar+16))
   |_=> .fail
 | .unOp .neg _ _,[a]=>match a with
   | .c (.one (.v (.int .i64) n _ _))=>bZ (iv .i64 (atv n) (ar+16))
   |_=> .fail
 | .nilCheck _,[a]=>match a with
   | .c (.one (.ptr i off))=>bZ a
   | .c (.one (.rp n x off K))=>bZ a
   | .c (.one (.el i n j y off tc tj))=>bZ a
   |_=> .fail
 | .extract _ i,[a]=>match a with
   | .dY l=>match l[i]? with
     |some x=>bZ (.c x)
     |none=> .fail
   |_=> .fail
 | .fieldAddr t _ i,[a]=>match Tf T t i,a with
   |some o,.c (.one (.ptr j off))=>bZ (.c (.one (.ptr j (off+o))))
   |some o,.c (.one (.rp n x off K))=>bZ (.c (.one (.rp n x (off+o) K)))
   |some o,.c (.one (.el j n k y off tc tj))=>bZ (.c (.one (.el j n k y (off+o) tc tj)))
   |_,_=> .fail
 | .load t _,[a]=>match aF T.ty t,a with
   |some ty,.c (.one p)=>TH T (ar+16) ty p
   |_,_=> .fail
 | .store t _ _,[p,a]=>match aF T.ty t,p with
   |some ty,.c (.one p)=>aaE T (ar+16) ty a p
   |_,_=> .fail
 | .box _ _,[a]=>match cellsOf a with
   |some cs=>if cs.all storable then .ret ⟨.c (.one (.ptr ar 0)),[(ar,aa (.box cs))],[]⟩else .fail
   |none=> .fail
 | .alloc t,[]=>match aF T.ty t with
   |some ty=>match wm T ty with
    |some cs=> .ret ⟨.c (.one (.ptr ar 0)),[(ar,aa (.box cs))],[]⟩
    |none=> .fail
   |none=> .fail
 | .build t ps,as=>match aF T.qV t with
   |some (m,e,n)=>if ye 0 ps.toList&&aW ps.toList.length m then(vh T n as).bind λx=>match aF T.ty t with
     |some (.st _)=>if x.2.2.isEmpty&&eN (x.1.flatMap (T.out n)).length 112 then bZ (.c (.agg (cellsD x.2.1 (ar+16) (x.1.flatMap (T.out n)))))else .fail
     |_=> .ret ⟨.c (.one (.tt n x.1 x.2.1)),[],x.2.2⟩
    else .fail
   |none=>match aF T.ty t,aF T.uu t with
    |some (.st n),aa l=>match yt T l (wm.BT (T.lv n)) ps.toList as with
     |some cs=>bZ (.c (.agg cs))
     |none=> .fail
    |_,_=> .fail
 | .index t _ _,[a,i]=>match aF T.qV t,a,i with
   |some (m,e,n),.c (.one (.tt n' xs K)),.c (.one (.v (.int .i64) j _ _))=>if aW n n'&&aW xs.length m then .part (idx xs j) λy=>match vq (T.ag n') (cellsD K (ar+16) (T.out n' y))with
     |some r=>bZ r
     |none=> .fail
    else .fail
   |some (m,e,n),.c (.agg cs),.c (.one (.v (.int .i64) j _ _))=>if T.ag n then .fail else(vh T n (cs.map λc=> .c (.one c))).bind λx=>if x.2.2.isEmpty&&aW x.1.length m then .part (idx x.1 j) λy=>match vq (T.ag n) (cellsD x.2.1 (ar+16) (T.out n y))with
     |some r=>bZ r
     |none=> .fail
    else .fail
   |none,.c (.one (.v .str s _ _)),.c (.one (.v (.int _) j _ _))=>match aF T.ty t with
    |some (.one .str)=> .part (LK s j) λb=>bZ (iv .u8 b (ar+16))
    |_=> .fail
   |_,_,_=> .fail
 | .buildSlice t m ps,as=>match aF T.dp t with
   |some (e,n)=>if ye 0 ps.toList&&aW ps.toList.length m&&eN (m*(T.lv n).length) 65536 then(vh T n as).bind λx=>
     .ret ⟨.c (.one (.own ar)),[(ar,aa (.sl n e x.1 x.2.1 (ar+16)))],x.2.2⟩
    else .fail
   |none=> .fail
 | .indexAddr t _ io,[a,i]=>match aF T.dp t,a,i with
   |some (_,n),.c (.one a),.c (.one (.v (.int .i64) j _ tj))=>Ub n j tj a
   |none,.c (.one (.ptr b off)),.c (.one (.v (.int .i64) _ _ _))=>match aF T.qV t,io with
    |some (m,_,n),.const (.int .i64 (.ofNat q))=>if dJ q m then bZ (.c (.one (.ptr b (off+q*(T.lv n).length))))else .fail
    |_,_=> .fail
   |_,_,_=> .fail
 | .makeSlice t x y,[a,_]=>match aF T.dp t,a with
   |some (e,n),.c (.one (.v (.int .i64) l _ _))=>if G1 x y then .part (mE (T.zero n) l) λzs=>match aF T.kd n with
     |some (tc,q)=> .ret ⟨.c (.one (.own ar)),[(ar,aa (.df n e tc q zs (ar+16) 0))],[]⟩
     |none=> .ret ⟨.c (.one (.own ar)),[(ar,aa (.sl n e zs [] (ar+16)))],[]⟩
    else .fail
   |_,_=> .fail
 | .slice t x lo hi none,a::as=>match aF T.dp t,a with
   |some (_,n),.c (.one a)=>Sh (bP T.pre (abV t x)) (match loC lo with|true=>bP T.pre (abV t x+4294967296)|false=>ae) ar (ar+16) n lo hi a as
   |_,_=> .fail
 | .makeMap t none,[]=>match aF T.qo t with
   |some (_,_,n)=> .ret ⟨.c (.one (.own ar)),[(ar,aa (.mp n []))],[]⟩
   |none=> .fail
 | .lookup t _ _ ok,[m,k]=>match aF T.qo t with
   |some (_,_,n)=>Tt T n (ar+16) ok m k
   |none=> .fail
 | .mapUpdate t _ _ _,[m,k,u]=>match aF T.qo t with
   |some (_,_,n)=>MG T n m k u
   |none=> .fail
 | .insert t _ _ _,[m,k,u]=>match aF T.qo t with
   |some (_,_,n)=>MG T n m k u
   |none=> .fail
 | .convert s t _,[a]=>match aF T.ty s,aF T.ty t,a with
   |some (.one (.int _)),aa (.one (.int k')),.c (.one (.v (.int k) n _ _))=>match k' with
    | .i64=>bZ (iv .i64 (W n) (ar+16))
    |k'=>bZ (iv k' (rA k' n) (ar+16))
   |some (.one .str),aa (.one (.sl _)),.c (.one (.v .str x _ _))=>match aF T.dp t with
    |some (e,n)=>match aF T.ty e with
     |some (.one (.int .u8))=>if h:T.lv n=[.int .u8]then .part (LL (DN T n h) x) λxs=>bZ (.c (.one (.v (.sl n) xs [1] (ar+16))))else .fail
     |_=> .fail
    |none=> .fail
   |some (.one (.sl _)),aa (.one .str),.c (.one a)=>match aF T.dp s with
    |some (e,n)=>match aF T.ty e with
     |some (.one (.int .u8))=>if h:T.lv n=[.int .u8]then(Hd n a).bind λx=>bZ (.c (.one (.v .str (xA (tI T n h) x.1) [] (ar+16))))else .fail
     |_=> .fail
    |none=> .fail
   |_,_,_=> .fail
 | .makeFunc (.func f) first jo,as=>if dJ f 1000000 then match E6 as with
     |some cs=>if aW first.size 0 then bZ (.c (.one (.fn f cs)))else if aW jo.size 0 then bZ (.c (.one (.fn (f+1000000) cs)))else .fail
     |none=> .fail
   else .fail
 | .call {callee:= .builtin b,argTypes:=ts,.. },as=>match b,as with
   | .len,[.c (.one a)]=>match ts.toList with
     |[t]=>match aF T.dp t with
      |some _=>(TO a).bind λn=>bZ (iv .i64 n (ar+16))
      |none=>match aF T.ty t,a with
       |some (.one .str),.v .str s _ _=>bZ (iv .i64 (rj s) (ar+16))
       |_,_=> .fail
     |_=> .fail
   | .min,[.c (.one (.v (.int .i64) p _ _)),.c (.one (.v (.int .i64) q _ _))]=>bZ (iv .i64 (eD p q) (ar+16))
   | .max,[.c (.one (.v (.int .i64) p _ _)),.c (.one (.v (.int .i64) q _ _))]=>bZ (iv .i64 (imax p q) (ar+16))
   | .max,[.c (.one (.v (.int .i64) p _ _)),.c (.one (.v (.int .i64) q _ _)),.c (.one (.v (.int .i64) r _ _))]=>bZ (iv .i64 (imax (imax p q) r) (ar+16))
   | .max,[.c (.one (.v (.int .i64) p _ _)),.c (.one (.v (.int .i64) q _ _)),.c (.one (.v (.int .i64) r _ _)),.c (.one (.v (.int .i64) s _ _))]=>bZ (iv .i64 (imax (imax (imax p q) r) s) (ar+16))
   | .min,[.c (.one (.v (.int .i64) p _ _)),.c (.one (.v (.int .i64) q _ _)),.c (.one (.v (.int .i64) r _ _))]=>bZ (iv .i64 (eD (eD p q) r) (ar+16))
   | .clear,[.c (.one (.tail i n j))]=>match ts.toList with
     |[t]=>match aF T.dp t with
      |some (_,n')=>if aW n n' then .obj i λ
        | .sl n0 te xs K _=>if aW n0 n then .ret ⟨.dY [],[(i,aa (.sl n0 te (rT (T.zero n0) xs j) K (ar+16)))],[]⟩else .fail
        |_=> .fail
       else .fail
      |none=> .fail
     |_=> .fail
   | .copy,[.c (.one a),.c (.one x)]=>match ts.toList with
     |[t,t']=>if aW t t' then match aF T.dp t with
        |some (_,n)=>WG T ar n a x
        |none=> .fail
      else .fail
     |_=> .fail
   | .append,[.c (.one a),.c (.one x)]=>match ts.toList with
     |[t,t']=>if aW t t' then match aF T.dp t with
        |some (e,n)=>PY T ar n e a x
        |none=> .fail
      else match aF T.dp t,aF T.ty t',a,x with
       |some (e,n),aa (.one (.int .i64)),.bH,.v (.int .i64) k _ _=> .part (Az (T.zero n) k) λzs=> .ret ⟨.c (.one (.own ar)),[(ar,aa (.sl n e zs [] (ar+16)))],[]⟩
       |_,_,_,_=> .fail
     |_=> .fail
   | .cap,[.c (.one .bH)]=>match ts.toList with
     |[t]=>match aF T.dp t with
      |some _=>bZ (iv .i64 0 (ar+16))
      |none=> .fail
     |_=> .fail
   |_,_=> .fail
 |_,_=> .fail
where E6:List (AV D)->Option (List (A0 D))
 |[]=>aa []
 | .c (.one (.ptr i off))::r=>match E6 r with
   |some l=>aa (.ptr i off::l)
   |none=>none
 | .c (.one (.rp n x off K))::r=>match E6 r with
   |some l=>aa (.rp n x off K::l)
   |none=>none
 |_=>none
def afs:P1->A1 D->Bool
 | .own _,.own _=>ab
 | .own _,.bH=>ab
 | .own _,_=>ae
 | .fn f _,.fn f' _=>aW f f'
 | .fn _ _,_=>ae
 | .ptr _ _,.ptr _ _=>ab
 | .ptr _ _,_=>ae
 | .bH,.bH=>ab
 | .bH,_=>ae
 |_,_=>ab
def V1:List P1->List (A1 D)->Bool
 |p::ps,a::as=>afs p a&&V1 ps as
 |_,_=>ab
def ayl:PC->AV D->Bool
 | .one p,.c (.one a)=>afs p a
 | .agg ps,.c (.agg l)=>V1 ps l
 |_,_=>ae
def afr:List PC->List (AV D)->Bool
 |[],[]=>ab
 |p::ps,a::as=>ayl p a&&afr ps as
 |_,_=>ae
def ato:AO D->Bool
 | .fz .. =>ab
 |_=>ae
def Hj:List P1->List (A1 D)->Q D Bool
 | .own _::ps,.own i::as=> .obj i λo=>if ato o=ab then .ret ae else Hj ps as
 |_::ps,_::as=>Hj ps as
 |_,_=> .ret ab
def aDD(ob:List (Nat×PO)):P1->A1 D->Q D Bool
 | .ptr i _,.ptr j _=>match aF ob i with
   |some (.box ps)=> .obj j λo=>match o with
    | .box cs=>match V1 ps cs with
      |true=>Hj ps cs
      |false=> .ret ae
    |_=> .ret ab
   |_=> .ret ab
 |p,a=>Hj [p] [a]
def S_(ob:List (Nat×PO)):List PC->List (AV D)->Q D Bool
 | .one p::ps,.c (.one a)::as=>(aDD ob p a).bind λb=>if b=ab then S_ ob ps as else .ret ae
 | .agg qs::ps,.c (.agg l)::as=>(Hj qs l).bind λb=>if b=ab then S_ ob ps as else .ret ae
 |_,_=> .ret ab
def I3:List (az D)->Nat->List (AV D)->Q D (az D)
 |[],_,_=> .fail
 |c::r,f,as=>if aW c.f f&&afr c.args as then(S_ c.ob c.args as).bind λb=>if b=ab then .ret c else I3 r f as else I3 r f as
def az.Fg(c:az D):Bool:=bP (c.kl.flatMap tT++c.cn.flatMap λp=>tS p.2) 0
def iG(known:List (Nat×Nat)):Nat->List (Nat×PO)->List (Nat×Nat)
 |_,[]=>[]
 |k,(p,_)::r=>match aF known p with
  |some i=>(p,i)::iG known k r
  |none=>(p,k)::iG known (k+1) r
def IX(ids:List (Nat×Nat))(cn:List (Nat×PO)):List (Nat×Option (AO D)):=(ids.filter λp=> !(bP (cn.map bV) p.1)).map λp=>(p.2,none)
def abq:List (AC D)->AV D
 |[x]=> .c x
 |l=> .dY l
def Fs:Nat->List (AC D)->List (Nat×AV D)
 |_,[]=>[]
 |k,a::r=>(k,.c a)::Fs (k+1) r
def y8(T:bc D)(c:az D)(h:HH D c.ins):Option (S D):=
 let fl:=dK T c.ins h
 if eN fl.length 900&&c.ob.all (λp=>eN 1000 p.1&&dJ p.1 1100)then
  match im T fl aa id 1100 c.args,jN T fl aa id 1100 c.ob with
  |some a,aa b=>aa ⟨Fs 0 a,b,2000,[]⟩
  |_,_=>none
 else none
def Pa(T:bc D)(Φ:List (az D))(ar f:Nat)(args:List (AV D)):Q D (de D):=(I3 Φ f args).bind λc=>(BI T ab 0 c.ins c.args c.ob [] ar args).bind λx=>if(c.Fg&& !x.2.ku.isEmpty)|| !(eN x.2.nf (ar+8))||(y8 T c x.1).isNone then .fail else
     .part (c.fn x.1) λy=>
       let fl:=dK T c.outs y
       let ids:=iG x.2.ids (ar+8) c.cn
       let ri:=aF ids
       let rK:=λK=>(if bP K 0 then x.2.kr else [])++(if bP K 1 then [1]else [])
       match im T fl ri rK (ar+16) c.kl,jN T fl ri rK (ar+16) c.cn with
       |some r,aa eU=>if eN fl.length 112 then .ret ⟨abq r,eU++IX x.2.ids c.cn,[]⟩else .fail
       |_,_=> .fail
def O':A0 D->AV D
 | .ptr i off=> .c (.one (.ptr i off))
 | .rp n x off K=> .c (.one (.rp n x off K))
def Av(T:bc D)(Φ:List (az D))(ar:Nat)(o:Op)(as:List (AV D)):Q D (de D):=match o with
 | .call {callee:= .value _,.. }=>match as with
   | .c (.one (.fn f jo))::as=>match dJ f 1000000 with
     |true=>Pa T Φ ar f (as++jo.map O')
     |false=>Pa T Φ ar (f-1000000) (jo.map O'++as)
   |_=> .fail
 |o=>DJ T ar o as
def ED(lk:List Nat)(e:de D):Bool:=qS (e.sv.map bV) lk&&qS e.fz lk
def zq(σ:S D)(dst:Option Nat)(e:de D):S D:={σ with sl:=(match dst with|some d=>(d,e.dst)::σ.sl|none=>σ.sl),ob:=e.fz.map (λi=>(i,none))++e.sv++σ.ob,nx:=σ.nx+128}
def u7(σ:S D)(dst:Option Nat):S D:={σ with sl:=(match dst with|some d=>(d,.c (.one .undef))::σ.sl|none=>σ.sl),nx:=σ.nx+128}
structure Lg where
 i:Nat
 rd:List Nat
 wr:List Nat
def de.wr(e:de D):List Nat:=e.sv.map bV++e.fz
def zV(T:bc D)(Φ:List (az D))(p:Nat)(o:aV)(σ:S D)(lg:List Lg){ρ:Type}(k:S D->List Lg->Option ρ):Option ρ:=match eX σ.sl o.op.operands.toList with
 |some as=>(Av T Φ σ.nx o.op as).go σ.ob [] λe rd=>match ED σ.lk e with
  |true=>k (zq σ o.dst e) (⟨p,rd,e.wr⟩::lg)
  |false=>none
 |none=>none
def guardOf(ops:List aV)(sl:List (Nat×AV D))(j:Nat):Option (Nat×AV D):=match ops[j]? with
 |some og=>match og.dst with
  |some d=>match aF sl d with
   |some a=>aa (d,a)
   |none=>none
  |none=>none
 |none=>none
def lu(σ:S D)(d:Nat)(b:Bool)(K:List Nat)(g:Nat):S D:={σ with sl:=(d,.c (.one (.v .bool b K g)))::σ.sl}
def TZ:AV D->Bool
 | .c (.one .undef)=>ab
 |_=>ae
def jn(T:bc D)(Φ:List (az D))(ops:List aV){ρ:Type}:List aV->Nat->S D->List Lg->(S D->List Lg->Option ρ)->Option ρ
 |[],_,σ,lg,k=>k σ lg
 |o::r,p,σ,lg,k=>match o.guard with
  |none=>zV T Φ p o σ lg λσ lg=>jn T Φ ops r (p+1) σ lg k
  |some (j,b)=>match guardOf ops σ.sl j with
   |none=>none
   |some (d,a)=>match a with
    | .c (.one (.v .bool c K g))=>
      EZ c
       (match b with
         |true=>zV T Φ p o (lu σ d ab K g) lg λσ lg=>jn T Φ ops r (p+1) σ lg k
         |false=>jn T Φ ops r (p+1) (u7 (lu σ d ab K g) o.dst) lg k)
       (match b with
         |true=>jn T Φ ops r (p+1) (u7 (lu σ d ae K g) o.dst) lg k
         |false=>zV T Φ p o (lu σ d ae K g) lg λσ lg=>jn T Φ ops r (p+1) σ lg k)
    |a=>if TZ a then jn T Φ ops r (p+1) (u7 σ o.dst) lg k else none
def xW:S D->List Nat->Option (S D)
 |σ,[]=>aa σ
 |σ,i::r=>match dC σ.ob i with
  |some (.df n t _ _ xs g _)=>if bP σ.lk i then none else xW {σ with ob:=(i,aa (.sl n t xs [1] g))::σ.ob} r
  |_=>none
def qM:S D->List Nat->Option (S D)
 |σ,[]=>aa σ
 |σ,i::r=>match dC σ.ob i with
  |some o=>match B7 o with
   |some (⟨.sl n,xs⟩,K)=>if bP σ.lk i then none else qM {σ with ob:=(i,aa (.fz n xs (1::K)))::σ.ob} r
   |_=>none
  |none=>none
def oP(l:List Nat)(σ:S D){ρ:Type}(k:S D->Option ρ):Option ρ:=match qM σ l with
 |some be=>k be
 |none=>none
def dstsOf(l:List aV):List Nat:=l.filterMap (·.dst)
def vX(T:bc D)(Φ:List (az D))(ops:List aV):Sg->∀{ρ:Type},List aV->Nat->S D->(S D->Option ρ)->Option ρ
 | .nil,_,l,p,σ,k=>jn T Φ ops l p σ [] λσ _=>k σ
 | .xW s b next,_,l,p,σ,k=>jn T Φ ops (l.take (s-p)) p σ [] λaO _=>match xW aO b with
   |some bL=>vX T Φ ops next (l.drop (s-p)) s bL k
   |none=>none
 | .tL s m j inner next,_,l,p,σ,k=>jn T Φ ops (l.take (s-p)) p σ [] λaO _=>
     let tL:=(l.drop (s-p)).take m
     let go:=λ{jv:Type} (σ:S D) (k:S D->Option jv)=>match tL with
      |o::_=>match o.guard with
       |some (i,b)=>match guardOf ops σ.sl i with
        |some (d,.c (.one (.v .bool c K g)))=>
         EZ c
          (match b with
            |true=>vX T Φ ops inner tL s (lu σ d ab K g) k
            |false=>jn T Φ ops tL s (lu σ d ab K g) [] λσ _=>k σ)
          (match b with
            |true=>jn T Φ ops tL s (lu σ d ae K g) [] λσ _=>k σ
            |false=>vX T Φ ops inner tL s (lu σ d ae K g) k)
        |_=>jn T Φ ops tL s σ [] λσ _=>k σ
       |none=>vX T Φ ops inner tL s σ k
      |[]=>none
     wrap T (dstsOf tL) (aa (ab,[(.normal,j)])) (λσ k=>go σ (k .normal)) aO λ_ bL=>vX T Φ ops next (l.drop (s-p+m)) (s+m) bL k
def bit(m i:Nat):Bool:=aW ((m>>>i)% 2) 1
def B'(acc:List Nat)(o:aV):Nat:=o.after.toList.foldl (λs e=>if Region.binds .any e then s|||(1<<<e.on)|||(acc.reverse.getD e.on 0)else s) 0
def jq:List aV->List Nat->List Nat
 |[],acc=>acc.reverse
 |o::r,acc=>jq r (B' acc o::acc)
def tmpsOf(ops:List aV)(o:aV):List Nat:=(o.op.operands.toList.filterMap λ| .tmp t=>aa t|_=>none)++(match o.guard with
 |some (j,_)=>match ops[j]? with
  |some og=>og.dst.toList
  |none=>[]
 |none=>[])
def apart(ops:List aV)(a b:aV):Bool:=match a.dst with
 |none=>match b.dst with
  |none=>ab
  |some d=> !(bP (tmpsOf ops a) d)
 |some d=> !(bP (tmpsOf ops b) d)&&match b.dst with
  |none=>ab
  |some d'=> !(aW d d')&& !(bP (tmpsOf ops a) d')
def yb(ops:List aV)(an:List Nat):Nat->List aV->List (Nat×aV)->Bool
 |_,[],_=>ab
 |j,o::r,seen=>(seen.all λp=>bit (an.getD j 0) p.1||apart ops p.2 o)&&o.after.toList.all (λe=> !(Region.binds .any e)||dJ e.on j)&&yb ops an (j+1) r ((j,o)::seen)
def DQ(a b:Lg):Bool:=qS a.wr b.rd&&qS b.wr a.rd&&qS a.wr b.wr
def yB(an:List Nat):List Lg->Bool
 |[]=>ab
 |a::r=>(r.all λb=>bit (an.getD a.i 0) b.i||DQ a b)&&yB an r
def WE(T:bc D)(Φ:List (az D))(ops:List aV)(draw:Bool)(sg:Sg){ρ:Type}(σ:S D)(k:S D->Option ρ):Option ρ:=
 match draw with
 |true=>
  match yb ops (jq ops []) 0 ops []with
  |true=>jn T Φ ops ops 0 σ [] λbe lg=>match yB (jq ops []) lg with
   |true=>k be
   |false=>none
  |false=>none
 |false=>vX T Φ ops sg ops 0 σ k
def writes:bO->List Nat
 | .region _ ops _=>dstsOf ops.toList
 | .seq a b=>writes a++writes b
 | .cond _ a b=>writes a++writes b
 | .block _ a=>writes a
 | .loop a=>writes a
 | .scope a=>writes a
 | .rangeFunc _ ps a b=>ps.toList++writes a++writes b
 |_=>[]
def TD(T:bc D)(wr:List Nat)(j:J)(pr:Bool)(E:List (Out×J)){ρ:Type}(body:∀{jv:Type},S D->(Out->S D->Option jv)->Option jv)(σ:S D)(k:Out->S D->Option ρ):Option ρ:=
 let mv:=j.mv++ru E
 let lk:=(kept σ mv).map bV++σ.lk
 qO T j {σ with lk:=lk} λh0=>
  nL (aG (σ:=HH D j.cP) (ρ:=wc D pr ρ E) (λh=>match lF T j wr mv σ h with
   |some cm=>body {cm with lk:=lk} λo aO=>match o with
    | .normal=>qO T j aO λh'=>aa (.inl h')
    |o=>match toE T pr E o aO (k o {aO with lk:=σ.lk})with
     |some x=>aa (.inr x)
     |none=>none
   |none=>none) h0) λx=>sU T pr wr mv σ k E x
def AP:bO->Option Nat
 | .label l=>aa l
 |_=>none
def ya:bO->Option (Nat×bO)
 | .label l=>aa (l,.skip)
 | .seq a b=>match AP a with
   |some l=>aa (l,b)
   |none=>ya b
 |_=>none
def je(c:bO):Bool:=(ya c).isNone
def gT:bO->Bool
 | .seq a b=>(match AP a with
   |some _=>je b
   |none=>je a&&gT a)&&gT b
 | .cond _ a b=>je a&&je b&&gT a&&gT b
 | .block _ a=>je a&&gT a
 | .loop a=>je a&&gT a
 | .scope a=>gT a
 |_=>ab
def kU:bO->Bool
 | .seq a b=>kU a&&kU b
 | .cond _ a b=>kU a&&kU b
 | .block _ a=>kU a
 | .loop a=>kU a
 | .scope _=>ae
 |_=>ab
def fX(T:bc D)(Φ:List (az D)):bO->An->∀{ρ:Type},S D->(Out->S D->Option ρ)->Option ρ
 | .skip,_,_,σ,k=>k .normal σ
 | .region _ ops draw,an,_,σ,k=>wrap T (dstsOf ops.toList) an.cut (λσ k=>WE T Φ ops.toList draw an.sg σ (k .normal)) σ k
 | .seq a b,an,_,σ,k=>wrap T (writes (.seq a b)) an.cut (λσ k=>oP an.a.fz σ λσ=>fX T Φ a an.a.un σ λo be=>match o with
     | .normal=>oP an.b.fz be λσ=>fX T Φ b an.b.un σ k
     |o=>k o be) σ k
 | .cond c a b,an,_,σ,k=>wrap T (writes (.cond c a b)) an.cut (λσ k=>match eY σ.sl c with
     |some (.c (.one (.v .bool d _ _)))=>EZ d (oP an.a.fz σ λσ=>fX T Φ a an.a.un σ k) (oP an.b.fz σ λσ=>fX T Φ b an.b.un σ k)
     |_=>none) σ k
 | .block id a,an,_,σ,k=>wrap T (writes a) an.cut (λσ k=>oP an.a.fz σ λσ=>fX T Φ a an.a.un σ λo be=>match o with
     | .exit AQ=>match aW AQ id with
       |true=>k .normal be
       |false=>k o be
     |o=>k o be) σ k
 | .exit id,_,_,σ,k=>k (.exit id) σ
 | .ret,_,_,σ,k=>k .ret σ
 | .scope a,an,_,σ,k=>wrap T (writes a) an.cut (λσ k=>oP an.a.fz σ λσ=>fX T Φ a an.a.un σ λo be=>match o with
     | .goto _=>none
     |o=>k o be) σ k
 | .goto l,_,_,σ,k=>k (.goto l) σ
 | .loop a,.loop j pr E x,_,σ,k=>TD T (writes a) j pr E (λσ k=>oP x.fz σ λσ=>fX T Φ a x.un σ k) σ k
 |_,_,_,_,_=>none
def Dx(T:bc D)(sl:List (Nat×AV D)):List lT->Q D (List (AV D))
 |[]=> .ret []
 | .tmp t::r=>match aF sl t with
   |some a=>(Dx T sl r).bind λl=> .ret (a::l)
   |none=> .fail
 | .cell t ty::r=>match aF sl t,aF T.ty ty with
   |some (.c (.one (.ptr i off))),aa ty=> .obj i λ
    | .box cs=>match ze ty T cs off with
      |some a=>(Dx T sl r).bind λl=> .ret (a::l)
      |none=> .fail
    |_=> .fail
   |_,_=> .fail
def stay(c:az D):List (Nat×Nat):=(c.cn.filter λp=>bP (c.ob.map bV) p.1).map λp=>(p.1,p.1)
def vc(T:bc D)(c:az D)(rs:List lT):Out->S D->Option (HH D c.outs)
 | .ret,σ=>fin σ
 | .normal,σ=>fin σ
 |_,_=>none
where fin (σ:S D):Option (HH D c.outs):=(Dx T σ.sl rs).go σ.ob [] λfp _=>
 (BI T ae 0 c.outs c.kl c.cn (stay c) σ.nx fp).go σ.ob [] λx _=>match im T (dK T c.outs x.1) aa id 3000 c.kl,jN T (dK T c.outs x.1) aa id 3000 c.cn with
   |some _,aa _=>aa x.1
   |_,_=>none
def LH(T:bc D)(Φ:List (az D))(c:az D)(rs:List lT)(code:bO)(an:An)(h:HH D c.ins):Option (HH D c.outs):=match je code&&gT code with
 |true=>match y8 T c h with
  |some σ=>oP an.fz σ λσ=>fX T Φ code an.un σ (vc T c rs)
  |none=>none
 |false=>none
