import Derived.Test.YtmngjhagbjgmfaaGreatRp
import Derived.Test.YtmngjhagbjgmfaaGreatProg
set_option linter.all false
open Bool renaming false->ai,true->ab
open ByteArray renaming empty->tv
open Option renaming some->aa
namespace Go.Proofs.YtmngjhagbjgmfaaGreat
open Go Go.RowKit Dp
namespace Rx
open Tryz
abbrev FG(t:Nat)(l:List (Nat×Nat)):Prop:=E_ prog t l∧∀i off sz,l[i]? =aa (off,sz)->Fo prog t i off
abbrev qI:Lf:= .int .i64
abbrev qZ{α:Type}[ad α]:α:=ad.zero
abbrev qR(α:Type)[h:ad α]:ad α:=h
structure cH where
 Kind:Int
 A:Int
 B:Int
def akw(x:cH):Int×Int×Int:=(x.Kind,x.A,x.B)
instance:ad cH:=ad.via akw ⟨qZ,qZ,qZ⟩ rfl
structure Source where
 ik:Int
 eX:Int
 Start:Int
def aj1(x:Source):Int×Int×Int:=(x.ik,x.eX,x.Start)
instance:ad Source:=ad.via aj1 ⟨qZ,qZ,qZ⟩ rfl
structure Consumer where
 eV:Int
 eX:Int
 kB:Int
 b9:Int
 cf:(List Int)
def aku(x:Consumer):Int×Int×Int×Int×(List Int):=(x.eV,x.eX,x.kB,x.b9,x.cf)
instance:ad Consumer:=ad.via aku ⟨qZ,qZ,qZ,qZ,qZ⟩ rfl
structure aw where
 aB:Int
 ae:(List cH)
 aj:(List Source)
 az:(List Consumer)
 bi:Int
 aZ:Int
def akx(x:aw):Int×(List cH)×(List Source)×(List Consumer)×Int×Int:=(x.aB,x.ae,x.aj,x.az,x.bi,x.aZ)
instance:ad aw:=ad.via akx ⟨qZ,qZ,qZ,qZ,qZ,qZ⟩ rfl
structure ia where
 Start:Int
 Stop:Int
 nX:Int
def ajW(x:ia):Int×Int×Int:=(x.Start,x.Stop,x.nX)
instance:ad ia:=ad.via ajW ⟨qZ,qZ,qZ⟩ rfl
structure bo where
 State:Int
 gJ:Int
 aZ:Int
 bi:Int
def aj5(x:bo):Int×Int×Int×Int:=(x.State,x.gJ,x.aZ,x.bi)
instance:ad bo:=ad.via aj5 ⟨qZ,qZ,qZ,qZ⟩ rfl
structure Part where
 Kind:Int
 Number:Int
def aka(x:Part):Int×Int:=(x.Kind,x.Number)
instance:ad Part:=ad.via aka ⟨qZ,qZ⟩ rfl
structure ax where
 aG:(List Bool)
 aj:(List bo)
 aX:(List Int)
 aS:(List Part)
def aj9(x:ax):(List Bool)×(List bo)×(List Int)×(List Part):=(x.aG,x.aj,x.aX,x.aS)
instance:ad ax:=ad.via aj9 ⟨qZ,qZ,qZ,qZ⟩ rfl
structure eO where
 iS:Int
 jx:Int
def aj6(x:eO):Int×Int:=(x.iS,x.jx)
instance:ad eO:=ad.via aj6 ⟨qZ,qZ⟩ rfl
structure Act where
 Kind:Int
 Unit:Int
 Value:Int
def akB(x:Act):Int×Int×Int:=(x.Kind,x.Unit,x.Value)
instance:ad Act:=ad.via akB ⟨qZ,qZ,qZ⟩ rfl
structure Event where
 Time:Int
 Act:Act
 X5:Int
def akp(x:Event):Int×Act×Int:=(x.Time,x.Act,x.X5)
instance:ad Event:=ad.via akp ⟨qZ,qZ,qZ⟩ rfl
structure cO where
 Time:Int
 ax:ax
 pO:(List eO)
 rW:(List Event)
def aj'(x:cO):Int×ax×(List eO)×(List Event):=(x.Time,x.ax,x.pO,x.rW)
instance:ad cO:=ad.via aj' ⟨qZ,qZ,qZ,qZ⟩ rfl
structure iG where
 fC:Int
 To:Int
def akz(x:iG):Int×Int:=(x.fC,x.To)
instance:ad iG:=ad.via akz ⟨qZ,qZ⟩ rfl
structure b9 where
 Kind:Int
 tq:Int
 Max:Int
 vZ:Int
 fL:Int
 nW:(List iG)
def ajT(x:b9):Int×Int×Int×Int×Int×(List iG):=(x.Kind,x.tq,x.Max,x.vZ,x.fL,x.nW)
instance:ad b9:=ad.via ajT ⟨qZ,qZ,qZ,qZ,qZ,qZ⟩ rfl
structure dk where
 iF:Int
 ib:Int
 cT:(List b9)
def aj2(x:dk):Int×Int×(List b9):=(x.iF,x.ib,x.cT)
instance:ad dk:=ad.via aj2 ⟨qZ,qZ,qZ⟩ rfl
structure j_ where
 dC:(List Int)
 fp:(List Int)
 fK:(List Int)
def akt(x:j_):(List Int)×(List Int)×(List Int):=(x.dC,x.fp,x.fK)
instance:ad j_:=ad.via akt ⟨qZ,qZ,qZ⟩ rfl
structure dJ where
 oP:j_
 oR:j_
 oQ:j_
 Fi:Int
 Fk:Int
 Ft:Int
 Fc:Int
def akh(x:dJ):j_×j_×j_×Int×Int×Int×Int:=(x.oP,x.oR,x.oQ,x.Fi,x.Fk,x.Ft,x.Fc)
instance:ad dJ:=ad.via akh ⟨qZ,qZ,qZ,qZ,qZ,qZ,qZ⟩ rfl
structure jN where
 fC:Part
 To:Part
def akd(x:jN):Part×Part:=(x.fC,x.To)
instance:ad jN:=ad.via akd ⟨qZ,qZ⟩ rfl
structure jk where
 Name:ByteArray
 fj:(List Part)
def akj(x:jk):ByteArray×(List Part):=(x.Name,x.fj)
instance:ad jk:=ad.via akj ⟨qZ,qZ⟩ rfl
structure dy where
 fj:(List Part)
 ic:(List jN)
 il:(List jk)
def akr(x:dy):(List Part)×(List jN)×(List jk):=(x.fj,x.ic,x.il)
instance:ad dy:=ad.via akr ⟨qZ,qZ,qZ⟩ rfl
structure k_ where
 X8:Int
 XY:Int
 XA:Int
 X2:Int
def aj8(x:k_):Int×Int×Int×Int:=(x.X8,x.XY,x.XA,x.X2)
instance:ad k_:=ad.via aj8 ⟨qZ,qZ,qZ,qZ⟩ rfl
structure fb where
 Fe:Int
 Sum:Int
 Calm:Int
 iQ:Int
 rX:Int
 E8:Int
 Fg:Int
 Fh:Int
 Ff:Int
def akk(x:fb):Int×Int×Int×Int×Int×Int×Int×Int×Int:=(x.Fe,x.Sum,x.Calm,x.iQ,x.rX,x.E8,x.Fg,x.Fh,x.Ff)
instance:ad fb:=ad.via akk ⟨qZ,qZ,qZ,qZ,qZ,qZ,qZ,qZ,qZ⟩ rfl
structure iQ where
 X:Int
 Y:Int
def aj_(x:iQ):Int×Int:=(x.X,x.Y)
instance:ad iQ:=ad.via aj_ ⟨qZ,qZ⟩ rfl
structure Target where
 Place:iQ
 Fm:Int
def ajV(x:Target):iQ×Int:=(x.Place,x.Fm)
instance:ad Target:=ad.via ajV ⟨qZ,qZ⟩ rfl
structure fZ where
 Place:iQ
 zd:Int
 zh:Int
def akv(x:fZ):iQ×Int×Int:=(x.Place,x.zd,x.zh)
instance:ad fZ:=ad.via akv ⟨qZ,qZ,qZ⟩ rfl
structure fX where
 Name:ByteArray
 Fu:Int
 fZ:fZ
 rX:Int
def akb(x:fX):ByteArray×Int×fZ×Int:=(x.Name,x.Fu,x.fZ,x.rX)
instance:ad fX:=ad.via akb ⟨qZ,qZ,qZ,qZ⟩ rfl
structure ns where
 Name:ByteArray
 Xy:Int
 Xx:Int
 cf:(List Int)
def ajX(x:ns):ByteArray×Int×Int×(List Int):=(x.Name,x.Xy,x.Xx,x.cf)
instance:ad ns:=ad.via ajX ⟨qZ,qZ,qZ,qZ⟩ rfl
structure nV where
 E9:(List ns)
def aj4(x:nV):(List ns):=(x.E9)
instance:ad nV:=ad.via aj4 ⟨qZ⟩ rfl
structure jM where
 dJ:dJ
 dk:dk
 aw:aw
 ia:ia
 dy:dy
 PG:(List k_)
 fb:fb
 Target:Target
 nX:Int
 fX:fX
 nV:nV
def ajQ(x:jM):dJ×dk×aw×ia×dy×(List k_)×fb×Target×Int×fX×nV:=(x.dJ,x.dk,x.aw,x.ia,x.dy,x.PG,x.fb,x.Target,x.nX,x.fX,x.nV)
instance:ad jM:=ad.via ajQ ⟨qZ,qZ,qZ,qZ,qZ,qZ,qZ,qZ,qZ,qZ,qZ⟩ rfl
structure fc where
 dC:Int
 fp:Int
 fK:Int
def akl(x:fc):Int×Int×Int:=(x.dC,x.fp,x.fK)
instance:ad fc:=ad.via akl ⟨qZ,qZ,qZ⟩ rfl
structure bu where
 aB:(List Int)
 aj:(List Int)
 az:(List Int)
def akg(x:bu):(List Int)×(List Int)×(List Int):=(x.aB,x.aj,x.az)
instance:ad bu:=ad.via akg ⟨qZ,qZ,qZ⟩ rfl
structure p8 where
 cO:cO
 aR:aw
 events:(List Event)
 FZ:(List ax)
def aan(x:p8):cO×aw×(List Event)×(List ax):=(x.cO,x.aR,x.events,x.FZ)
instance:ad p8:=ad.via aan ⟨qZ,qZ,qZ,qZ⟩ rfl
structure oi where
 aR:aw
 bh:ax
 time:Int
def Zc(x:oi):aw×ax×Int:=(x.aR,x.bh,x.time)
instance:ad oi:=ad.via Zc ⟨qZ,qZ,qZ⟩ rfl
structure fF where
 aR:aw
 bh:ax
 vW:(List Act)
def aaF(x:fF):aw×ax×(List Act):=(x.aR,x.bh,x.vW)
instance:ad fF:=ad.via aaF ⟨qZ,qZ,qZ⟩ rfl
structure fU where
 X:Int
 Y:Int
def ajU(x:fU):Int×Int:=(x.X,x.Y)
instance:ad fU:=ad.via ajU ⟨qZ,qZ⟩ rfl
structure mh where
 dC:Int
 iF:Int
 ib:Int
def aks(x:mh):Int×Int×Int:=(x.dC,x.iF,x.ib)
instance:ad mh:=ad.via aks ⟨qZ,qZ,qZ⟩ rfl
structure Fv where
 Xz:(List fU)
 B0:mh
 BW:mh
def akA(x:Fv):(List fU)×mh×mh:=(x.Xz,x.B0,x.BW)
instance:ad Fv:=ad.via akA ⟨qZ,qZ,qZ⟩ rfl
structure pt where
 wy:(List b9)
 last:(List fU)
def abx(x:pt):(List b9)×(List fU):=(x.wy,x.last)
instance:ad pt:=ad.via abx ⟨qZ,qZ⟩ rfl
structure fw where
 jx:Int
 iS:Int
 fL:Int
def aj3(x:fw):Int×Int×Int:=(x.jx,x.iS,x.fL)
instance:ad fw:=ad.via aj3 ⟨qZ,qZ,qZ⟩ rfl
structure jy where
 Part:Part
 xu:Bool
def akn(x:jy):Part×Bool:=(x.Part,x.xu)
instance:ad jy:=ad.via akn ⟨qZ,qZ⟩ rfl
structure Src where
 L:(List Int)
 At:Int
def ajY(x:Src):(List Int)×Int:=(x.L,x.At)
instance:ad Src:=ad.via ajY ⟨qZ,qZ⟩ rfl
@[reducible] def D (n:Nat):Type:=match n with
  |0=>Int
  |1=>Bool
  |2=>ByteArray
  |3=>aw
  |4=>cH
  |5=>Source
  |6=>Consumer
  |7=>ia
  |8=>cO
  |9=>bo
  |10=>Part
  |11=>eO
  |12=>Event
  |13=>(List Int)
  |14=>ax
  |15=>dk
  |16=>b9
  |17=>iG
  |18=>jM
  |19=>jN
  |20=>jk
  |21=>k_
  |22=>ns
  |23=>fc
  |24=>bu
  |25=>dy
  |26=>U8
  |27=>(List Part)
  |28=>(Int×Int×Bool)
  |29=>Act
  |30=>p8
  |31=>oi
  |32=>fF
  |33=>fU
  |34=>mh
  |35=>Fv
  |36=>pt
  |37=>fw
  |38=>jy
  |39=>Src
  |40=>dJ
  |41=>j_
  |42=>fb
  |43=>fX
  |44=>fZ
  |45=>iQ
  |46=>nV
  |47=>Target
  |_=>Int
instance aCY(n:Nat):ad (D n):=match n with
 |0=>qR (Int)
 |1=>qR (Bool)
 |2=>qR (ByteArray)
 |3=>qR (aw)
 |4=>qR (cH)
 |5=>qR (Source)
 |6=>qR (Consumer)
 |7=>qR (ia)
 |8=>qR (cO)
 |9=>qR (bo)
 |10=>qR (Part)
 |11=>qR (eO)
 |12=>qR (Event)
 |13=>qR ((List Int))
 |14=>qR (ax)
 |15=>qR (dk)
 |16=>qR (b9)
 |17=>qR (iG)
 |18=>qR (jM)
 |19=>qR (jN)
 |20=>qR (jk)
 |21=>qR (k_)
 |22=>qR (ns)
 |23=>qR (fc)
 |24=>qR (bu)
 |25=>qR (dy)
 |26=>qR (U8)
 |27=>qR ((List Part))
 |28=>qR ((Int×Int×Bool))
 |29=>qR (Act)
 |30=>qR (p8)
 |31=>qR (oi)
 |32=>qR (fF)
 |33=>qR (fU)
 |34=>qR (mh)
 |35=>qR (Fv)
 |36=>qR (pt)
 |37=>qR (fw)
 |38=>qR (jy)
 |39=>qR (Src)
 |40=>qR (dJ)
 |41=>qR (j_)
 |42=>qR (fb)
 |43=>qR (fX)
 |44=>qR (fZ)
 |45=>qR (iQ)
 |46=>qR (nV)
 |47=>qR (Target)
 |_+48=>qR (Int)
def QJ(n:Nat):List Lf:=match n with
 |0=>[qI]
 |1=>[.bool]
 |2=>[.str]
 |3=>[qI,(.sl 4),(.sl 5),(.sl 6),qI,qI]
 |4=>[qI,qI,qI]
 |5=>[qI,qI,qI]
 |6=>[qI,qI,qI,qI,(.sl 0)]
 |7=>[qI,qI,qI]
 |8=>[qI,(.sl 1),(.sl 9),(.sl 0),(.sl 10),(.sl 11),(.sl 12)]
 |9=>[qI,qI,qI,qI]
 |10=>[qI,qI]
 |11=>[qI,qI]
 |12=>[qI,qI,qI,qI,qI]
 |13=>[(.sl 0)]
 |14=>[(.sl 1),(.sl 9),(.sl 0),(.sl 10)]
 |15=>[qI,qI,(.sl 16)]
 |16=>[qI,qI,qI,qI,qI,(.sl 17)]
 |17=>[qI,qI]
 |18=>[(.sl 0),(.sl 0),(.sl 0),(.sl 0),(.sl 0),(.sl 0),(.sl 0),(.sl 0),(.sl 0),qI,qI,qI,qI,qI,qI,(.sl 16),qI,(.sl 4),(.sl 5),(.sl 6),qI,qI,qI,qI,qI,(.sl 10),(.sl 19),(.sl 20),(.sl 21),qI,qI,qI,qI,qI,qI,qI,qI,qI,qI,qI,qI,qI,.str,qI,qI,qI,qI,qI,qI,(.sl 22)]
 |19=>[qI,qI,qI,qI]
 |20=>[.str,(.sl 10)]
 |21=>[qI,qI,qI,qI]
 |22=>[.str,qI,qI,(.sl 0)]
 |23=>[qI,qI,qI]
 |24=>[(.sl 0),(.sl 0),(.sl 0)]
 |25=>[(.sl 10),(.sl 19),(.sl 20)]
 |26=>[(.int .u8)]
 |27=>[(.sl 10)]
 |28=>[qI,qI,.bool]
 |29=>[qI,qI,qI]
 |30=>[qI,(.sl 1),(.sl 9),(.sl 0),(.sl 10),(.sl 11),(.sl 12),qI,(.sl 4),(.sl 5),(.sl 6),qI,qI,(.sl 12),(.sl 14)]
 |31=>[qI,(.sl 4),(.sl 5),(.sl 6),qI,qI,(.sl 1),(.sl 9),(.sl 0),(.sl 10),qI]
 |32=>[qI,(.sl 4),(.sl 5),(.sl 6),qI,qI,(.sl 1),(.sl 9),(.sl 0),(.sl 10),(.sl 29)]
 |33=>[qI,qI]
 |34=>[qI,qI,qI]
 |35=>[(.sl 33),qI,qI,qI,qI,qI,qI]
 |36=>[(.sl 16),(.sl 33)]
 |37=>[qI,qI,qI]
 |38=>[qI,qI,.bool]
 |39=>[(.sl 0),qI]
 |40=>[(.sl 0),(.sl 0),(.sl 0),(.sl 0),(.sl 0),(.sl 0),(.sl 0),(.sl 0),(.sl 0),qI,qI,qI,qI]
 |41=>[(.sl 0),(.sl 0),(.sl 0)]
 |42=>[qI,qI,qI,qI,qI,qI,qI,qI,qI]
 |43=>[.str,qI,qI,qI,qI,qI,qI]
 |44=>[qI,qI,qI,qI]
 |45=>[qI,qI]
 |46=>[(.sl 22)]
 |47=>[qI,qI,qI]
 |_=>[.int .i64]
def anr(n:Nat):Bool:=match n with
 |0=>ai
 |1=>ai
 |2=>ai
 |3=>ab
 |4=>ab
 |5=>ab
 |6=>ab
 |7=>ab
 |8=>ab
 |9=>ab
 |10=>ab
 |11=>ab
 |12=>ab
 |13=>ai
 |14=>ab
 |15=>ab
 |16=>ab
 |17=>ab
 |18=>ab
 |19=>ab
 |20=>ab
 |21=>ab
 |22=>ab
 |23=>ab
 |24=>ab
 |25=>ab
 |26=>ai
 |27=>ai
 |28=>ab
 |29=>ab
 |30=>ab
 |31=>ab
 |32=>ab
 |33=>ab
 |34=>ab
 |35=>ab
 |36=>ab
 |37=>ab
 |38=>ab
 |39=>ab
 |40=>ab
 |41=>ab
 |42=>ab
 |43=>ab
 |44=>ab
 |45=>ab
 |46=>ab
 |47=>ab
 |_=>ai
def anp:∀n:Nat,D n->HL D (QJ n)
 |0=>λx=>x
 |1=>λx=>x
 |2=>λx=>x
 |3=>λx=>(x.aB,x.ae,x.aj,x.az,x.bi,x.aZ)
 |4=>λx=>(x.Kind,x.A,x.B)
 |5=>λx=>(x.ik,x.eX,x.Start)
 |6=>λx=>(x.eV,x.eX,x.kB,x.b9,x.cf)
 |7=>λx=>(x.Start,x.Stop,x.nX)
 |8=>λx=>(x.Time,x.ax.aG,x.ax.aj,x.ax.aX,x.ax.aS,x.pO,x.rW)
 |9=>λx=>(x.State,x.gJ,x.aZ,x.bi)
 |10=>λx=>(x.Kind,x.Number)
 |11=>λx=>(x.iS,x.jx)
 |12=>λx=>(x.Time,x.Act.Kind,x.Act.Unit,x.Act.Value,x.X5)
 |13=>λx=>x
 |14=>λx=>(x.aG,x.aj,x.aX,x.aS)
 |15=>λx=>(x.iF,x.ib,x.cT)
 |16=>λx=>(x.Kind,x.tq,x.Max,x.vZ,x.fL,x.nW)
 |17=>λx=>(x.fC,x.To)
 |18=>λx=>(x.dJ.oP.dC,x.dJ.oP.fp,x.dJ.oP.fK,x.dJ.oR.dC,x.dJ.oR.fp,x.dJ.oR.fK,x.dJ.oQ.dC,x.dJ.oQ.fp,x.dJ.oQ.fK,x.dJ.Fi,x.dJ.Fk,x.dJ.Ft,x.dJ.Fc,x.dk.iF,x.dk.ib,x.dk.cT,x.aw.aB,x.aw.ae,x.aw.aj,x.aw.az,x.aw.bi,x.aw.aZ,x.ia.Start,x.ia.Stop,x.ia.nX,x.dy.fj,x.dy.ic,x.dy.il,x.PG,x.fb.Fe,x.fb.Sum,x.fb.Calm,x.fb.iQ,x.fb.rX,x.fb.E8,x.fb.Fg,x.fb.Fh,x.fb.Ff,x.Target.Place.X,x.Target.Place.Y,x.Target.Fm,x.nX,x.fX.Name,x.fX.Fu,x.fX.fZ.Place.X,x.fX.fZ.Place.Y,x.fX.fZ.zd,x.fX.fZ.zh,x.fX.rX,x.nV.E9)
 |19=>λx=>(x.fC.Kind,x.fC.Number,x.To.Kind,x.To.Number)
 |20=>λx=>(x.Name,x.fj)
 |21=>λx=>(x.X8,x.XY,x.XA,x.X2)
 |22=>λx=>(x.Name,x.Xy,x.Xx,x.cf)
 |23=>λx=>(x.dC,x.fp,x.fK)
 |24=>λx=>(x.aB,x.aj,x.az)
 |25=>λx=>(x.fj,x.ic,x.il)
 |26=>λx=>x.n
 |27=>λx=>x
 |28=>λx=>x
 |29=>λx=>(x.Kind,x.Unit,x.Value)
 |30=>λx=>(x.cO.Time,x.cO.ax.aG,x.cO.ax.aj,x.cO.ax.aX,x.cO.ax.aS,x.cO.pO,x.cO.rW,x.aR.aB,x.aR.ae,x.aR.aj,x.aR.az,x.aR.bi,x.aR.aZ,x.events,x.FZ)
 |31=>λx=>(x.aR.aB,x.aR.ae,x.aR.aj,x.aR.az,x.aR.bi,x.aR.aZ,x.bh.aG,x.bh.aj,x.bh.aX,x.bh.aS,x.time)
 |32=>λx=>(x.aR.aB,x.aR.ae,x.aR.aj,x.aR.az,x.aR.bi,x.aR.aZ,x.bh.aG,x.bh.aj,x.bh.aX,x.bh.aS,x.vW)
 |33=>λx=>(x.X,x.Y)
 |34=>λx=>(x.dC,x.iF,x.ib)
 |35=>λx=>(x.Xz,x.B0.dC,x.B0.iF,x.B0.ib,x.BW.dC,x.BW.iF,x.BW.ib)
 |36=>λx=>(x.wy,x.last)
 |37=>λx=>(x.jx,x.iS,x.fL)
 |38=>λx=>(x.Part.Kind,x.Part.Number,x.xu)
 |39=>λx=>(x.L,x.At)
 |40=>λx=>(x.oP.dC,x.oP.fp,x.oP.fK,x.oR.dC,x.oR.fp,x.oR.fK,x.oQ.dC,x.oQ.fp,x.oQ.fK,x.Fi,x.Fk,x.Ft,x.Fc)
 |41=>λx=>(x.dC,x.fp,x.fK)
 |42=>λx=>(x.Fe,x.Sum,x.Calm,x.iQ,x.rX,x.E8,x.Fg,x.Fh,x.Ff)
 |43=>λx=>(x.Name,x.Fu,x.fZ.Place.X,x.fZ.Place.Y,x.fZ.zd,x.fZ.zh,x.rX)
 |44=>λx=>(x.Place.X,x.Place.Y,x.zd,x.zh)
 |45=>λx=>(x.X,x.Y)
 |46=>λx=>x.E9
 |47=>λx=>(x.Place.X,x.Place.Y,x.Fm)
 |_+48=>λx=>x
def anq:∀n:Nat,HL D (QJ n)->D n
 |0=>λh=>h
 |1=>λh=>h
 |2=>λh=>h
 |3=>λh=>⟨h.1,h.2.1,h.2.2.1,h.2.2.2.1,h.2.2.2.2.1,h.2.2.2.2.2⟩
 |4=>λh=>⟨h.1,h.2.1,h.2.2⟩
 |5=>λh=>⟨h.1,h.2.1,h.2.2⟩
 |6=>λh=>⟨h.1,h.2.1,h.2.2.1,h.2.2.2.1,h.2.2.2.2⟩
 |7=>λh=>⟨h.1,h.2.1,h.2.2⟩
 |8=>λh=>⟨h.1,⟨h.2.1,h.2.2.1,h.2.2.2.1,h.2.2.2.2.1⟩,h.2.2.2.2.2.1,h.2.2.2.2.2.2⟩
 |9=>λh=>⟨h.1,h.2.1,h.2.2.1,h.2.2.2⟩
 |10=>λh=>⟨h.1,h.2⟩
 |11=>λh=>⟨h.1,h.2⟩
 |12=>λh=>⟨h.1,⟨h.2.1,h.2.2.1,h.2.2.2.1⟩,h.2.2.2.2⟩
 |13=>λh=>h
 |14=>λh=>⟨h.1,h.2.1,h.2.2.1,h.2.2.2⟩
 |15=>λh=>⟨h.1,h.2.1,h.2.2⟩
 |16=>λh=>⟨h.1,h.2.1,h.2.2.1,h.2.2.2.1,h.2.2.2.2.1,h.2.2.2.2.2⟩
 |17=>λh=>⟨h.1,h.2⟩
 |18=>λh=>⟨⟨⟨h.1,h.2.1,h.2.2.1⟩,⟨h.2.2.2.1,h.2.2.2.2.1,h.2.2.2.2.2.1⟩,⟨h.2.2.2.2.2.2.1,h.2.2.2.2.2.2.2.1,h.2.2.2.2.2.2.2.2.1⟩,h.2.2.2.2.2.2.2.2.2.1,h.2.2.2.2.2.2.2.2.2.2.1,h.2.2.2.2.2.2.2.2.2.2.2.1,h.2.2.2.2.2.2.2.2.2.2.2.2.1⟩,⟨h.2.2.2.2.2.2.2.2.2.2.2.2.2.1,h.2.2.2.2.2.2.2.2.2.2.2.2.2.2.1,h.2.2.2.2.2.2.2.2.2.2.2.2.2.2.2.1⟩,⟨h.2.2.2.2.2.2.2.2.2.2.2.2.2.2.2.2.1,h.2.2.2.2.2.2.2.2.2.2.2.2.2.2.2.2.2.1,h.2.2.2.2.2.2.2.2.2.2.2.2.2.2.2.2.2.2.1,h.2.2.2.2.2.2.2.2.2.2.2.2.2.2.2.2.2.2.2.1,h.2.2.2.2.2.2.2.2.2.2.2.2.2.2.2.2.2.2.2.2.1,h.2.2.2.2.2.2.2.2.2.2.2.2.2.2.2.2.2.2.2.2.2.1⟩,⟨h.2.2.2.2.2.2.2.2.2.2.2.2.2.2.2.2.2.2.2.2.2.2.1,h.2.2.2.2.2.2.2.2.2.2.2.2.2.2.2.2.2.2.2.2.2.2.2.1,h.2.2.2.2.2.2.2.2.2.2.2.2.2.2.2.2.2.2.2.2.2.2.2.2.1⟩,⟨h.2.2.2.2.2.2.2.2.2.2.2.2.2.2.2.2.2.2.2.2.2.2.2.2.2.1,h.2.2.2.2.2.2.2.2.2.2.2.2.2.2.2.2.2.2.2.2.2.2.2.2.2.2.1,h.2.2.2.2.2.2.2.2.2.2.2.2.2.2.2.2.2.2.2.2.2.2.2.2.2.2.2.1⟩,h.2.2.2.2.2.2.2.2.2.2.2.2.2.2.2.2.2.2.2.2.2.2.2.2.2.2.2.2.1,⟨h.2.2.2.2.2.2.2.2.2.2.2.2.2.2.2.2.2.2.2.2.2.2.2.2.2.2.2.2.2.1,h.2.2.2.2.2.2.2.2.2.2.2.2.2.2.2.2.2.2.2.2.2.2.2.2.2.2.2.2.2.2.1,h.2.2.2.2.2.2.2.2.2.2.2.2.2.2.2.2.2.2.2.2.2.2.2.2.2.2.2.2.2.2.2.1,h.2.2.2.2.2.2.2.2.2.2.2.2.2.2.2.2.2.2.2.2.2.2.2.2.2.2.2.2.2.2.2.2.1,h.2.2.2.2.2.2.2.2.2.2.2.2.2.2.2.2.2.2.2.2.2.2.2.2.2.2.2.2.2.2.2.2.2.1,h.2.2.2.2.2.2.2.2.2.2.2.2.2.2.2.2.2.2.2.2.2.2.2.2.2.2.2.2.2.2.2.2.2.2.1,h.2.2.2.2.2.2.2.2.2.2.2.2.2.2.2.2.2.2.2.2.2.2.2.2.2.2.2.2.2.2.2.2.2.2.2.1,h.2.2.2.2.2.2.2.2.2.2.2.2.2.2.2.2.2.2.2.2.2.2.2.2.2.2.2.2.2.2.2.2.2.2.2.2.1,h.2.2.2.2.2.2.2.2.2.2.2.2.2.2.2.2.2.2.2.2.2.2.2.2.2.2.2.2.2.2.2.2.2.2.2.2.2.1⟩,⟨⟨h.2.2.2.2.2.2.2.2.2.2.2.2.2.2.2.2.2.2.2.2.2.2.2.2.2.2.2.2.2.2.2.2.2.2.2.2.2.2.1,h.2.2.2.2.2.2.2.2.2.2.2.2.2.2.2.2.2.2.2.2.2.2.2.2.2.2.2.2.2.2.2.2.2.2.2.2.2.2.2.1⟩,h.2.2.2.2.2.2.2.2.2.2.2.2.2.2.2.2.2.2.2.2.2.2.2.2.2.2.2.2.2.2.2.2.2.2.2.2.2.2.2.2.1⟩,h.2.2.2.2.2.2.2.2.2.2.2.2.2.2.2.2.2.2.2.2.2.2.2.2.2.2.2.2.2.2.2.2.2.2.2.2.2.2.2.2.2.1,⟨h.2.2.2.2.2.2.2.2.2.2.2.2.2.2.2.2.2.2.2.2.2.2.2.2.2.2.2.2.2.2.2.2.2.2.2.2.2.2.2.2.2.2.1,h.2.2.2.2.2.2.2.2.2.2.2.2.2.2.2.2.2.2.2.2.2.2.2.2.2.2.2.2.2.2.2.2.2.2.2.2.2.2.2.2.2.2.2.1,⟨⟨h.2.2.2.2.2.2.2.2.2.2.2.2.2.2.2.2.2.2.2.2.2.2.2.2.2.2.2.2.2.2.2.2.2.2.2.2.2.2.2.2.2.2.2.2.1,h.2.2.2.2.2.2.2.2.2.2.2.2.2.2.2.2.2.2.2.2.2.2.2.2.2.2.2.2.2.2.2.2.2.2.2.2.2.2.2.2.2.2.2.2.2.1⟩,h.2.2.2.2.2.2.2.2.2.2.2.2.2.2.2.2.2.2.2.2.2.2.2.2.2.2.2.2.2.2.2.2.2.2.2.2.2.2.2.2.2.2.2.2.2.2.1,h.2.2.2.2.2.2.2.2.2.2.2.2.2.2.2.2.2.2.2.2.2.2.2.2.2.2.2.2.2.2.2.2.2.2.2.2.2.2.2.2.2.2.2.2.2.2.2.1⟩,h.2.2.2.2.2.2.2.2.2.2.2.2.2.2.2.2.2.2.2.2.2.2.2.2.2.2.2.2.2.2.2.2.2.2.2.2.2.2.2.2.2.2.2.2.2.2.2.2.1⟩,⟨h.2.2.2.2.2.2.2.2.2.2.2.2.2.2.2.2.2.2.2.2.2.2.2.2.2.2.2.2.2.2.2.2.2.2.2.2.2.2.2.2.2.2.2.2.2.2.2.2.2⟩⟩
 |19=>λh=>⟨⟨h.1,h.2.1⟩,⟨h.2.2.1,h.2.2.2⟩⟩
 |20=>λh=>⟨h.1,h.2⟩
 |21=>λh=>⟨h.1,h.2.1,h.2.2.1,h.2.2.2⟩
 |22=>λh=>⟨h.1,h.2.1,h.2.2.1,h.2.2.2⟩
 |23=>λh=>⟨h.1,h.2.1,h.2.2⟩
 |24=>λh=>⟨h.1,h.2.1,h.2.2⟩
 |25=>λh=>⟨h.1,h.2.1,h.2.2⟩
 |26=>λh=>⟨h⟩
 |27=>λh=>h
 |28=>λh=>h
 |29=>λh=>⟨h.1,h.2.1,h.2.2⟩
 |30=>λh=>⟨⟨h.1,⟨h.2.1,h.2.2.1,h.2.2.2.1,h.2.2.2.2.1⟩,h.2.2.2.2.2.1,h.2.2.2.2.2.2.1⟩,⟨h.2.2.2.2.2.2.2.1,h.2.2.2.2.2.2.2.2.1,h.2.2.2.2.2.2.2.2.2.1,h.2.2.2.2.2.2.2.2.2.2.1,h.2.2.2.2.2.2.2.2.2.2.2.1,h.2.2.2.2.2.2.2.2.2.2.2.2.1⟩,h.2.2.2.2.2.2.2.2.2.2.2.2.2.1,h.2.2.2.2.2.2.2.2.2.2.2.2.2.2⟩
 |31=>λh=>⟨⟨h.1,h.2.1,h.2.2.1,h.2.2.2.1,h.2.2.2.2.1,h.2.2.2.2.2.1⟩,⟨h.2.2.2.2.2.2.1,h.2.2.2.2.2.2.2.1,h.2.2.2.2.2.2.2.2.1,h.2.2.2.2.2.2.2.2.2.1⟩,h.2.2.2.2.2.2.2.2.2.2⟩
 |32=>λh=>⟨⟨h.1,h.2.1,h.2.2.1,h.2.2.2.1,h.2.2.2.2.1,h.2.2.2.2.2.1⟩,⟨h.2.2.2.2.2.2.1,h.2.2.2.2.2.2.2.1,h.2.2.2.2.2.2.2.2.1,h.2.2.2.2.2.2.2.2.2.1⟩,h.2.2.2.2.2.2.2.2.2.2⟩
 |33=>λh=>⟨h.1,h.2⟩
 |34=>λh=>⟨h.1,h.2.1,h.2.2⟩
 |35=>λh=>⟨h.1,⟨h.2.1,h.2.2.1,h.2.2.2.1⟩,⟨h.2.2.2.2.1,h.2.2.2.2.2.1,h.2.2.2.2.2.2⟩⟩
 |36=>λh=>⟨h.1,h.2⟩
 |37=>λh=>⟨h.1,h.2.1,h.2.2⟩
 |38=>λh=>⟨⟨h.1,h.2.1⟩,h.2.2⟩
 |39=>λh=>⟨h.1,h.2⟩
 |40=>λh=>⟨⟨h.1,h.2.1,h.2.2.1⟩,⟨h.2.2.2.1,h.2.2.2.2.1,h.2.2.2.2.2.1⟩,⟨h.2.2.2.2.2.2.1,h.2.2.2.2.2.2.2.1,h.2.2.2.2.2.2.2.2.1⟩,h.2.2.2.2.2.2.2.2.2.1,h.2.2.2.2.2.2.2.2.2.2.1,h.2.2.2.2.2.2.2.2.2.2.2.1,h.2.2.2.2.2.2.2.2.2.2.2.2⟩
 |41=>λh=>⟨h.1,h.2.1,h.2.2⟩
 |42=>λh=>⟨h.1,h.2.1,h.2.2.1,h.2.2.2.1,h.2.2.2.2.1,h.2.2.2.2.2.1,h.2.2.2.2.2.2.1,h.2.2.2.2.2.2.2.1,h.2.2.2.2.2.2.2.2⟩
 |43=>λh=>⟨h.1,h.2.1,⟨⟨h.2.2.1,h.2.2.2.1⟩,h.2.2.2.2.1,h.2.2.2.2.2.1⟩,h.2.2.2.2.2.2⟩
 |44=>λh=>⟨⟨h.1,h.2.1⟩,h.2.2.1,h.2.2.2⟩
 |45=>λh=>⟨h.1,h.2⟩
 |46=>λh=>⟨h⟩
 |47=>λh=>⟨⟨h.1,h.2.1⟩,h.2.2⟩
 |_+48=>λh=>h
def ano:∀n:Nat,D n
 |0=>(0:Int)
 |1=>ai
 |2=>tv
 |3=>(⟨0,[],[],[],0,0⟩:aw)
 |4=>(⟨0,0,0⟩:cH)
 |5=>(⟨0,0,0⟩:Source)
 |6=>(⟨0,0,0,0,[]⟩:Consumer)
 |7=>(⟨0,0,0⟩:ia)
 |8=>(⟨0,⟨[],[],[],[]⟩,[],[]⟩:cO)
 |9=>(⟨0,0,0,0⟩:bo)
 |10=>(⟨0,0⟩:Part)
 |11=>(⟨0,0⟩:eO)
 |12=>(⟨0,⟨0,0,0⟩,0⟩:Event)
 |13=>([]:(List Int))
 |14=>(⟨[],[],[],[]⟩:ax)
 |15=>(⟨0,0,[]⟩:dk)
 |16=>(⟨0,0,0,0,0,[]⟩:b9)
 |17=>(⟨0,0⟩:iG)
 |18=>(⟨⟨⟨[],[],[]⟩,⟨[],[],[]⟩,⟨[],[],[]⟩,0,0,0,0⟩,⟨0,0,[]⟩,⟨0,[],[],[],0,0⟩,⟨0,0,0⟩,⟨[],[],[]⟩,[],⟨0,0,0,0,0,0,0,0,0⟩,⟨⟨0,0⟩,0⟩,0,⟨tv,0,⟨⟨0,0⟩,0,0⟩,0⟩,⟨[]⟩⟩:jM)
 |19=>(⟨⟨0,0⟩,⟨0,0⟩⟩:jN)
 |20=>(⟨tv,[]⟩:jk)
 |21=>(⟨0,0,0,0⟩:k_)
 |22=>(⟨tv,0,0,[]⟩:ns)
 |23=>(⟨0,0,0⟩:fc)
 |24=>(⟨[],[],[]⟩:bu)
 |25=>(⟨[],[],[]⟩:dy)
 |26=>(⟨0⟩:U8)
 |27=>([]:(List Part))
 |28=>(0,0,ai)
 |29=>(⟨0,0,0⟩:Act)
 |30=>(⟨⟨0,⟨[],[],[],[]⟩,[],[]⟩,⟨0,[],[],[],0,0⟩,[],[]⟩:p8)
 |31=>(⟨⟨0,[],[],[],0,0⟩,⟨[],[],[],[]⟩,0⟩:oi)
 |32=>(⟨⟨0,[],[],[],0,0⟩,⟨[],[],[],[]⟩,[]⟩:fF)
 |33=>(⟨0,0⟩:fU)
 |34=>(⟨0,0,0⟩:mh)
 |35=>(⟨[],⟨0,0,0⟩,⟨0,0,0⟩⟩:Fv)
 |36=>(⟨[],[]⟩:pt)
 |37=>(⟨0,0,0⟩:fw)
 |38=>(⟨⟨0,0⟩,ai⟩:jy)
 |39=>(⟨[],0⟩:Src)
 |40=>(⟨⟨[],[],[]⟩,⟨[],[],[]⟩,⟨[],[],[]⟩,0,0,0,0⟩:dJ)
 |41=>(⟨[],[],[]⟩:j_)
 |42=>(⟨0,0,0,0,0,0,0,0,0⟩:fb)
 |43=>(⟨tv,0,⟨⟨0,0⟩,0,0⟩,0⟩:fX)
 |44=>(⟨⟨0,0⟩,0,0⟩:fZ)
 |45=>(⟨0,0⟩:iQ)
 |46=>(⟨[]⟩:nV)
 |47=>(⟨⟨0,0⟩,0⟩:Target)
 |_+48=>(0:Int)
def T:bc D where
 lv:=QJ
 ag:=anr
 Dd:=anp
 Ai:=anq
 zero:=ano
 ty:=[(3,.one qI),(4,.one .bool),(5,.one (.int .u8)),(9,.one .str),(22,.one (.sl 0)),(24,.ptr),(27,.st 41),(29,.st 40),(30,.one (.sl 16)),(32,.st 15),(33,.one (.sl 4)),(34,.one (.sl 5)),(35,.one (.sl 6)),(37,.st 3),(39,.st 7),(40,.one (.sl 10)),(41,.one (.sl 19)),(42,.one (.sl 20)),(44,.st 25),(45,.one (.sl 21)),(47,.st 42),(49,.st 45),(51,.st 47),(53,.st 44),(55,.st 43),(56,.one (.sl 22)),(58,.st 46),(60,.st 18),(62,.one (.sl 1)),(63,.one (.sl 9)),(65,.st 14),(66,.one (.sl 11)),(67,.one (.sl 12)),(69,.st 8),(72,.st 23),(74,.one (.sl 38)),(75,.one qI),(79,.st 10),(81,.st 38),(91,.st 39),(93,.st 4),(96,.st 5),(99,.st 6),(100,.one (.sl 17)),(102,.st 16),(104,.st 21),(110,.st 11),(120,.one (.sl 14)),(124,.st 29),(132,.st 34),(140,.st 9),(154,.st 19),(155,.one (.sl 2)),(157,.st 20),(165,.fn),(176,.one (.sl 27)),(179,.ptr),(183,.st 30),(192,.st 12),(199,.one (.sl 33)),(201,.st 35),(209,.one (.int .u64)),(217,.one (.sl 26)),(219,.st 22),(224,.one (.sl 24)),(227,.st 24),(253,.one (.sl 29)),(264,.st 33),(267,.st 36),(272,.one (.sl 37)),(277,.one (.sl 13)),(283,.one (.int .u64)),(288,.st 17),(297,.one qI),(308,.ptr),(310,.st 31),(313,.ptr),(331,.st 37),(355,.st 32)]
 uu:=[(27,[(0,1),(1,1),(2,1)]),(29,[(0,3),(3,3),(6,3),(9,1),(10,1),(11,1),(12,1)]),(32,[(0,1),(1,1),(2,1)]),(37,[(0,1),(1,1),(2,1),(3,1),(4,1),(5,1)]),(39,[(0,1),(1,1),(2,1)]),(44,[(0,1),(1,1),(2,1)]),(47,[(0,1),(1,1),(2,1),(3,1),(4,1),(5,1),(6,1),(7,1),(8,1)]),(49,[(0,1),(1,1)]),(51,[(0,2),(2,1)]),(53,[(0,2),(2,1),(3,1)]),(55,[(0,1),(1,1),(2,4),(6,1)]),(58,[(0,1)]),(60,[(0,13),(13,3),(16,6),(22,3),(25,3),(28,1),(29,9),(38,3),(41,1),(42,7),(49,1)]),(65,[(0,1),(1,1),(2,1),(3,1)]),(69,[(0,1),(1,4),(5,1),(6,1)]),(72,[(0,1),(1,1),(2,1)]),(79,[(0,1),(1,1)]),(81,[(0,2),(2,1)]),(91,[(0,1),(1,1)]),(93,[(0,1),(1,1),(2,1)]),(96,[(0,1),(1,1),(2,1)]),(99,[(0,1),(1,1),(2,1),(3,1),(4,1)]),(102,[(0,1),(1,1),(2,1),(3,1),(4,1),(5,1)]),(104,[(0,1),(1,1),(2,1),(3,1)]),(110,[(0,1),(1,1)]),(124,[(0,1),(1,1),(2,1)]),(132,[(0,1),(1,1),(2,1)]),(140,[(0,1),(1,1),(2,1),(3,1)]),(154,[(0,2),(2,2)]),(157,[(0,1),(1,1)]),(183,[(0,7),(7,6),(13,1),(14,1)]),(192,[(0,1),(1,3),(4,1)]),(201,[(0,1),(1,3),(4,3)]),(219,[(0,1),(1,1),(2,1),(3,1)]),(227,[(0,1),(1,1),(2,1)]),(264,[(0,1),(1,1)]),(267,[(0,1),(1,1)]),(288,[(0,1),(1,1)]),(310,[(0,6),(6,4),(10,1)]),(331,[(0,1),(1,1),(2,1)]),(355,[(0,6),(6,4),(10,1)])]
 dh:=[(22,3,0),(30,102,16),(33,93,4),(34,96,5),(35,99,6),(40,79,10),(41,154,19),(42,157,20),(45,104,21),(56,219,22),(62,4,1),(63,140,9),(66,110,11),(67,192,12),(74,81,38),(100,288,17),(120,65,14),(155,9,2),(176,40,27),(199,264,33),(217,5,26),(224,227,24),(253,124,29),(272,331,37),(277,22,13)]
 Bs:=[(79,[qI,qI]),(93,[qI,qI,qI]),(132,[qI,qI,qI]),(140,[qI,qI,qI,qI])]
 kd:=[(13,3,0),(24,3,0)]
 qO:=[]
 pre:=[163873,258090,270378,4295131162]
 qf:=[(172,79,4,28)]
def rd4:aC D cH (λx=>[⟨qI,x.Kind⟩,⟨qI,x.A⟩,⟨qI,x.B⟩]):=λS w cs x=>(aC.prod aC.int (aC.prod aC.int (aC.int)):aC D (Int×Int×Int) _) S w cs (akw x)
def rd5:aC D Source (λx=>[⟨qI,x.ik⟩,⟨qI,x.eX⟩,⟨qI,x.Start⟩]):=λS w cs x=>(aC.prod aC.int (aC.prod aC.int (aC.int)):aC D (Int×Int×Int) _) S w cs (aj1 x)
def rd6:aC D Consumer (λx=>[⟨qI,x.eV⟩,⟨qI,x.eX⟩,⟨qI,x.kB⟩,⟨qI,x.b9⟩,⟨(.sl 0),x.cf⟩]):=λS w cs x=>(aC.prod aC.int (aC.prod aC.int (aC.prod aC.int (aC.prod aC.int ((aC.sl 0))))):aC D (Int×Int×Int×Int×(List Int)) _) S w cs (aku x)
def GM:aC D aw (λx=>[⟨qI,x.aB⟩,⟨(.sl 4),x.ae⟩,⟨(.sl 5),x.aj⟩,⟨(.sl 6),x.az⟩,⟨qI,x.bi⟩,⟨qI,x.aZ⟩]):=λS w cs x=>(aC.prod aC.int (aC.prod (aC.sl 4) (aC.prod (aC.sl 5) (aC.prod (aC.sl 6) (aC.prod aC.int (aC.int))))):aC D (Int×(List cH)×(List Source)×(List Consumer)×Int×Int) _) S w cs (akx x)
def rd7:aC D ia (λx=>[⟨qI,x.Start⟩,⟨qI,x.Stop⟩,⟨qI,x.nX⟩]):=λS w cs x=>(aC.prod aC.int (aC.prod aC.int (aC.int)):aC D (Int×Int×Int) _) S w cs (ajW x)
def rd9:aC D bo (λx=>[⟨qI,x.State⟩,⟨qI,x.gJ⟩,⟨qI,x.aZ⟩,⟨qI,x.bi⟩]):=λS w cs x=>(aC.prod aC.int (aC.prod aC.int (aC.prod aC.int (aC.int))):aC D (Int×Int×Int×Int) _) S w cs (aj5 x)
def Lo:aC D Part (λx=>[⟨qI,x.Kind⟩,⟨qI,x.Number⟩]):=λS w cs x=>(aC.prod aC.int (aC.int):aC D (Int×Int) _) S w cs (aka x)
def Ln:aC D ax (λx=>[⟨(.sl 1),x.aG⟩,⟨(.sl 9),x.aj⟩,⟨(.sl 0),x.aX⟩,⟨(.sl 10),x.aS⟩]):=λS w cs x=>(aC.prod (aC.sl 1) (aC.prod (aC.sl 9) (aC.prod (aC.sl 0) ((aC.sl 10)))):aC D ((List Bool)×(List bo)×(List Int)×(List Part)) _) S w cs (aj9 x)
def apK:aC D eO (λx=>[⟨qI,x.iS⟩,⟨qI,x.jx⟩]):=λS w cs x=>(aC.prod aC.int (aC.int):aC D (Int×Int) _) S w cs (aj6 x)
def aaW:aC D Act (λx=>[⟨qI,x.Kind⟩,⟨qI,x.Unit⟩,⟨qI,x.Value⟩]):=λS w cs x=>(aC.prod aC.int (aC.prod aC.int (aC.int)):aC D (Int×Int×Int) _) S w cs (akB x)
def apJ:aC D Event (λx=>[⟨qI,x.Time⟩,⟨qI,x.Act.Kind⟩,⟨qI,x.Act.Unit⟩,⟨qI,x.Act.Value⟩,⟨qI,x.X5⟩]):=λS w cs x=>(aC.prod aC.int (aC.prod aaW (aC.int)):aC D (Int×Act×Int) _) S w cs (akp x)
def rd8:aC D cO (λx=>[⟨qI,x.Time⟩,⟨(.sl 1),x.ax.aG⟩,⟨(.sl 9),x.ax.aj⟩,⟨(.sl 0),x.ax.aX⟩,⟨(.sl 10),x.ax.aS⟩,⟨(.sl 11),x.pO⟩,⟨(.sl 12),x.rW⟩]):=λS w cs x=>(aC.prod aC.int (aC.prod Ln (aC.prod (aC.sl 11) ((aC.sl 12)))):aC D (Int×ax×(List eO)×(List Event)) _) S w cs (aj' x)
def apG:aC D iG (λx=>[⟨qI,x.fC⟩,⟨qI,x.To⟩]):=λS w cs x=>(aC.prod aC.int (aC.int):aC D (Int×Int) _) S w cs (akz x)
def apH:aC D b9 (λx=>[⟨qI,x.Kind⟩,⟨qI,x.tq⟩,⟨qI,x.Max⟩,⟨qI,x.vZ⟩,⟨qI,x.fL⟩,⟨(.sl 17),x.nW⟩]):=λS w cs x=>(aC.prod aC.int (aC.prod aC.int (aC.prod aC.int (aC.prod aC.int (aC.prod aC.int ((aC.sl 17)))))):aC D (Int×Int×Int×Int×Int×(List iG)) _) S w cs (ajT x)
def aaY:aC D dk (λx=>[⟨qI,x.iF⟩,⟨qI,x.ib⟩,⟨(.sl 16),x.cT⟩]):=λS w cs x=>(aC.prod aC.int (aC.prod aC.int ((aC.sl 16))):aC D (Int×Int×(List b9)) _) S w cs (aj2 x)
def Lm:aC D j_ (λx=>[⟨(.sl 0),x.dC⟩,⟨(.sl 0),x.fp⟩,⟨(.sl 0),x.fK⟩]):=λS w cs x=>(aC.prod (aC.sl 0) (aC.prod (aC.sl 0) ((aC.sl 0))):aC D ((List Int)×(List Int)×(List Int)) _) S w cs (akt x)
def aaV:aC D dJ (λx=>[⟨(.sl 0),x.oP.dC⟩,⟨(.sl 0),x.oP.fp⟩,⟨(.sl 0),x.oP.fK⟩,⟨(.sl 0),x.oR.dC⟩,⟨(.sl 0),x.oR.fp⟩,⟨(.sl 0),x.oR.fK⟩,⟨(.sl 0),x.oQ.dC⟩,⟨(.sl 0),x.oQ.fp⟩,⟨(.sl 0),x.oQ.fK⟩,⟨qI,x.Fi⟩,⟨qI,x.Fk⟩,⟨qI,x.Ft⟩,⟨qI,x.Fc⟩]):=λS w cs x=>(aC.prod Lm (aC.prod Lm (aC.prod Lm (aC.prod aC.int (aC.prod aC.int (aC.prod aC.int (aC.int)))))):aC D (j_×j_×j_×Int×Int×Int×Int) _) S w cs (akh x)
def apD:aC D jN (λx=>[⟨qI,x.fC.Kind⟩,⟨qI,x.fC.Number⟩,⟨qI,x.To.Kind⟩,⟨qI,x.To.Number⟩]):=λS w cs x=>(aC.prod Lo (Lo):aC D (Part×Part) _) S w cs (akd x)
def apC:aC D jk (λx=>[⟨.str,x.Name⟩,⟨(.sl 10),x.fj⟩]):=λS w cs x=>(aC.prod aC.str ((aC.sl 10)):aC D (ByteArray×(List Part)) _) S w cs (akj x)
def aaX:aC D dy (λx=>[⟨(.sl 10),x.fj⟩,⟨(.sl 19),x.ic⟩,⟨(.sl 20),x.il⟩]):=λS w cs x=>(aC.prod (aC.sl 10) (aC.prod (aC.sl 19) ((aC.sl 20))):aC D ((List Part)×(List jN)×(List jk)) _) S w cs (akr x)
def apB:aC D k_ (λx=>[⟨qI,x.X8⟩,⟨qI,x.XY⟩,⟨qI,x.XA⟩,⟨qI,x.X2⟩]):=λS w cs x=>(aC.prod aC.int (aC.prod aC.int (aC.prod aC.int (aC.int))):aC D (Int×Int×Int×Int) _) S w cs (aj8 x)
def aaU:aC D fb (λx=>[⟨qI,x.Fe⟩,⟨qI,x.Sum⟩,⟨qI,x.Calm⟩,⟨qI,x.iQ⟩,⟨qI,x.rX⟩,⟨qI,x.E8⟩,⟨qI,x.Fg⟩,⟨qI,x.Fh⟩,⟨qI,x.Ff⟩]):=λS w cs x=>(aC.prod aC.int (aC.prod aC.int (aC.prod aC.int (aC.prod aC.int (aC.prod aC.int (aC.prod aC.int (aC.prod aC.int (aC.prod aC.int (aC.int)))))))):aC D (Int×Int×Int×Int×Int×Int×Int×Int×Int) _) S w cs (akk x)
def RZ:aC D iQ (λx=>[⟨qI,x.X⟩,⟨qI,x.Y⟩]):=λS w cs x=>(aC.prod aC.int (aC.int):aC D (Int×Int) _) S w cs (aj_ x)
def aaQ:aC D Target (λx=>[⟨qI,x.Place.X⟩,⟨qI,x.Place.Y⟩,⟨qI,x.Fm⟩]):=λS w cs x=>(aC.prod RZ (aC.int):aC D (iQ×Int) _) S w cs (ajV x)
def aaS:aC D fZ (λx=>[⟨qI,x.Place.X⟩,⟨qI,x.Place.Y⟩,⟨qI,x.zd⟩,⟨qI,x.zh⟩]):=λS w cs x=>(aC.prod RZ (aC.prod aC.int (aC.int)):aC D (iQ×Int×Int) _) S w cs (akv x)
def aaT:aC D fX (λx=>[⟨.str,x.Name⟩,⟨qI,x.Fu⟩,⟨qI,x.fZ.Place.X⟩,⟨qI,x.fZ.Place.Y⟩,⟨qI,x.fZ.zd⟩,⟨qI,x.fZ.zh⟩,⟨qI,x.rX⟩]):=λS w cs x=>(aC.prod aC.str (aC.prod aC.int (aC.prod aaS (aC.int))):aC D (ByteArray×Int×fZ×Int) _) S w cs (akb x)
def apA:aC D ns (λx=>[⟨.str,x.Name⟩,⟨qI,x.Xy⟩,⟨qI,x.Xx⟩,⟨(.sl 0),x.cf⟩]):=λS w cs x=>(aC.prod aC.str (aC.prod aC.int (aC.prod aC.int ((aC.sl 0)))):aC D (ByteArray×Int×Int×(List Int)) _) S w cs (ajX x)
def aaR:aC D nV (λx=>[⟨(.sl 22),x.E9⟩]):=λS w cs x=>((aC.sl 22):aC D ((List ns)) _) S w cs (aj4 x)
def apF:aC D jM (λx=>[⟨(.sl 0),x.dJ.oP.dC⟩,⟨(.sl 0),x.dJ.oP.fp⟩,⟨(.sl 0),x.dJ.oP.fK⟩,⟨(.sl 0),x.dJ.oR.dC⟩,⟨(.sl 0),x.dJ.oR.fp⟩,⟨(.sl 0),x.dJ.oR.fK⟩,⟨(.sl 0),x.dJ.oQ.dC⟩,⟨(.sl 0),x.dJ.oQ.fp⟩,⟨(.sl 0),x.dJ.oQ.fK⟩,⟨qI,x.dJ.Fi⟩,⟨qI,x.dJ.Fk⟩,⟨qI,x.dJ.Ft⟩,⟨qI,x.dJ.Fc⟩,⟨qI,x.dk.iF⟩,⟨qI,x.dk.ib⟩,⟨(.sl 16),x.dk.cT⟩,⟨qI,x.aw.aB⟩,⟨(.sl 4),x.aw.ae⟩,⟨(.sl 5),x.aw.aj⟩,⟨(.sl 6),x.aw.az⟩,⟨qI,x.aw.bi⟩,⟨qI,x.aw.aZ⟩,⟨qI,x.ia.Start⟩,⟨qI,x.ia.Stop⟩,⟨qI,x.ia.nX⟩,⟨(.sl 10),x.dy.fj⟩,⟨(.sl 19),x.dy.ic⟩,⟨(.sl 20),x.dy.il⟩,⟨(.sl 21),x.PG⟩,⟨qI,x.fb.Fe⟩,⟨qI,x.fb.Sum⟩,⟨qI,x.fb.Calm⟩,⟨qI,x.fb.iQ⟩,⟨qI,x.fb.rX⟩,⟨qI,x.fb.E8⟩,⟨qI,x.fb.Fg⟩,⟨qI,x.fb.Fh⟩,⟨qI,x.fb.Ff⟩,⟨qI,x.Target.Place.X⟩,⟨qI,x.Target.Place.Y⟩,⟨qI,x.Target.Fm⟩,⟨qI,x.nX⟩,⟨.str,x.fX.Name⟩,⟨qI,x.fX.Fu⟩,⟨qI,x.fX.fZ.Place.X⟩,⟨qI,x.fX.fZ.Place.Y⟩,⟨qI,x.fX.fZ.zd⟩,⟨qI,x.fX.fZ.zh⟩,⟨qI,x.fX.rX⟩,⟨(.sl 22),x.nV.E9⟩]):=λS w cs x=>(aC.prod aaV (aC.prod aaY (aC.prod GM (aC.prod rd7 (aC.prod aaX (aC.prod (aC.sl 21) (aC.prod aaU (aC.prod aaQ (aC.prod aC.int (aC.prod aaT (aaR)))))))))):aC D (dJ×dk×aw×ia×dy×(List k_)×fb×Target×Int×fX×nV) _) S w cs (ajQ x)
def apz:aC D fc (λx=>[⟨qI,x.dC⟩,⟨qI,x.fp⟩,⟨qI,x.fK⟩]):=λS w cs x=>(aC.prod aC.int (aC.prod aC.int (aC.int)):aC D (Int×Int×Int) _) S w cs (akl x)
def apy:aC D bu (λx=>[⟨(.sl 0),x.aB⟩,⟨(.sl 0),x.aj⟩,⟨(.sl 0),x.az⟩]):=λS w cs x=>(aC.prod (aC.sl 0) (aC.prod (aC.sl 0) ((aC.sl 0))):aC D ((List Int)×(List Int)×(List Int)) _) S w cs (akg x)
def apv:aC D p8 (λx=>[⟨qI,x.cO.Time⟩,⟨(.sl 1),x.cO.ax.aG⟩,⟨(.sl 9),x.cO.ax.aj⟩,⟨(.sl 0),x.cO.ax.aX⟩,⟨(.sl 10),x.cO.ax.aS⟩,⟨(.sl 11),x.cO.pO⟩,⟨(.sl 12),x.cO.rW⟩,⟨qI,x.aR.aB⟩,⟨(.sl 4),x.aR.ae⟩,⟨(.sl 5),x.aR.aj⟩,⟨(.sl 6),x.aR.az⟩,⟨qI,x.aR.bi⟩,⟨qI,x.aR.aZ⟩,⟨(.sl 12),x.events⟩,⟨(.sl 14),x.FZ⟩]):=λS w cs x=>(aC.prod rd8 (aC.prod GM (aC.prod (aC.sl 12) ((aC.sl 14)))):aC D (cO×aw×(List Event)×(List ax)) _) S w cs (aan x)
def apu:aC D oi (λx=>[⟨qI,x.aR.aB⟩,⟨(.sl 4),x.aR.ae⟩,⟨(.sl 5),x.aR.aj⟩,⟨(.sl 6),x.aR.az⟩,⟨qI,x.aR.bi⟩,⟨qI,x.aR.aZ⟩,⟨(.sl 1),x.bh.aG⟩,⟨(.sl 9),x.bh.aj⟩,⟨(.sl 0),x.bh.aX⟩,⟨(.sl 10),x.bh.aS⟩,⟨qI,x.time⟩]):=λS w cs x=>(aC.prod GM (aC.prod Ln (aC.int)):aC D (aw×ax×Int) _) S w cs (Zc x)
def apt:aC D fF (λx=>[⟨qI,x.aR.aB⟩,⟨(.sl 4),x.aR.ae⟩,⟨(.sl 5),x.aR.aj⟩,⟨(.sl 6),x.aR.az⟩,⟨qI,x.aR.bi⟩,⟨qI,x.aR.aZ⟩,⟨(.sl 1),x.bh.aG⟩,⟨(.sl 9),x.bh.aj⟩,⟨(.sl 0),x.bh.aX⟩,⟨(.sl 10),x.bh.aS⟩,⟨(.sl 29),x.vW⟩]):=λS w cs x=>(aC.prod GM (aC.prod Ln ((aC.sl 29))):aC D (aw×ax×(List Act)) _) S w cs (aaF x)
def aps:aC D fU (λx=>[⟨qI,x.X⟩,⟨qI,x.Y⟩]):=λS w cs x=>(aC.prod aC.int (aC.int):aC D (Int×Int) _) S w cs (ajU x)
def R2:aC D mh (λx=>[⟨qI,x.dC⟩,⟨qI,x.iF⟩,⟨qI,x.ib⟩]):=λS w cs x=>(aC.prod aC.int (aC.prod aC.int (aC.int)):aC D (Int×Int×Int) _) S w cs (aks x)
def apr:aC D Fv (λx=>[⟨(.sl 33),x.Xz⟩,⟨qI,x.B0.dC⟩,⟨qI,x.B0.iF⟩,⟨qI,x.B0.ib⟩,⟨qI,x.BW.dC⟩,⟨qI,x.BW.iF⟩,⟨qI,x.BW.ib⟩]):=λS w cs x=>(aC.prod (aC.sl 33) (aC.prod R2 (R2)):aC D ((List fU)×mh×mh) _) S w cs (akA x)
def apq:aC D pt (λx=>[⟨(.sl 16),x.wy⟩,⟨(.sl 33),x.last⟩]):=λS w cs x=>(aC.prod (aC.sl 16) ((aC.sl 33)):aC D ((List b9)×(List fU)) _) S w cs (abx x)
def apo:aC D fw (λx=>[⟨qI,x.jx⟩,⟨qI,x.iS⟩,⟨qI,x.fL⟩]):=λS w cs x=>(aC.prod aC.int (aC.prod aC.int (aC.int)):aC D (Int×Int×Int) _) S w cs (aj3 x)
def apn:aC D jy (λx=>[⟨qI,x.Part.Kind⟩,⟨qI,x.Part.Number⟩,⟨.bool,x.xu⟩]):=λS w cs x=>(aC.prod Lo (aC.bool):aC D (Part×Bool) _) S w cs (akn x)
def apm:aC D Src (λx=>[⟨(.sl 0),x.L⟩,⟨qI,x.At⟩]):=λS w cs x=>(aC.prod (aC.sl 0) (aC.int):aC D ((List Int)×Int) _) S w cs (ajY x)
def apI:aC D (List Int) (λx=>[⟨.sl 0,x⟩]):=aC.sl 0
def apx:aC D (List Part) (λx=>[⟨.sl 10,x⟩]):=aC.sl 10
def apw:aC D (Int×Int×Bool) (λx=>[⟨qI,x.1⟩,⟨qI,x.2.1⟩,⟨.bool,x.2.2⟩]):=aC.prod aC.int (aC.prod aC.int (aC.bool))
def pg:cF T where
 sz:=λn=>match n with
  |0=>rfl
  |1=>rfl
  |2=>rfl
  |3=>rfl
  |4=>rfl
  |5=>rfl
  |6=>rfl
  |7=>rfl
  |8=>rfl
  |9=>rfl
  |10=>rfl
  |11=>rfl
  |12=>rfl
  |13=>rfl
  |14=>rfl
  |15=>rfl
  |16=>rfl
  |17=>rfl
  |18=>rfl
  |19=>rfl
  |20=>rfl
  |21=>rfl
  |22=>rfl
  |23=>rfl
  |24=>rfl
  |25=>rfl
  |26=>rfl
  |27=>rfl
  |28=>rfl
  |29=>rfl
  |30=>rfl
  |31=>rfl
  |32=>rfl
  |33=>rfl
  |34=>rfl
  |35=>rfl
  |36=>rfl
  |37=>rfl
  |38=>rfl
  |39=>rfl
  |40=>rfl
  |41=>rfl
  |42=>rfl
  |43=>rfl
  |44=>rfl
  |45=>rfl
  |46=>rfl
  |47=>rfl
  |_+48=>rfl
 ag:=λn=>match n with
  |0=>rfl
  |1=>rfl
  |2=>rfl
  |3=>rfl
  |4=>rfl
  |5=>rfl
  |6=>rfl
  |7=>rfl
  |8=>rfl
  |9=>rfl
  |10=>rfl
  |11=>rfl
  |12=>rfl
  |13=>rfl
  |14=>rfl
  |15=>rfl
  |16=>rfl
  |17=>rfl
  |18=>rfl
  |19=>rfl
  |20=>rfl
  |21=>rfl
  |22=>rfl
  |23=>rfl
  |24=>rfl
  |25=>rfl
  |26=>rfl
  |27=>rfl
  |28=>rfl
  |29=>rfl
  |30=>rfl
  |31=>rfl
  |32=>rfl
  |33=>rfl
  |34=>rfl
  |35=>rfl
  |36=>rfl
  |37=>rfl
  |38=>rfl
  |39=>rfl
  |40=>rfl
  |41=>rfl
  |42=>rfl
  |43=>rfl
  |44=>rfl
  |45=>rfl
  |46=>rfl
  |47=>rfl
  |_+48=>rfl
 zc:=λn=>match n with
  |0=>rfl
  |1=>rfl
  |2=>rfl
  |3=>rfl
  |4=>rfl
  |5=>rfl
  |6=>rfl
  |7=>rfl
  |8=>rfl
  |9=>rfl
  |10=>rfl
  |11=>rfl
  |12=>rfl
  |13=>rfl
  |14=>rfl
  |15=>rfl
  |16=>rfl
  |17=>rfl
  |18=>rfl
  |19=>rfl
  |20=>rfl
  |21=>rfl
  |22=>rfl
  |23=>rfl
  |24=>rfl
  |25=>rfl
  |26=>rfl
  |27=>rfl
  |28=>rfl
  |29=>rfl
  |30=>rfl
  |31=>rfl
  |32=>rfl
  |33=>rfl
  |34=>rfl
  |35=>rfl
  |36=>rfl
  |37=>rfl
  |38=>rfl
  |39=>rfl
  |40=>rfl
  |41=>rfl
  |42=>rfl
  |43=>rfl
  |44=>rfl
  |45=>rfl
  |46=>rfl
  |47=>rfl
  |_+48=>rfl
 zero:=λn=>match n with
  |0=>rfl
  |1=>rfl
  |2=>rfl
  |3=>rfl
  |4=>rfl
  |5=>rfl
  |6=>rfl
  |7=>rfl
  |8=>rfl
  |9=>rfl
  |10=>rfl
  |11=>rfl
  |12=>rfl
  |13=>rfl
  |14=>rfl
  |15=>rfl
  |16=>rfl
  |17=>rfl
  |18=>rfl
  |19=>rfl
  |20=>rfl
  |21=>rfl
  |22=>rfl
  |23=>rfl
  |24=>rfl
  |25=>rfl
  |26=>rfl
  |27=>rfl
  |28=>rfl
  |29=>rfl
  |30=>rfl
  |31=>rfl
  |32=>rfl
  |33=>rfl
  |34=>rfl
  |35=>rfl
  |36=>rfl
  |37=>rfl
  |38=>rfl
  |39=>rfl
  |40=>rfl
  |41=>rfl
  |42=>rfl
  |43=>rfl
  |44=>rfl
  |45=>rfl
  |46=>rfl
  |47=>rfl
  |_+48=>rfl
 rd:=λn S w cs x=>match n,x with
  |0,x=>aC.int S w cs x
  |1,x=>aC.bool S w cs x
  |2,x=>aC.str S w cs x
  |3,x=>GM S w cs x
  |4,x=>rd4 S w cs x
  |5,x=>rd5 S w cs x
  |6,x=>rd6 S w cs x
  |7,x=>rd7 S w cs x
  |8,x=>rd8 S w cs x
  |9,x=>rd9 S w cs x
  |10,x=>Lo S w cs x
  |11,x=>apK S w cs x
  |12,x=>apJ S w cs x
  |13,x=>apI S w cs x
  |14,x=>Ln S w cs x
  |15,x=>aaY S w cs x
  |16,x=>apH S w cs x
  |17,x=>apG S w cs x
  |18,x=>apF S w cs x
  |19,x=>apD S w cs x
  |20,x=>apC S w cs x
  |21,x=>apB S w cs x
  |22,x=>apA S w cs x
  |23,x=>apz S w cs x
  |24,x=>apy S w cs x
  |25,x=>aaX S w cs x
  |26,x=>aC.u8 S w cs x
  |27,x=>apx S w cs x
  |28,x=>apw S w cs x
  |29,x=>aaW S w cs x
  |30,x=>apv S w cs x
  |31,x=>apu S w cs x
  |32,x=>apt S w cs x
  |33,x=>aps S w cs x
  |34,x=>R2 S w cs x
  |35,x=>apr S w cs x
  |36,x=>apq S w cs x
  |37,x=>apo S w cs x
  |38,x=>apn S w cs x
  |39,x=>apm S w cs x
  |40,x=>aaV S w cs x
  |41,x=>Lm S w cs x
  |42,x=>aaU S w cs x
  |43,x=>aaT S w cs x
  |44,x=>aaS S w cs x
  |45,x=>RZ S w cs x
  |46,x=>aaR S w cs x
  |47,x=>aaQ S w cs x
  |_+48,x=>aC.int S w cs x
 uv:=λn=>match n with
  |0=>by decide
  |1=>by decide
  |2=>by decide
  |3=>by decide
  |4=>by decide
  |5=>by decide
  |6=>by decide
  |7=>by decide
  |8=>by decide
  |9=>by decide
  |10=>by decide
  |11=>by decide
  |12=>by decide
  |13=>by decide
  |14=>by decide
  |15=>by decide
  |16=>by decide
  |17=>by decide
  |18=>by decide
  |19=>by decide
  |20=>by decide
  |21=>by decide
  |22=>by decide
  |23=>by decide
  |24=>by decide
  |25=>by decide
  |26=>by decide
  |27=>by decide
  |28=>by decide
  |29=>by decide
  |30=>by decide
  |31=>by decide
  |32=>by decide
  |33=>by decide
  |34=>by decide
  |35=>by decide
  |36=>by decide
  |37=>by decide
  |38=>by decide
  |39=>by decide
  |40=>by decide
  |41=>by decide
  |42=>by decide
  |43=>by decide
  |44=>by decide
  |45=>by decide
  |46=>by decide
  |47=>by decide
  |_+48=>by show 1<=112;decide
 LX:=λn h=>match n,h with
  |0,h=>rfl
  |1,h=>rfl
  |2,h=>rfl
  |3,h=>rfl
  |4,h=>rfl
  |5,h=>rfl
  |6,h=>rfl
  |7,h=>rfl
  |8,h=>rfl
  |9,h=>rfl
  |10,h=>rfl
  |11,h=>rfl
  |12,h=>rfl
  |13,h=>rfl
  |14,h=>rfl
  |15,h=>rfl
  |16,h=>rfl
  |17,h=>rfl
  |18,h=>rfl
  |19,h=>rfl
  |20,h=>rfl
  |21,h=>rfl
  |22,h=>rfl
  |23,h=>rfl
  |24,h=>rfl
  |25,h=>rfl
  |26,h=>rfl
  |27,h=>rfl
  |28,h=>rfl
  |29,h=>rfl
  |30,h=>rfl
  |31,h=>rfl
  |32,h=>rfl
  |33,h=>rfl
  |34,h=>rfl
  |35,h=>rfl
  |36,h=>rfl
  |37,h=>rfl
  |38,h=>rfl
  |39,h=>rfl
  |40,h=>rfl
  |41,h=>rfl
  |42,h=>rfl
  |43,h=>rfl
  |44,h=>rfl
  |45,h=>rfl
  |46,h=>rfl
  |47,h=>rfl
  |_+48,h=>rfl
def amu:ck prog T 3 (.one qI):=⟨bq.of underlying3 rfl (by kernel_rfl),underlying3⟩
def amh:ck prog T 4 (.one .bool):=⟨bq.of underlying4 rfl (by kernel_rfl),underlying4⟩
def al':ck prog T 5 (.one (.int .u8)):=⟨bq.of underlying5 rfl (by kernel_rfl),underlying5⟩
def alT:ck prog T 9 (.one .str):=⟨bq.of underlying9 rfl (by kernel_rfl),underlying9⟩
def amI:ck prog T 22 (.one (.sl 0)):=⟨bq.of underlying22 rfl (by kernel_rfl),trivial⟩
def amF:ck prog T 24 (.ptr):=⟨bq.of underlying24 rfl (by kernel_rfl),trivial⟩
def amB:ck prog T 27 (.st 41):=⟨bq.of underlying27 rfl (by kernel_rfl),trivial⟩
def amw:ck prog T 29 (.st 40):=⟨bq.of underlying29 rfl (by kernel_rfl),trivial⟩
def amt:ck prog T 30 (.one (.sl 16)):=⟨bq.of underlying30 rfl (by kernel_rfl),trivial⟩
def amp:ck prog T 32 (.st 15):=⟨bq.of underlying32 rfl (by kernel_rfl),trivial⟩
def amo:ck prog T 33 (.one (.sl 4)):=⟨bq.of underlying33 rfl (by kernel_rfl),trivial⟩
def amm:ck prog T 34 (.one (.sl 5)):=⟨bq.of underlying34 rfl (by kernel_rfl),trivial⟩
def aml:ck prog T 35 (.one (.sl 6)):=⟨bq.of underlying35 rfl (by kernel_rfl),trivial⟩
def amj:ck prog T 37 (.st 3):=⟨bq.of underlying37 rfl (by kernel_rfl),trivial⟩
def ami:ck prog T 39 (.st 7):=⟨bq.of underlying39 rfl (by kernel_rfl),trivial⟩
def amg:ck prog T 40 (.one (.sl 10)):=⟨bq.of underlying40 rfl (by kernel_rfl),trivial⟩
def amf:ck prog T 41 (.one (.sl 19)):=⟨bq.of underlying41 rfl (by kernel_rfl),trivial⟩
def ame:ck prog T 42 (.one (.sl 20)):=⟨bq.of underlying42 rfl (by kernel_rfl),trivial⟩
def amd:ck prog T 44 (.st 25):=⟨bq.of underlying44 rfl (by kernel_rfl),trivial⟩
def amc:ck prog T 45 (.one (.sl 21)):=⟨bq.of underlying45 rfl (by kernel_rfl),trivial⟩
def amb:ck prog T 47 (.st 42):=⟨bq.of underlying47 rfl (by kernel_rfl),trivial⟩
def ama:ck prog T 49 (.st 45):=⟨bq.of underlying49 rfl (by kernel_rfl),trivial⟩
def al_:ck prog T 51 (.st 47):=⟨bq.of underlying51 rfl (by kernel_rfl),trivial⟩
def al9:ck prog T 53 (.st 44):=⟨bq.of underlying53 rfl (by kernel_rfl),trivial⟩
def al8:ck prog T 55 (.st 43):=⟨bq.of underlying55 rfl (by kernel_rfl),trivial⟩
def al7:ck prog T 56 (.one (.sl 22)):=⟨bq.of underlying56 rfl (by kernel_rfl),trivial⟩
def al6:ck prog T 58 (.st 46):=⟨bq.of underlying58 rfl (by kernel_rfl),trivial⟩
def al5:ck prog T 60 (.st 18):=⟨bq.of underlying60 rfl (by kernel_rfl),trivial⟩
def al4:ck prog T 62 (.one (.sl 1)):=⟨bq.of underlying62 rfl (by kernel_rfl),trivial⟩
def al3:ck prog T 63 (.one (.sl 9)):=⟨bq.of underlying63 rfl (by kernel_rfl),trivial⟩
def al2:ck prog T 65 (.st 14):=⟨bq.of underlying65 rfl (by kernel_rfl),trivial⟩
def al1:ck prog T 66 (.one (.sl 11)):=⟨bq.of underlying66 rfl (by kernel_rfl),trivial⟩
def al0:ck prog T 67 (.one (.sl 12)):=⟨bq.of underlying67 rfl (by kernel_rfl),trivial⟩
def alZ:ck prog T 69 (.st 8):=⟨bq.of underlying69 rfl (by kernel_rfl),trivial⟩
def alY:ck prog T 72 (.st 23):=⟨bq.of underlying72 rfl (by kernel_rfl),trivial⟩
def alX:ck prog T 74 (.one (.sl 38)):=⟨bq.of underlying74 rfl (by kernel_rfl),trivial⟩
def alW:ck prog T 75 (.one qI):=⟨bq.of underlying75 rfl (by kernel_rfl),underlying75⟩
def alV:ck prog T 79 (.st 10):=⟨bq.of underlying79 rfl (by kernel_rfl),trivial⟩
def alU:ck prog T 81 (.st 38):=⟨bq.of underlying81 rfl (by kernel_rfl),trivial⟩
def alS:ck prog T 91 (.st 39):=⟨bq.of underlying91 rfl (by kernel_rfl),trivial⟩
def alR:ck prog T 93 (.st 4):=⟨bq.of underlying93 rfl (by kernel_rfl),trivial⟩
def alQ:ck prog T 96 (.st 5):=⟨bq.of underlying96 rfl (by kernel_rfl),trivial⟩
def alP:ck prog T 99 (.st 6):=⟨bq.of underlying99 rfl (by kernel_rfl),trivial⟩
def am3:ck prog T 100 (.one (.sl 17)):=⟨bq.of underlying100 rfl (by kernel_rfl),trivial⟩
def am2:ck prog T 102 (.st 16):=⟨bq.of underlying102 rfl (by kernel_rfl),trivial⟩
def am1:ck prog T 104 (.st 21):=⟨bq.of underlying104 rfl (by kernel_rfl),trivial⟩
def am0:ck prog T 110 (.st 11):=⟨bq.of underlying110 rfl (by kernel_rfl),trivial⟩
def amZ:ck prog T 120 (.one (.sl 14)):=⟨bq.of underlying120 rfl (by kernel_rfl),trivial⟩
def amY:ck prog T 124 (.st 29):=⟨bq.of underlying124 rfl (by kernel_rfl),trivial⟩
def amX:ck prog T 132 (.st 34):=⟨bq.of underlying132 rfl (by kernel_rfl),trivial⟩
def amW:ck prog T 140 (.st 9):=⟨bq.of underlying140 rfl (by kernel_rfl),trivial⟩
def amV:ck prog T 154 (.st 19):=⟨bq.of underlying154 rfl (by kernel_rfl),trivial⟩
def amU:ck prog T 155 (.one (.sl 2)):=⟨bq.of underlying155 rfl (by kernel_rfl),trivial⟩
def amT:ck prog T 157 (.st 20):=⟨bq.of underlying157 rfl (by kernel_rfl),trivial⟩
def amS:ck prog T 165 (.fn):=⟨bq.of underlying165 rfl (by kernel_rfl),trivial⟩
def amR:ck prog T 176 (.one (.sl 27)):=⟨bq.of underlying176 rfl (by kernel_rfl),trivial⟩
def amQ:ck prog T 179 (.ptr):=⟨bq.of underlying179 rfl (by kernel_rfl),trivial⟩
def amP:ck prog T 183 (.st 30):=⟨bq.of underlying183 rfl (by kernel_rfl),trivial⟩
def amO:ck prog T 192 (.st 12):=⟨bq.of underlying192 rfl (by kernel_rfl),trivial⟩
def amN:ck prog T 199 (.one (.sl 33)):=⟨bq.of underlying199 rfl (by kernel_rfl),trivial⟩
def amM:ck prog T 201 (.st 35):=⟨bq.of underlying201 rfl (by kernel_rfl),trivial⟩
def amL:ck prog T 209 (.one (.int .u64)):=⟨bq.of underlying209 rfl (by kernel_rfl),underlying209⟩
def amK:ck prog T 217 (.one (.sl 26)):=⟨bq.of underlying217 rfl (by kernel_rfl),trivial⟩
def amJ:ck prog T 219 (.st 22):=⟨bq.of underlying219 rfl (by kernel_rfl),trivial⟩
def amH:ck prog T 224 (.one (.sl 24)):=⟨bq.of underlying224 rfl (by kernel_rfl),trivial⟩
def amG:ck prog T 227 (.st 24):=⟨bq.of underlying227 rfl (by kernel_rfl),trivial⟩
def amE:ck prog T 253 (.one (.sl 29)):=⟨bq.of underlying253 rfl (by kernel_rfl),trivial⟩
def amD:ck prog T 264 (.st 33):=⟨bq.of underlying264 rfl (by kernel_rfl),trivial⟩
def amC:ck prog T 267 (.st 36):=⟨bq.of underlying267 rfl (by kernel_rfl),trivial⟩
def amA:ck prog T 272 (.one (.sl 37)):=⟨bq.of underlying272 rfl (by kernel_rfl),trivial⟩
def amz:ck prog T 277 (.one (.sl 13)):=⟨bq.of underlying277 rfl (by kernel_rfl),trivial⟩
def amy:ck prog T 283 (.one (.int .u64)):=⟨bq.of underlying283 rfl (by kernel_rfl),underlying283⟩
def amx:ck prog T 288 (.st 17):=⟨bq.of underlying288 rfl (by kernel_rfl),trivial⟩
def amv:ck prog T 297 (.one qI):=⟨bq.of underlying297 rfl (by kernel_rfl),underlying297⟩
def ams:ck prog T 308 (.ptr):=⟨bq.of underlying308 rfl (by kernel_rfl),trivial⟩
def amr:ck prog T 310 (.st 31):=⟨bq.of underlying310 rfl (by kernel_rfl),trivial⟩
def amq:ck prog T 313 (.ptr):=⟨bq.of underlying313 rfl (by kernel_rfl),trivial⟩
def amn:ck prog T 331 (.st 37):=⟨bq.of underlying331 rfl (by kernel_rfl),trivial⟩
def amk:ck prog T 355 (.st 32):=⟨bq.of underlying355 rfl (by kernel_rfl),trivial⟩
def F5:prog.underlying 22=aa (.slice 3)∧bO prog 3 (D 0):=⟨underlying22,bO.of underlying3 rfl (by kernel_rfl)⟩
def aog:prog.underlying 30=aa (.slice 102)∧bO prog 102 (D 16):=⟨underlying30,bO.of underlying102 rfl (by kernel_rfl)⟩
def aof:prog.underlying 33=aa (.slice 93)∧bO prog 93 (D 4):=⟨underlying33,bO.of underlying93 rfl (by kernel_rfl)⟩
def aoe:prog.underlying 34=aa (.slice 96)∧bO prog 96 (D 5):=⟨underlying34,bO.of underlying96 rfl (by kernel_rfl)⟩
def aod:prog.underlying 35=aa (.slice 99)∧bO prog 99 (D 6):=⟨underlying35,bO.of underlying99 rfl (by kernel_rfl)⟩
def wB:prog.underlying 40=aa (.slice 79)∧bO prog 79 (D 10):=⟨underlying40,bO.of underlying79 rfl (by kernel_rfl)⟩
def aoc:prog.underlying 41=aa (.slice 154)∧bO prog 154 (D 19):=⟨underlying41,bO.of underlying154 rfl (by kernel_rfl)⟩
def aob:prog.underlying 42=aa (.slice 157)∧bO prog 157 (D 20):=⟨underlying42,bO.of underlying157 rfl (by kernel_rfl)⟩
def aoa:prog.underlying 45=aa (.slice 104)∧bO prog 104 (D 21):=⟨underlying45,bO.of underlying104 rfl (by kernel_rfl)⟩
def an':prog.underlying 56=aa (.slice 219)∧bO prog 219 (D 22):=⟨underlying56,bO.of underlying219 rfl (by kernel_rfl)⟩
def F4:prog.underlying 62=aa (.slice 4)∧bO prog 4 (D 1):=⟨underlying62,bO.of underlying4 rfl (by kernel_rfl)⟩
def F3:prog.underlying 63=aa (.slice 140)∧bO prog 140 (D 9):=⟨underlying63,bO.of underlying140 rfl (by kernel_rfl)⟩
def F2:prog.underlying 66=aa (.slice 110)∧bO prog 110 (D 11):=⟨underlying66,bO.of underlying110 rfl (by kernel_rfl)⟩
def F1:prog.underlying 67=aa (.slice 192)∧bO prog 192 (D 12):=⟨underlying67,bO.of underlying192 rfl (by kernel_rfl)⟩
def an_:prog.underlying 74=aa (.slice 81)∧bO prog 81 (D 38):=⟨underlying74,bO.of underlying81 rfl (by kernel_rfl)⟩
def F6:prog.underlying 100=aa (.slice 288)∧bO prog 288 (D 17):=⟨underlying100,bO.of underlying288 rfl (by kernel_rfl)⟩
def aop:prog.underlying 120=aa (.slice 65)∧bO prog 65 (D 14):=⟨underlying120,bO.of underlying65 rfl (by kernel_rfl)⟩
def aoo:prog.underlying 155=aa (.slice 9)∧bO prog 9 (D 2):=⟨underlying155,bO.of underlying9 rfl (by kernel_rfl)⟩
def aon:prog.underlying 176=aa (.slice 40)∧bO prog 40 (D 27):=⟨underlying176,bO.of underlying40 rfl (by kernel_rfl)⟩
def aom:prog.underlying 199=aa (.slice 264)∧bO prog 264 (D 33):=⟨underlying199,bO.of underlying264 rfl (by kernel_rfl)⟩
def aol:prog.underlying 217=aa (.slice 5)∧bO prog 5 (D 26):=⟨underlying217,bO.of underlying5 rfl (by kernel_rfl)⟩
def aok:prog.underlying 224=aa (.slice 227)∧bO prog 227 (D 24):=⟨underlying224,bO.of underlying227 rfl (by kernel_rfl)⟩
def aoj:prog.underlying 253=aa (.slice 124)∧bO prog 124 (D 29):=⟨underlying253,bO.of underlying124 rfl (by kernel_rfl)⟩
def aoi:prog.underlying 272=aa (.slice 331)∧bO prog 331 (D 37):=⟨underlying272,bO.of underlying331 rfl (by kernel_rfl)⟩
def aoh:prog.underlying 277=aa (.slice 22)∧bO prog 22 (D 13):=⟨underlying277,bO.of underlying22 rfl (by kernel_rfl)⟩
def awN:FG 27 [(0,1),(1,1),(2,1)]:=fi ⟨_,underlying27,by kernel_rfl⟩ rfl
def awL:FG 29 [(0,3),(3,3),(6,3),(9,1),(10,1),(11,1),(12,1)]:=fi ⟨_,underlying29,by kernel_rfl⟩ rfl
def awJ:FG 32 [(0,1),(1,1),(2,1)]:=fi ⟨_,underlying32,by kernel_rfl⟩ rfl
def awG:FG 37 [(0,1),(1,1),(2,1),(3,1),(4,1),(5,1)]:=fi ⟨_,underlying37,by kernel_rfl⟩ rfl
def awF:FG 39 [(0,1),(1,1),(2,1)]:=fi ⟨_,underlying39,by kernel_rfl⟩ rfl
def awE:FG 44 [(0,1),(1,1),(2,1)]:=fi ⟨_,underlying44,by kernel_rfl⟩ rfl
def awD:FG 47 [(0,1),(1,1),(2,1),(3,1),(4,1),(5,1),(6,1),(7,1),(8,1)]:=fi ⟨_,underlying47,by kernel_rfl⟩ rfl
def awC:FG 49 [(0,1),(1,1)]:=fi ⟨_,underlying49,by kernel_rfl⟩ rfl
def awB:FG 51 [(0,2),(2,1)]:=fi ⟨_,underlying51,by kernel_rfl⟩ rfl
def awA:FG 53 [(0,2),(2,1),(3,1)]:=fi ⟨_,underlying53,by kernel_rfl⟩ rfl
def awz:FG 55 [(0,1),(1,1),(2,4),(6,1)]:=fi ⟨_,underlying55,by kernel_rfl⟩ rfl
def awy:FG 58 [(0,1)]:=fi ⟨_,underlying58,by kernel_rfl⟩ rfl
def awx:FG 60 [(0,13),(13,3),(16,6),(22,3),(25,3),(28,1),(29,9),(38,3),(41,1),(42,7),(49,1)]:=fi ⟨_,underlying60,by kernel_rfl⟩ rfl
def aww:FG 65 [(0,1),(1,1),(2,1),(3,1)]:=fi ⟨_,underlying65,by kernel_rfl⟩ rfl
def awv:FG 69 [(0,1),(1,4),(5,1),(6,1)]:=fi ⟨_,underlying69,by kernel_rfl⟩ rfl
def awu:FG 72 [(0,1),(1,1),(2,1)]:=fi ⟨_,underlying72,by kernel_rfl⟩ rfl
def awt:FG 79 [(0,1),(1,1)]:=fi ⟨_,underlying79,by kernel_rfl⟩ rfl
def aws:FG 81 [(0,2),(2,1)]:=fi ⟨_,underlying81,by kernel_rfl⟩ rfl
def awr:FG 91 [(0,1),(1,1)]:=fi ⟨_,underlying91,by kernel_rfl⟩ rfl
def awq:FG 93 [(0,1),(1,1),(2,1)]:=fi ⟨_,underlying93,by kernel_rfl⟩ rfl
def awp:FG 96 [(0,1),(1,1),(2,1)]:=fi ⟨_,underlying96,by kernel_rfl⟩ rfl
def awo:FG 99 [(0,1),(1,1),(2,1),(3,1),(4,1)]:=fi ⟨_,underlying99,by kernel_rfl⟩ rfl
def aw2:FG 102 [(0,1),(1,1),(2,1),(3,1),(4,1),(5,1)]:=fi ⟨_,underlying102,by kernel_rfl⟩ rfl
def aw1:FG 104 [(0,1),(1,1),(2,1),(3,1)]:=fi ⟨_,underlying104,by kernel_rfl⟩ rfl
def aw0:FG 110 [(0,1),(1,1)]:=fi ⟨_,underlying110,by kernel_rfl⟩ rfl
def awZ:FG 124 [(0,1),(1,1),(2,1)]:=fi ⟨_,underlying124,by kernel_rfl⟩ rfl
def awY:FG 132 [(0,1),(1,1),(2,1)]:=fi ⟨_,underlying132,by kernel_rfl⟩ rfl
def awX:FG 140 [(0,1),(1,1),(2,1),(3,1)]:=fi ⟨_,underlying140,by kernel_rfl⟩ rfl
def awW:FG 154 [(0,2),(2,2)]:=fi ⟨_,underlying154,by kernel_rfl⟩ rfl
def awV:FG 157 [(0,1),(1,1)]:=fi ⟨_,underlying157,by kernel_rfl⟩ rfl
def awU:FG 183 [(0,7),(7,6),(13,1),(14,1)]:=fi ⟨_,underlying183,by kernel_rfl⟩ rfl
def awT:FG 192 [(0,1),(1,3),(4,1)]:=fi ⟨_,underlying192,by kernel_rfl⟩ rfl
def awS:FG 201 [(0,1),(1,3),(4,3)]:=fi ⟨_,underlying201,by kernel_rfl⟩ rfl
def awR:FG 219 [(0,1),(1,1),(2,1),(3,1)]:=fi ⟨_,underlying219,by kernel_rfl⟩ rfl
def awQ:FG 227 [(0,1),(1,1),(2,1)]:=fi ⟨_,underlying227,by kernel_rfl⟩ rfl
def awP:FG 264 [(0,1),(1,1)]:=fi ⟨_,underlying264,by kernel_rfl⟩ rfl
def awO:FG 267 [(0,1),(1,1)]:=fi ⟨_,underlying267,by kernel_rfl⟩ rfl
def awM:FG 288 [(0,1),(1,1)]:=fi ⟨_,underlying288,by kernel_rfl⟩ rfl
def awK:FG 310 [(0,6),(6,4),(10,1)]:=fi ⟨_,underlying310,by kernel_rfl⟩ rfl
def awI:FG 331 [(0,1),(1,1),(2,1)]:=fi ⟨_,underlying331,by kernel_rfl⟩ rfl
def awH:FG 355 [(0,6),(6,4),(10,1)]:=fi ⟨_,underlying355,by kernel_rfl⟩ rfl
def sX:lL prog 3 ai [qI] 1:=lL.int underlying3
def aeJ:lL prog 79 ab [qI,qI] 2:=by refine lL.struct (k:=1) underlying79 (by kernel_rfl) ?_;exact⟨by simp,rfl,ai,[qI],[qI],[.int .i64 0],rfl,bq.of underlying3 rfl (by kernel_rfl),rfl,λ_=>rfl,sX.up (by decide),⟨by simp,rfl,ai,[qI],[],[.int .i64 0],rfl,bq.of underlying3 rfl (by kernel_rfl),rfl,λ_=>rfl,sX.up (by decide),rfl⟩⟩
def axn:B1 prog 79 [qI,qI]∧([qI,qI]:List Lf).all jJ=ab:=⟨⟨⟨2,by decide,aeJ⟩,by kernel_rfl⟩,rfl⟩
def axq:lL prog 93 ab [qI,qI,qI] 2:=by refine lL.struct (k:=1) underlying93 (by kernel_rfl) ?_;exact⟨by simp,rfl,ai,[qI],[qI,qI],[.int .i64 0],rfl,bq.of underlying3 rfl (by kernel_rfl),rfl,λ_=>rfl,sX.up (by decide),⟨by simp,rfl,ai,[qI],[qI],[.int .i64 0],rfl,bq.of underlying3 rfl (by kernel_rfl),rfl,λ_=>rfl,sX.up (by decide),⟨by simp,rfl,ai,[qI],[],[.int .i64 0],rfl,bq.of underlying3 rfl (by kernel_rfl),rfl,λ_=>rfl,sX.up (by decide),rfl⟩⟩⟩
def axm:B1 prog 93 [qI,qI,qI]∧([qI,qI,qI]:List Lf).all jJ=ab:=⟨⟨⟨2,by decide,axq⟩,by kernel_rfl⟩,rfl⟩
def axs:lL prog 132 ab [qI,qI,qI] 2:=by refine lL.struct (k:=1) underlying132 (by kernel_rfl) ?_;exact⟨by simp,rfl,ai,[qI],[qI,qI],[.int .i64 0],rfl,bq.of underlying3 rfl (by kernel_rfl),rfl,λ_=>rfl,sX.up (by decide),⟨by simp,rfl,ai,[qI],[qI],[.int .i64 0],rfl,bq.of underlying3 rfl (by kernel_rfl),rfl,λ_=>rfl,sX.up (by decide),⟨by simp,rfl,ai,[qI],[],[.int .i64 0],rfl,bq.of underlying3 rfl (by kernel_rfl),rfl,λ_=>rfl,sX.up (by decide),rfl⟩⟩⟩
def axp:B1 prog 132 [qI,qI,qI]∧([qI,qI,qI]:List Lf).all jJ=ab:=⟨⟨⟨2,by decide,axs⟩,by kernel_rfl⟩,rfl⟩
def axr:lL prog 140 ab [qI,qI,qI,qI] 2:=by refine lL.struct (k:=1) underlying140 (by kernel_rfl) ?_;exact⟨by simp,rfl,ai,[qI],[qI,qI,qI],[.int .i64 0],rfl,bq.of underlying3 rfl (by kernel_rfl),rfl,λ_=>rfl,sX.up (by decide),⟨by simp,rfl,ai,[qI],[qI,qI],[.int .i64 0],rfl,bq.of underlying3 rfl (by kernel_rfl),rfl,λ_=>rfl,sX.up (by decide),⟨by simp,rfl,ai,[qI],[qI],[.int .i64 0],rfl,bq.of underlying3 rfl (by kernel_rfl),rfl,λ_=>rfl,sX.up (by decide),⟨by simp,rfl,ai,[qI],[],[.int .i64 0],rfl,bq.of underlying3 rfl (by kernel_rfl),rfl,λ_=>rfl,sX.up (by decide),rfl⟩⟩⟩⟩
def axo:B1 prog 140 [qI,qI,qI,qI]∧([qI,qI,qI,qI]:List Lf).all jJ=ab:=⟨⟨⟨2,by decide,axr⟩,by kernel_rfl⟩,rfl⟩
instance:Flat cH:=⟨λh=>Flat.any (α:=Int×Int×Int) h⟩
instance:Flat Source:=⟨λh=>Flat.any (α:=Int×Int×Int) h⟩
instance:Flat ia:=⟨λh=>Flat.any (α:=Int×Int×Int) h⟩
instance:Flat bo:=⟨λh=>Flat.any (α:=Int×Int×Int×Int) h⟩
instance:Flat Part:=⟨λh=>Flat.any (α:=Int×Int) h⟩
instance:Flat eO:=⟨λh=>Flat.any (α:=Int×Int) h⟩
instance:Flat Act:=⟨λh=>Flat.any (α:=Int×Int×Int) h⟩
instance:Flat Event:=⟨λh=>Flat.any (α:=Int×Act×Int) h⟩
instance:Flat iG:=⟨λh=>Flat.any (α:=Int×Int) h⟩
instance:Flat jN:=⟨λh=>Flat.any (α:=Part×Part) h⟩
instance:Flat k_:=⟨λh=>Flat.any (α:=Int×Int×Int×Int) h⟩
instance:Flat fc:=⟨λh=>Flat.any (α:=Int×Int×Int) h⟩
instance:Flat fU:=⟨λh=>Flat.any (α:=Int×Int) h⟩
instance:Flat mh:=⟨λh=>Flat.any (α:=Int×Int×Int) h⟩
instance:Flat fw:=⟨λh=>Flat.any (α:=Int×Int×Int) h⟩
instance:Flat jy:=⟨λh=>Flat.any (α:=Part×Bool) h⟩
instance:Flat fb:=⟨λh=>Flat.any (α:=Int×Int×Int×Int×Int×Int×Int×Int×Int) h⟩
instance:Flat iQ:=⟨λh=>Flat.any (α:=Int×Int) h⟩
instance:Flat fZ:=⟨λh=>Flat.any (α:=iQ×Int×Int) h⟩
instance:Flat fX:=⟨λh=>Flat.any (α:=ByteArray×Int×fZ×Int) h⟩
instance:Flat Target:=⟨λh=>Flat.any (α:=iQ×Int) h⟩
def aw8:Flat (D 0):=(inferInstance:Flat Int)
def aw7:Flat (D 1):=(inferInstance:Flat Bool)
def aw3:Flat (D 9):=(inferInstance:Flat bo)
def Va:Flat (D 10):=(inferInstance:Flat Part)
def aw6:Flat (D 11):=(inferInstance:Flat eO)
def aw5:Flat (D 12):=(inferInstance:Flat Event)
def aw4:Flat (D 17):=(inferInstance:Flat iG)
def arU:Ji prog D 13 3 0:=⟨(inferInstance:nt (List Int)),(inferInstance:Flat Int),bO.of underlying3 rfl (by kernel_rfl),rfl⟩
instance:nt bu:=⟨λh=>nt.loc (α:=(List Int)×(List Int)×(List Int)) h⟩
def arT:Ji prog D 24 3 0:=⟨(inferInstance:nt bu),(inferInstance:Flat Int),bO.of underlying3 rfl (by kernel_rfl),rfl⟩
def aqV:PK prog T 172 79 4 28:=⟨underlying172,(BY.struct (m:=2) (k:= .i64) underlying79 rfl (by decide) aeJ ⟨by simp,rfl,underlying3,⟨[.int .i64 0],bq.of underlying3 rfl (by kernel_rfl),rfl⟩,⟨by simp,rfl,underlying3,⟨[.int .i64 0],bq.of underlying3 rfl (by kernel_rfl),rfl⟩,trivial⟩⟩),rfl,.bool,rfl,bq.of underlying4 rfl (by kernel_rfl)⟩
def qc:dS prog T:=dS.of (⟨amu,amh,al',alT,amI,amF,amB,amw,amt,amp,amo,amm,aml,amj,ami,amg,amf,ame,amd,amc,amb,ama,al_,al9,al8,al7,al6,al5,al4,al3,al2,al1,al0,alZ,alY,alX,alW,alV,alU,alS,alR,alQ,alP,am3,am2,am1,am0,amZ,amY,amX,amW,amV,amU,amT,amS,amR,amQ,amP,amO,amN,amM,amL,amK,amJ,amH,amG,amE,amD,amC,amA,amz,amy,amx,amv,ams,amr,amq,amn,amk,trivial⟩) (⟨F5,aog,aof,aoe,aod,wB,aoc,aob,aoa,an',F4,F3,F2,F1,an_,F6,aop,aoo,aon,aom,aol,aok,aoj,aoi,aoh,trivial⟩) (⟨awN,awL,awJ,awG,awF,awE,awD,awC,awB,awA,awz,awy,awx,aww,awv,awu,awt,aws,awr,awq,awp,awo,aw2,aw1,aw0,awZ,awY,awX,awW,awV,awU,awT,awS,awR,awQ,awP,awO,awM,awK,awI,awH,trivial⟩) (⟨axn,axm,axp,axo,trivial⟩) (⟨arU,arT,trivial⟩) (trivial) (⟨aqV,trivial⟩)
def nK:prog.follows .mixedOrders=ab:=by kernel_rfl
def qN(f:Func):Code:=match f.body with
 |some c=>c
 |none=> .skip
