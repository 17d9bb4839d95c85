import Derived.Test.YtmngjhagbjgmfaaGreatRp
import Derived.Test.YtmngjhagbjgmfaaGreatProg
set_option linter.all false
open Bool renaming false->ai,true->ab
open ByteArray renaming empty->tq
open Option renaming some->aa
namespace Go.Proofs.YtmngjhagbjgmfaaGreat
open Go Go.RowKit Dp
namespace Rx
open Tryz
abbrev FG(t:Nat)(l:List (Nat×Nat)):Prop:=E6 prog t l∧∀i off sz,l[i]? =aa (off,sz)->Fj prog t i off
abbrev qI:Lf:= .int .i64
abbrev qZ{α:Type}[ad α]:α:=ad.zero
abbrev qR(α:Type)[h:ad α]:ad α:=h
structure cG where
 Kind:Int
 A:Int
 B:Int
def aks(x:cG):Int×Int×Int:=(x.Kind,x.A,x.B)
instance:ad cG:=ad.via aks ⟨qZ,qZ,qZ⟩ rfl
structure Source where
 ig:Int
 eU:Int
 Start:Int
def ajX(x:Source):Int×Int×Int:=(x.ig,x.eU,x.Start)
instance:ad Source:=ad.via ajX ⟨qZ,qZ,qZ⟩ rfl
structure Consumer where
 eT:Int
 eU:Int
 ky:Int
 b8:Int
 b_:(List Int)
def akq(x:Consumer):Int×Int×Int×Int×(List Int):=(x.eT,x.eU,x.ky,x.b8,x.b_)
instance:ad Consumer:=ad.via akq ⟨qZ,qZ,qZ,qZ,qZ⟩ rfl
structure au where
 aA:Int
 ae:(List cG)
 aj:(List Source)
 ay:(List Consumer)
 bh:Int
 aY:Int
def akt(x:au):Int×(List cG)×(List Source)×(List Consumer)×Int×Int:=(x.aA,x.ae,x.aj,x.ay,x.bh,x.aY)
instance:ad au:=ad.via akt ⟨qZ,qZ,qZ,qZ,qZ,qZ⟩ rfl
structure g9 where
 Start:Int
 Stop:Int
 nU:Int
def ajS(x:g9):Int×Int×Int:=(x.Start,x.Stop,x.nU)
instance:ad g9:=ad.via ajS ⟨qZ,qZ,qZ⟩ rfl
structure bn where
 State:Int
 gG:Int
 aY:Int
 bh:Int
def aj1(x:bn):Int×Int×Int×Int:=(x.State,x.gG,x.aY,x.bh)
instance:ad bn:=ad.via aj1 ⟨qZ,qZ,qZ,qZ⟩ rfl
structure Part where
 Kind:Int
 Number:Int
def aj8(x:Part):Int×Int:=(x.Kind,x.Number)
instance:ad Part:=ad.via aj8 ⟨qZ,qZ⟩ rfl
structure aw where
 aF:(List Bool)
 aj:(List bn)
 aW:(List Int)
 aR:(List Part)
def aj5(x:aw):(List Bool)×(List bn)×(List Int)×(List Part):=(x.aF,x.aj,x.aW,x.aR)
instance:ad aw:=ad.via aj5 ⟨qZ,qZ,qZ,qZ⟩ rfl
structure eM where
 iP:Int
 ju:Int
def aj2(x:eM):Int×Int:=(x.iP,x.ju)
instance:ad eM:=ad.via aj2 ⟨qZ,qZ⟩ rfl
structure Act where
 Kind:Int
 Unit:Int
 Value:Int
def akx(x:Act):Int×Int×Int:=(x.Kind,x.Unit,x.Value)
instance:ad Act:=ad.via akx ⟨qZ,qZ,qZ⟩ rfl
structure Event where
 Time:Int
 Act:Act
 X1:Int
def akl(x:Event):Int×Act×Int:=(x.Time,x.Act,x.X1)
instance:ad Event:=ad.via akl ⟨qZ,qZ,qZ⟩ rfl
structure cN where
 Time:Int
 aw:aw
 pL:(List eM)
 rT:(List Event)
def aj7(x:cN):Int×aw×(List eM)×(List Event):=(x.Time,x.aw,x.pL,x.rT)
instance:ad cN:=ad.via aj7 ⟨qZ,qZ,qZ,qZ⟩ rfl
structure iD where
 fA:Int
 To:Int
def akv(x:iD):Int×Int:=(x.fA,x.To)
instance:ad iD:=ad.via akv ⟨qZ,qZ⟩ rfl
structure b8 where
 Kind:Int
 s_:Int
 Max:Int
 vV:Int
 fJ:Int
 nT:(List iD)
def ajP(x:b8):Int×Int×Int×Int×Int×(List iD):=(x.Kind,x.s_,x.Max,x.vV,x.fJ,x.nT)
instance:ad b8:=ad.via ajP ⟨qZ,qZ,qZ,qZ,qZ,qZ⟩ rfl
structure di where
 iC:Int
 g_:Int
 cQ:(List b8)
def ajY(x:di):Int×Int×(List b8):=(x.iC,x.g_,x.cQ)
instance:ad di:=ad.via ajY ⟨qZ,qZ,qZ⟩ rfl
structure j7 where
 dz:(List Int)
 fk:(List Int)
 fI:(List Int)
def akp(x:j7):(List Int)×(List Int)×(List Int):=(x.dz,x.fk,x.fI)
instance:ad j7:=ad.via akp ⟨qZ,qZ,qZ⟩ rfl
structure dH where
 oM:j7
 oO:j7
 oN:j7
 Fe:Int
 Fg:Int
 Fo:Int
 E9:Int
def akd(x:dH):j7×j7×j7×Int×Int×Int×Int:=(x.oM,x.oO,x.oN,x.Fe,x.Fg,x.Fo,x.E9)
instance:ad dH:=ad.via akd ⟨qZ,qZ,qZ,qZ,qZ,qZ,qZ⟩ rfl
structure jK where
 fA:Part
 To:Part
def aj'(x:jK):Part×Part:=(x.fA,x.To)
instance:ad jK:=ad.via aj' ⟨qZ,qZ⟩ rfl
structure jh where
 Name:ByteArray
 fh:(List Part)
def akf(x:jh):ByteArray×(List Part):=(x.Name,x.fh)
instance:ad jh:=ad.via akf ⟨qZ,qZ⟩ rfl
structure dw where
 fh:(List Part)
 h_:(List jK)
 ii:(List jh)
def akn(x:dw):(List Part)×(List jK)×(List jh):=(x.fh,x.h_,x.ii)
instance:ad dw:=ad.via akn ⟨qZ,qZ,qZ⟩ rfl
structure kX where
 X4:Int
 XU:Int
 Xw:Int
 XY:Int
def aj4(x:kX):Int×Int×Int×Int:=(x.X4,x.XU,x.Xw,x.XY)
instance:ad kX:=ad.via aj4 ⟨qZ,qZ,qZ,qZ⟩ rfl
structure e_ where
 E_:Int
 Sum:Int
 Calm:Int
 iN:Int
 rU:Int
 E4:Int
 Fb:Int
 Fc:Int
 Fa:Int
def akg(x:e_):Int×Int×Int×Int×Int×Int×Int×Int×Int:=(x.E_,x.Sum,x.Calm,x.iN,x.rU,x.E4,x.Fb,x.Fc,x.Fa)
instance:ad e_:=ad.via akg ⟨qZ,qZ,qZ,qZ,qZ,qZ,qZ,qZ,qZ⟩ rfl
structure iN where
 X:Int
 Y:Int
def aj6(x:iN):Int×Int:=(x.X,x.Y)
instance:ad iN:=ad.via aj6 ⟨qZ,qZ⟩ rfl
structure Target where
 Place:iN
 Fi:Int
def ajR(x:Target):iN×Int:=(x.Place,x.Fi)
instance:ad Target:=ad.via ajR ⟨qZ,qZ⟩ rfl
structure fX where
 Place:iN
 y9:Int
 zd:Int
def akr(x:fX):iN×Int×Int:=(x.Place,x.y9,x.zd)
instance:ad fX:=ad.via akr ⟨qZ,qZ,qZ⟩ rfl
structure fV where
 Name:ByteArray
 Fp:Int
 fX:fX
 rU:Int
def aj9(x:fV):ByteArray×Int×fX×Int:=(x.Name,x.Fp,x.fX,x.rU)
instance:ad fV:=ad.via aj9 ⟨qZ,qZ,qZ,qZ⟩ rfl
structure np where
 Name:ByteArray
 Xu:Int
 Xt:Int
 b_:(List Int)
def ajT(x:np):ByteArray×Int×Int×(List Int):=(x.Name,x.Xu,x.Xt,x.b_)
instance:ad np:=ad.via ajT ⟨qZ,qZ,qZ,qZ⟩ rfl
structure nS where
 E5:(List np)
def aj0(x:nS):(List np):=(x.E5)
instance:ad nS:=ad.via aj0 ⟨qZ⟩ rfl
structure jJ where
 dH:dH
 di:di
 au:au
 g9:g9
 dw:dw
 PB:(List kX)
 e_:e_
 Target:Target
 nU:Int
 fV:fV
 nS:nS
def ajM(x:jJ):dH×di×au×g9×dw×(List kX)×e_×Target×Int×fV×nS:=(x.dH,x.di,x.au,x.g9,x.dw,x.PB,x.e_,x.Target,x.nU,x.fV,x.nS)
instance:ad jJ:=ad.via ajM ⟨qZ,qZ,qZ,qZ,qZ,qZ,qZ,qZ,qZ,qZ,qZ⟩ rfl
structure fa where
 dz:Int
 fk:Int
 fI:Int
def akh(x:fa):Int×Int×Int:=(x.dz,x.fk,x.fI)
instance:ad fa:=ad.via akh ⟨qZ,qZ,qZ⟩ rfl
structure bt where
 aA:(List Int)
 aj:(List Int)
 ay:(List Int)
def akc(x:bt):(List Int)×(List Int)×(List Int):=(x.aA,x.aj,x.ay)
instance:ad bt:=ad.via akc ⟨qZ,qZ,qZ⟩ rfl
structure pY where
 cN:cN
 aQ:au
 events:(List Event)
 FV:(List aw)
def aaj(x:pY):cN×au×(List Event)×(List aw):=(x.cN,x.aQ,x.events,x.FV)
instance:ad pY:=ad.via aaj ⟨qZ,qZ,qZ,qZ⟩ rfl
structure od where
 aQ:au
 bg:aw
 time:Int
def Y_(x:od):au×aw×Int:=(x.aQ,x.bg,x.time)
instance:ad od:=ad.via Y_ ⟨qZ,qZ,qZ⟩ rfl
structure fD where
 aQ:au
 bg:aw
 vR:(List Act)
def aaB(x:fD):au×aw×(List Act):=(x.aQ,x.bg,x.vR)
instance:ad fD:=ad.via aaB ⟨qZ,qZ,qZ⟩ rfl
structure fS where
 X:Int
 Y:Int
def ajQ(x:fS):Int×Int:=(x.X,x.Y)
instance:ad fS:=ad.via ajQ ⟨qZ,qZ⟩ rfl
structure mc where
 dz:Int
 iC:Int
 g_:Int
def ako(x:mc):Int×Int×Int:=(x.dz,x.iC,x.g_)
instance:ad mc:=ad.via ako ⟨qZ,qZ,qZ⟩ rfl
structure Fq where
 Xv:(List fS)
 BW:mc
 BS:mc
def akw(x:Fq):(List fS)×mc×mc:=(x.Xv,x.BW,x.BS)
instance:ad Fq:=ad.via akw ⟨qZ,qZ,qZ⟩ rfl
structure pi where
 wu:(List b8)
 last:(List fS)
def abt(x:pi):(List b8)×(List fS):=(x.wu,x.last)
instance:ad pi:=ad.via abt ⟨qZ,qZ⟩ rfl
structure ft where
 ju:Int
 iP:Int
 fJ:Int
def ajZ(x:ft):Int×Int×Int:=(x.ju,x.iP,x.fJ)
instance:ad ft:=ad.via ajZ ⟨qZ,qZ,qZ⟩ rfl
structure jv where
 Part:Part
 xp:Bool
def akj(x:jv):Part×Bool:=(x.Part,x.xp)
instance:ad jv:=ad.via akj ⟨qZ,qZ⟩ rfl
structure Src where
 L:(List Int)
 At:Int
def ajU(x:Src):(List Int)×Int:=(x.L,x.At)
instance:ad Src:=ad.via ajU ⟨qZ,qZ⟩ rfl
@[reducible] def D (n:Nat):Type:=match n with
  |0=>Int
  |1=>Bool
  |2=>ByteArray
  |3=>au
  |4=>cG
  |5=>Source
  |6=>Consumer
  |7=>g9
  |8=>cN
  |9=>bn
  |10=>Part
  |11=>eM
  |12=>Event
  |13=>(List Int)
  |14=>aw
  |15=>di
  |16=>b8
  |17=>iD
  |18=>jJ
  |19=>jK
  |20=>jh
  |21=>kX
  |22=>np
  |23=>fa
  |24=>bt
  |25=>dw
  |26=>U8
  |27=>(List Part)
  |28=>(Int×Int×Bool)
  |29=>Act
  |30=>pY
  |31=>od
  |32=>fD
  |33=>fS
  |34=>mc
  |35=>Fq
  |36=>pi
  |37=>ft
  |38=>jv
  |39=>Src
  |40=>dH
  |41=>j7
  |42=>e_
  |43=>fV
  |44=>fX
  |45=>iN
  |46=>nS
  |47=>Target
  |_=>Int
instance aCU(n:Nat):ad (D n):=match n with
 |0=>qR (Int)
 |1=>qR (Bool)
 |2=>qR (ByteArray)
 |3=>qR (au)
 |4=>qR (cG)
 |5=>qR (Source)
 |6=>qR (Consumer)
 |7=>qR (g9)
 |8=>qR (cN)
 |9=>qR (bn)
 |10=>qR (Part)
 |11=>qR (eM)
 |12=>qR (Event)
 |13=>qR ((List Int))
 |14=>qR (aw)
 |15=>qR (di)
 |16=>qR (b8)
 |17=>qR (iD)
 |18=>qR (jJ)
 |19=>qR (jK)
 |20=>qR (jh)
 |21=>qR (kX)
 |22=>qR (np)
 |23=>qR (fa)
 |24=>qR (bt)
 |25=>qR (dw)
 |26=>qR (U8)
 |27=>qR ((List Part))
 |28=>qR ((Int×Int×Bool))
 |29=>qR (Act)
 |30=>qR (pY)
 |31=>qR (od)
 |32=>qR (fD)
 |33=>qR (fS)
 |34=>qR (mc)
 |35=>qR (Fq)
 |36=>qR (pi)
 |37=>qR (ft)
 |38=>qR (jv)
 |39=>qR (Src)
 |40=>qR (dH)
 |41=>qR (j7)
 |42=>qR (e_)
 |43=>qR (fV)
 |44=>qR (fX)
 |45=>qR (iN)
 |46=>qR (nS)
 |47=>qR (Target)
 |_+48=>qR (Int)
def QF(n:Nat):List Lf:=match n with
 |0=>[qI]
 |1=>[.bool]
 |2=>[.str]
 |3=>[qI,(.sl 4),(.sl 5),(.sl 6),qI,qI]
 |4=>[qI,qI,qI]
 |5=>[qI,qI,qI]
 |6=>[qI,qI,qI,qI,(.sl 0)]
 |7=>[qI,qI,qI]
 |8=>[qI,(.sl 1),(.sl 9),(.sl 0),(.sl 10),(.sl 11),(.sl 12)]
 |9=>[qI,qI,qI,qI]
 |10=>[qI,qI]
 |11=>[qI,qI]
 |12=>[qI,qI,qI,qI,qI]
 |13=>[(.sl 0)]
 |14=>[(.sl 1),(.sl 9),(.sl 0),(.sl 10)]
 |15=>[qI,qI,(.sl 16)]
 |16=>[qI,qI,qI,qI,qI,(.sl 17)]
 |17=>[qI,qI]
 |18=>[(.sl 0),(.sl 0),(.sl 0),(.sl 0),(.sl 0),(.sl 0),(.sl 0),(.sl 0),(.sl 0),qI,qI,qI,qI,qI,qI,(.sl 16),qI,(.sl 4),(.sl 5),(.sl 6),qI,qI,qI,qI,qI,(.sl 10),(.sl 19),(.sl 20),(.sl 21),qI,qI,qI,qI,qI,qI,qI,qI,qI,qI,qI,qI,qI,.str,qI,qI,qI,qI,qI,qI,(.sl 22)]
 |19=>[qI,qI,qI,qI]
 |20=>[.str,(.sl 10)]
 |21=>[qI,qI,qI,qI]
 |22=>[.str,qI,qI,(.sl 0)]
 |23=>[qI,qI,qI]
 |24=>[(.sl 0),(.sl 0),(.sl 0)]
 |25=>[(.sl 10),(.sl 19),(.sl 20)]
 |26=>[(.int .u8)]
 |27=>[(.sl 10)]
 |28=>[qI,qI,.bool]
 |29=>[qI,qI,qI]
 |30=>[qI,(.sl 1),(.sl 9),(.sl 0),(.sl 10),(.sl 11),(.sl 12),qI,(.sl 4),(.sl 5),(.sl 6),qI,qI,(.sl 12),(.sl 14)]
 |31=>[qI,(.sl 4),(.sl 5),(.sl 6),qI,qI,(.sl 1),(.sl 9),(.sl 0),(.sl 10),qI]
 |32=>[qI,(.sl 4),(.sl 5),(.sl 6),qI,qI,(.sl 1),(.sl 9),(.sl 0),(.sl 10),(.sl 29)]
 |33=>[qI,qI]
 |34=>[qI,qI,qI]
 |35=>[(.sl 33),qI,qI,qI,qI,qI,qI]
 |36=>[(.sl 16),(.sl 33)]
 |37=>[qI,qI,qI]
 |38=>[qI,qI,.bool]
 |39=>[(.sl 0),qI]
 |40=>[(.sl 0),(.sl 0),(.sl 0),(.sl 0),(.sl 0),(.sl 0),(.sl 0),(.sl 0),(.sl 0),qI,qI,qI,qI]
 |41=>[(.sl 0),(.sl 0),(.sl 0)]
 |42=>[qI,qI,qI,qI,qI,qI,qI,qI,qI]
 |43=>[.str,qI,qI,qI,qI,qI,qI]
 |44=>[qI,qI,qI,qI]
 |45=>[qI,qI]
 |46=>[(.sl 22)]
 |47=>[qI,qI,qI]
 |_=>[.int .i64]
def ann(n:Nat):Bool:=match n with
 |0=>ai
 |1=>ai
 |2=>ai
 |3=>ab
 |4=>ab
 |5=>ab
 |6=>ab
 |7=>ab
 |8=>ab
 |9=>ab
 |10=>ab
 |11=>ab
 |12=>ab
 |13=>ai
 |14=>ab
 |15=>ab
 |16=>ab
 |17=>ab
 |18=>ab
 |19=>ab
 |20=>ab
 |21=>ab
 |22=>ab
 |23=>ab
 |24=>ab
 |25=>ab
 |26=>ai
 |27=>ai
 |28=>ab
 |29=>ab
 |30=>ab
 |31=>ab
 |32=>ab
 |33=>ab
 |34=>ab
 |35=>ab
 |36=>ab
 |37=>ab
 |38=>ab
 |39=>ab
 |40=>ab
 |41=>ab
 |42=>ab
 |43=>ab
 |44=>ab
 |45=>ab
 |46=>ab
 |47=>ab
 |_=>ai
def anl:∀n:Nat,D n->HL D (QF n)
 |0=>λx=>x
 |1=>λx=>x
 |2=>λx=>x
 |3=>λx=>(x.aA,x.ae,x.aj,x.ay,x.bh,x.aY)
 |4=>λx=>(x.Kind,x.A,x.B)
 |5=>λx=>(x.ig,x.eU,x.Start)
 |6=>λx=>(x.eT,x.eU,x.ky,x.b8,x.b_)
 |7=>λx=>(x.Start,x.Stop,x.nU)
 |8=>λx=>(x.Time,x.aw.aF,x.aw.aj,x.aw.aW,x.aw.aR,x.pL,x.rT)
 |9=>λx=>(x.State,x.gG,x.aY,x.bh)
 |10=>λx=>(x.Kind,x.Number)
 |11=>λx=>(x.iP,x.ju)
 |12=>λx=>(x.Time,x.Act.Kind,x.Act.Unit,x.Act.Value,x.X1)
 |13=>λx=>x
 |14=>λx=>(x.aF,x.aj,x.aW,x.aR)
 |15=>λx=>(x.iC,x.g_,x.cQ)
 |16=>λx=>(x.Kind,x.s_,x.Max,x.vV,x.fJ,x.nT)
 |17=>λx=>(x.fA,x.To)
 |18=>λx=>(x.dH.oM.dz,x.dH.oM.fk,x.dH.oM.fI,x.dH.oO.dz,x.dH.oO.fk,x.dH.oO.fI,x.dH.oN.dz,x.dH.oN.fk,x.dH.oN.fI,x.dH.Fe,x.dH.Fg,x.dH.Fo,x.dH.E9,x.di.iC,x.di.g_,x.di.cQ,x.au.aA,x.au.ae,x.au.aj,x.au.ay,x.au.bh,x.au.aY,x.g9.Start,x.g9.Stop,x.g9.nU,x.dw.fh,x.dw.h_,x.dw.ii,x.PB,x.e_.E_,x.e_.Sum,x.e_.Calm,x.e_.iN,x.e_.rU,x.e_.E4,x.e_.Fb,x.e_.Fc,x.e_.Fa,x.Target.Place.X,x.Target.Place.Y,x.Target.Fi,x.nU,x.fV.Name,x.fV.Fp,x.fV.fX.Place.X,x.fV.fX.Place.Y,x.fV.fX.y9,x.fV.fX.zd,x.fV.rU,x.nS.E5)
 |19=>λx=>(x.fA.Kind,x.fA.Number,x.To.Kind,x.To.Number)
 |20=>λx=>(x.Name,x.fh)
 |21=>λx=>(x.X4,x.XU,x.Xw,x.XY)
 |22=>λx=>(x.Name,x.Xu,x.Xt,x.b_)
 |23=>λx=>(x.dz,x.fk,x.fI)
 |24=>λx=>(x.aA,x.aj,x.ay)
 |25=>λx=>(x.fh,x.h_,x.ii)
 |26=>λx=>x.n
 |27=>λx=>x
 |28=>λx=>x
 |29=>λx=>(x.Kind,x.Unit,x.Value)
 |30=>λx=>(x.cN.Time,x.cN.aw.aF,x.cN.aw.aj,x.cN.aw.aW,x.cN.aw.aR,x.cN.pL,x.cN.rT,x.aQ.aA,x.aQ.ae,x.aQ.aj,x.aQ.ay,x.aQ.bh,x.aQ.aY,x.events,x.FV)
 |31=>λx=>(x.aQ.aA,x.aQ.ae,x.aQ.aj,x.aQ.ay,x.aQ.bh,x.aQ.aY,x.bg.aF,x.bg.aj,x.bg.aW,x.bg.aR,x.time)
 |32=>λx=>(x.aQ.aA,x.aQ.ae,x.aQ.aj,x.aQ.ay,x.aQ.bh,x.aQ.aY,x.bg.aF,x.bg.aj,x.bg.aW,x.bg.aR,x.vR)
 |33=>λx=>(x.X,x.Y)
 |34=>λx=>(x.dz,x.iC,x.g_)
 |35=>λx=>(x.Xv,x.BW.dz,x.BW.iC,x.BW.g_,x.BS.dz,x.BS.iC,x.BS.g_)
 |36=>λx=>(x.wu,x.last)
 |37=>λx=>(x.ju,x.iP,x.fJ)
 |38=>λx=>(x.Part.Kind,x.Part.Number,x.xp)
 |39=>λx=>(x.L,x.At)
 |40=>λx=>(x.oM.dz,x.oM.fk,x.oM.fI,x.oO.dz,x.oO.fk,x.oO.fI,x.oN.dz,x.oN.fk,x.oN.fI,x.Fe,x.Fg,x.Fo,x.E9)
 |41=>λx=>(x.dz,x.fk,x.fI)
 |42=>λx=>(x.E_,x.Sum,x.Calm,x.iN,x.rU,x.E4,x.Fb,x.Fc,x.Fa)
 |43=>λx=>(x.Name,x.Fp,x.fX.Place.X,x.fX.Place.Y,x.fX.y9,x.fX.zd,x.rU)
 |44=>λx=>(x.Place.X,x.Place.Y,x.y9,x.zd)
 |45=>λx=>(x.X,x.Y)
 |46=>λx=>x.E5
 |47=>λx=>(x.Place.X,x.Place.Y,x.Fi)
 |_+48=>λx=>x
def anm:∀n:Nat,HL D (QF n)->D n
 |0=>λh=>h
 |1=>λh=>h
 |2=>λh=>h
 |3=>λh=>⟨h.1,h.2.1,h.2.2.1,h.2.2.2.1,h.2.2.2.2.1,h.2.2.2.2.2⟩
 |4=>λh=>⟨h.1,h.2.1,h.2.2⟩
 |5=>λh=>⟨h.1,h.2.1,h.2.2⟩
 |6=>λh=>⟨h.1,h.2.1,h.2.2.1,h.2.2.2.1,h.2.2.2.2⟩
 |7=>λh=>⟨h.1,h.2.1,h.2.2⟩
 |8=>λh=>⟨h.1,⟨h.2.1,h.2.2.1,h.2.2.2.1,h.2.2.2.2.1⟩,h.2.2.2.2.2.1,h.2.2.2.2.2.2⟩
 |9=>λh=>⟨h.1,h.2.1,h.2.2.1,h.2.2.2⟩
 |10=>λh=>⟨h.1,h.2⟩
 |11=>λh=>⟨h.1,h.2⟩
 |12=>λh=>⟨h.1,⟨h.2.1,h.2.2.1,h.2.2.2.1⟩,h.2.2.2.2⟩
 |13=>λh=>h
 |14=>λh=>⟨h.1,h.2.1,h.2.2.1,h.2.2.2⟩
 |15=>λh=>⟨h.1,h.2.1,h.2.2⟩
 |16=>λh=>⟨h.1,h.2.1,h.2.2.1,h.2.2.2.1,h.2.2.2.2.1,h.2.2.2.2.2⟩
 |17=>λh=>⟨h.1,h.2⟩
 |18=>λh=>⟨⟨⟨h.1,h.2.1,h.2.2.1⟩,⟨h.2.2.2.1,h.2.2.2.2.1,h.2.2.2.2.2.1⟩,⟨h.2.2.2.2.2.2.1,h.2.2.2.2.2.2.2.1,h.2.2.2.2.2.2.2.2.1⟩,h.2.2.2.2.2.2.2.2.2.1,h.2.2.2.2.2.2.2.2.2.2.1,h.2.2.2.2.2.2.2.2.2.2.2.1,h.2.2.2.2.2.2.2.2.2.2.2.2.1⟩,⟨h.2.2.2.2.2.2.2.2.2.2.2.2.2.1,h.2.2.2.2.2.2.2.2.2.2.2.2.2.2.1,h.2.2.2.2.2.2.2.2.2.2.2.2.2.2.2.1⟩,⟨h.2.2.2.2.2.2.2.2.2.2.2.2.2.2.2.2.1,h.2.2.2.2.2.2.2.2.2.2.2.2.2.2.2.2.2.1,h.2.2.2.2.2.2.2.2.2.2.2.2.2.2.2.2.2.2.1,h.2.2.2.2.2.2.2.2.2.2.2.2.2.2.2.2.2.2.2.1,h.2.2.2.2.2.2.2.2.2.2.2.2.2.2.2.2.2.2.2.2.1,h.2.2.2.2.2.2.2.2.2.2.2.2.2.2.2.2.2.2.2.2.2.1⟩,⟨h.2.2.2.2.2.2.2.2.2.2.2.2.2.2.2.2.2.2.2.2.2.2.1,h.2.2.2.2.2.2.2.2.2.2.2.2.2.2.2.2.2.2.2.2.2.2.2.1,h.2.2.2.2.2.2.2.2.2.2.2.2.2.2.2.2.2.2.2.2.2.2.2.2.1⟩,⟨h.2.2.2.2.2.2.2.2.2.2.2.2.2.2.2.2.2.2.2.2.2.2.2.2.2.1,h.2.2.2.2.2.2.2.2.2.2.2.2.2.2.2.2.2.2.2.2.2.2.2.2.2.2.1,h.2.2.2.2.2.2.2.2.2.2.2.2.2.2.2.2.2.2.2.2.2.2.2.2.2.2.2.1⟩,h.2.2.2.2.2.2.2.2.2.2.2.2.2.2.2.2.2.2.2.2.2.2.2.2.2.2.2.2.1,⟨h.2.2.2.2.2.2.2.2.2.2.2.2.2.2.2.2.2.2.2.2.2.2.2.2.2.2.2.2.2.1,h.2.2.2.2.2.2.2.2.2.2.2.2.2.2.2.2.2.2.2.2.2.2.2.2.2.2.2.2.2.2.1,h.2.2.2.2.2.2.2.2.2.2.2.2.2.2.2.2.2.2.2.2.2.2.2.2.2.2.2.2.2.2.2.1,h.2.2.2.2.2.2.2.2.2.2.2.2.2.2.2.2.2.2.2.2.2.2.2.2.2.2.2.2.2.2.2.2.1,h.2.2.2.2.2.2.2.2.2.2.2.2.2.2.2.2.2.2.2.2.2.2.2.2.2.2.2.2.2.2.2.2.2.1,h.2.2.2.2.2.2.2.2.2.2.2.2.2.2.2.2.2.2.2.2.2.2.2.2.2.2.2.2.2.2.2.2.2.2.1,h.2.2.2.2.2.2.2.2.2.2.2.2.2.2.2.2.2.2.2.2.2.2.2.2.2.2.2.2.2.2.2.2.2.2.2.1,h.2.2.2.2.2.2.2.2.2.2.2.2.2.2.2.2.2.2.2.2.2.2.2.2.2.2.2.2.2.2.2.2.2.2.2.2.1,h.2.2.2.2.2.2.2.2.2.2.2.2.2.2.2.2.2.2.2.2.2.2.2.2.2.2.2.2.2.2.2.2.2.2.2.2.2.1⟩,⟨⟨h.2.2.2.2.2.2.2.2.2.2.2.2.2.2.2.2.2.2.2.2.2.2.2.2.2.2.2.2.2.2.2.2.2.2.2.2.2.2.1,h.2.2.2.2.2.2.2.2.2.2.2.2.2.2.2.2.2.2.2.2.2.2.2.2.2.2.2.2.2.2.2.2.2.2.2.2.2.2.2.1⟩,h.2.2.2.2.2.2.2.2.2.2.2.2.2.2.2.2.2.2.2.2.2.2.2.2.2.2.2.2.2.2.2.2.2.2.2.2.2.2.2.2.1⟩,h.2.2.2.2.2.2.2.2.2.2.2.2.2.2.2.2.2.2.2.2.2.2.2.2.2.2.2.2.2.2.2.2.2.2.2.2.2.2.2.2.2.1,⟨h.2.2.2.2.2.2.2.2.2.2.2.2.2.2.2.2.2.2.2.2.2.2.2.2.2.2.2.2.2.2.2.2.2.2.2.2.2.2.2.2.2.2.1,h.2.2.2.2.2.2.2.2.2.2.2.2.2.2.2.2.2.2.2.2.2.2.2.2.2.2.2.2.2.2.2.2.2.2.2.2.2.2.2.2.2.2.2.1,⟨⟨h.2.2.2.2.2.2.2.2.2.2.2.2.2.2.2.2.2.2.2.2.2.2.2.2.2.2.2.2.2.2.2.2.2.2.2.2.2.2.2.2.2.2.2.2.1,h.2.2.2.2.2.2.2.2.2.2.2.2.2.2.2.2.2.2.2.2.2.2.2.2.2.2.2.2.2.2.2.2.2.2.2.2.2.2.2.2.2.2.2.2.2.1⟩,h.2.2.2.2.2.2.2.2.2.2.2.2.2.2.2.2.2.2.2.2.2.2.2.2.2.2.2.2.2.2.2.2.2.2.2.2.2.2.2.2.2.2.2.2.2.2.1,h.2.2.2.2.2.2.2.2.2.2.2.2.2.2.2.2.2.2.2.2.2.2.2.2.2.2.2.2.2.2.2.2.2.2.2.2.2.2.2.2.2.2.2.2.2.2.2.1⟩,h.2.2.2.2.2.2.2.2.2.2.2.2.2.2.2.2.2.2.2.2.2.2.2.2.2.2.2.2.2.2.2.2.2.2.2.2.2.2.2.2.2.2.2.2.2.2.2.2.1⟩,⟨h.2.2.2.2.2.2.2.2.2.2.2.2.2.2.2.2.2.2.2.2.2.2.2.2.2.2.2.2.2.2.2.2.2.2.2.2.2.2.2.2.2.2.2.2.2.2.2.2.2⟩⟩
 |19=>λh=>⟨⟨h.1,h.2.1⟩,⟨h.2.2.1,h.2.2.2⟩⟩
 |20=>λh=>⟨h.1,h.2⟩
 |21=>λh=>⟨h.1,h.2.1,h.2.2.1,h.2.2.2⟩
 |22=>λh=>⟨h.1,h.2.1,h.2.2.1,h.2.2.2⟩
 |23=>λh=>⟨h.1,h.2.1,h.2.2⟩
 |24=>λh=>⟨h.1,h.2.1,h.2.2⟩
 |25=>λh=>⟨h.1,h.2.1,h.2.2⟩
 |26=>λh=>⟨h⟩
 |27=>λh=>h
 |28=>λh=>h
 |29=>λh=>⟨h.1,h.2.1,h.2.2⟩
 |30=>λh=>⟨⟨h.1,⟨h.2.1,h.2.2.1,h.2.2.2.1,h.2.2.2.2.1⟩,h.2.2.2.2.2.1,h.2.2.2.2.2.2.1⟩,⟨h.2.2.2.2.2.2.2.1,h.2.2.2.2.2.2.2.2.1,h.2.2.2.2.2.2.2.2.2.1,h.2.2.2.2.2.2.2.2.2.2.1,h.2.2.2.2.2.2.2.2.2.2.2.1,h.2.2.2.2.2.2.2.2.2.2.2.2.1⟩,h.2.2.2.2.2.2.2.2.2.2.2.2.2.1,h.2.2.2.2.2.2.2.2.2.2.2.2.2.2⟩
 |31=>λh=>⟨⟨h.1,h.2.1,h.2.2.1,h.2.2.2.1,h.2.2.2.2.1,h.2.2.2.2.2.1⟩,⟨h.2.2.2.2.2.2.1,h.2.2.2.2.2.2.2.1,h.2.2.2.2.2.2.2.2.1,h.2.2.2.2.2.2.2.2.2.1⟩,h.2.2.2.2.2.2.2.2.2.2⟩
 |32=>λh=>⟨⟨h.1,h.2.1,h.2.2.1,h.2.2.2.1,h.2.2.2.2.1,h.2.2.2.2.2.1⟩,⟨h.2.2.2.2.2.2.1,h.2.2.2.2.2.2.2.1,h.2.2.2.2.2.2.2.2.1,h.2.2.2.2.2.2.2.2.2.1⟩,h.2.2.2.2.2.2.2.2.2.2⟩
 |33=>λh=>⟨h.1,h.2⟩
 |34=>λh=>⟨h.1,h.2.1,h.2.2⟩
 |35=>λh=>⟨h.1,⟨h.2.1,h.2.2.1,h.2.2.2.1⟩,⟨h.2.2.2.2.1,h.2.2.2.2.2.1,h.2.2.2.2.2.2⟩⟩
 |36=>λh=>⟨h.1,h.2⟩
 |37=>λh=>⟨h.1,h.2.1,h.2.2⟩
 |38=>λh=>⟨⟨h.1,h.2.1⟩,h.2.2⟩
 |39=>λh=>⟨h.1,h.2⟩
 |40=>λh=>⟨⟨h.1,h.2.1,h.2.2.1⟩,⟨h.2.2.2.1,h.2.2.2.2.1,h.2.2.2.2.2.1⟩,⟨h.2.2.2.2.2.2.1,h.2.2.2.2.2.2.2.1,h.2.2.2.2.2.2.2.2.1⟩,h.2.2.2.2.2.2.2.2.2.1,h.2.2.2.2.2.2.2.2.2.2.1,h.2.2.2.2.2.2.2.2.2.2.2.1,h.2.2.2.2.2.2.2.2.2.2.2.2⟩
 |41=>λh=>⟨h.1,h.2.1,h.2.2⟩
 |42=>λh=>⟨h.1,h.2.1,h.2.2.1,h.2.2.2.1,h.2.2.2.2.1,h.2.2.2.2.2.1,h.2.2.2.2.2.2.1,h.2.2.2.2.2.2.2.1,h.2.2.2.2.2.2.2.2⟩
 |43=>λh=>⟨h.1,h.2.1,⟨⟨h.2.2.1,h.2.2.2.1⟩,h.2.2.2.2.1,h.2.2.2.2.2.1⟩,h.2.2.2.2.2.2⟩
 |44=>λh=>⟨⟨h.1,h.2.1⟩,h.2.2.1,h.2.2.2⟩
 |45=>λh=>⟨h.1,h.2⟩
 |46=>λh=>⟨h⟩
 |47=>λh=>⟨⟨h.1,h.2.1⟩,h.2.2⟩
 |_+48=>λh=>h
def ank:∀n:Nat,D n
 |0=>(0:Int)
 |1=>ai
 |2=>tq
 |3=>(⟨0,[],[],[],0,0⟩:au)
 |4=>(⟨0,0,0⟩:cG)
 |5=>(⟨0,0,0⟩:Source)
 |6=>(⟨0,0,0,0,[]⟩:Consumer)
 |7=>(⟨0,0,0⟩:g9)
 |8=>(⟨0,⟨[],[],[],[]⟩,[],[]⟩:cN)
 |9=>(⟨0,0,0,0⟩:bn)
 |10=>(⟨0,0⟩:Part)
 |11=>(⟨0,0⟩:eM)
 |12=>(⟨0,⟨0,0,0⟩,0⟩:Event)
 |13=>([]:(List Int))
 |14=>(⟨[],[],[],[]⟩:aw)
 |15=>(⟨0,0,[]⟩:di)
 |16=>(⟨0,0,0,0,0,[]⟩:b8)
 |17=>(⟨0,0⟩:iD)
 |18=>(⟨⟨⟨[],[],[]⟩,⟨[],[],[]⟩,⟨[],[],[]⟩,0,0,0,0⟩,⟨0,0,[]⟩,⟨0,[],[],[],0,0⟩,⟨0,0,0⟩,⟨[],[],[]⟩,[],⟨0,0,0,0,0,0,0,0,0⟩,⟨⟨0,0⟩,0⟩,0,⟨tq,0,⟨⟨0,0⟩,0,0⟩,0⟩,⟨[]⟩⟩:jJ)
 |19=>(⟨⟨0,0⟩,⟨0,0⟩⟩:jK)
 |20=>(⟨tq,[]⟩:jh)
 |21=>(⟨0,0,0,0⟩:kX)
 |22=>(⟨tq,0,0,[]⟩:np)
 |23=>(⟨0,0,0⟩:fa)
 |24=>(⟨[],[],[]⟩:bt)
 |25=>(⟨[],[],[]⟩:dw)
 |26=>(⟨0⟩:U8)
 |27=>([]:(List Part))
 |28=>(0,0,ai)
 |29=>(⟨0,0,0⟩:Act)
 |30=>(⟨⟨0,⟨[],[],[],[]⟩,[],[]⟩,⟨0,[],[],[],0,0⟩,[],[]⟩:pY)
 |31=>(⟨⟨0,[],[],[],0,0⟩,⟨[],[],[],[]⟩,0⟩:od)
 |32=>(⟨⟨0,[],[],[],0,0⟩,⟨[],[],[],[]⟩,[]⟩:fD)
 |33=>(⟨0,0⟩:fS)
 |34=>(⟨0,0,0⟩:mc)
 |35=>(⟨[],⟨0,0,0⟩,⟨0,0,0⟩⟩:Fq)
 |36=>(⟨[],[]⟩:pi)
 |37=>(⟨0,0,0⟩:ft)
 |38=>(⟨⟨0,0⟩,ai⟩:jv)
 |39=>(⟨[],0⟩:Src)
 |40=>(⟨⟨[],[],[]⟩,⟨[],[],[]⟩,⟨[],[],[]⟩,0,0,0,0⟩:dH)
 |41=>(⟨[],[],[]⟩:j7)
 |42=>(⟨0,0,0,0,0,0,0,0,0⟩:e_)
 |43=>(⟨tq,0,⟨⟨0,0⟩,0,0⟩,0⟩:fV)
 |44=>(⟨⟨0,0⟩,0,0⟩:fX)
 |45=>(⟨0,0⟩:iN)
 |46=>(⟨[]⟩:nS)
 |47=>(⟨⟨0,0⟩,0⟩:Target)
 |_+48=>(0:Int)
def T:bb D where
 lv:=QF
 ag:=ann
 C_:=anl
 Ae:=anm
 zero:=ank
 ty:=[(3,.one qI),(4,.one .bool),(5,.one (.int .u8)),(9,.one .str),(22,.one (.sl 0)),(24,.ptr),(27,.st 41),(29,.st 40),(30,.one (.sl 16)),(32,.st 15),(33,.one (.sl 4)),(34,.one (.sl 5)),(35,.one (.sl 6)),(37,.st 3),(39,.st 7),(40,.one (.sl 10)),(41,.one (.sl 19)),(42,.one (.sl 20)),(44,.st 25),(45,.one (.sl 21)),(47,.st 42),(49,.st 45),(51,.st 47),(53,.st 44),(55,.st 43),(56,.one (.sl 22)),(58,.st 46),(60,.st 18),(62,.one (.sl 1)),(63,.one (.sl 9)),(65,.st 14),(66,.one (.sl 11)),(67,.one (.sl 12)),(69,.st 8),(72,.st 23),(74,.one (.sl 38)),(75,.one qI),(79,.st 10),(81,.st 38),(91,.st 39),(93,.st 4),(96,.st 5),(99,.st 6),(100,.one (.sl 17)),(102,.st 16),(104,.st 21),(110,.st 11),(120,.one (.sl 14)),(124,.st 29),(132,.st 34),(140,.st 9),(154,.st 19),(155,.one (.sl 2)),(157,.st 20),(165,.fn),(176,.one (.sl 27)),(179,.ptr),(183,.st 30),(192,.st 12),(199,.one (.sl 33)),(201,.st 35),(209,.one (.int .u64)),(217,.one (.sl 26)),(219,.st 22),(224,.one (.sl 24)),(227,.st 24),(253,.one (.sl 29)),(264,.st 33),(267,.st 36),(272,.one (.sl 37)),(277,.one (.sl 13)),(283,.one (.int .u64)),(288,.st 17),(297,.one qI),(308,.ptr),(310,.st 31),(313,.ptr),(331,.st 37),(355,.st 32)]
 um:=[(27,[(0,1),(1,1),(2,1)]),(29,[(0,3),(3,3),(6,3),(9,1),(10,1),(11,1),(12,1)]),(32,[(0,1),(1,1),(2,1)]),(37,[(0,1),(1,1),(2,1),(3,1),(4,1),(5,1)]),(39,[(0,1),(1,1),(2,1)]),(44,[(0,1),(1,1),(2,1)]),(47,[(0,1),(1,1),(2,1),(3,1),(4,1),(5,1),(6,1),(7,1),(8,1)]),(49,[(0,1),(1,1)]),(51,[(0,2),(2,1)]),(53,[(0,2),(2,1),(3,1)]),(55,[(0,1),(1,1),(2,4),(6,1)]),(58,[(0,1)]),(60,[(0,13),(13,3),(16,6),(22,3),(25,3),(28,1),(29,9),(38,3),(41,1),(42,7),(49,1)]),(65,[(0,1),(1,1),(2,1),(3,1)]),(69,[(0,1),(1,4),(5,1),(6,1)]),(72,[(0,1),(1,1),(2,1)]),(79,[(0,1),(1,1)]),(81,[(0,2),(2,1)]),(91,[(0,1),(1,1)]),(93,[(0,1),(1,1),(2,1)]),(96,[(0,1),(1,1),(2,1)]),(99,[(0,1),(1,1),(2,1),(3,1),(4,1)]),(102,[(0,1),(1,1),(2,1),(3,1),(4,1),(5,1)]),(104,[(0,1),(1,1),(2,1),(3,1)]),(110,[(0,1),(1,1)]),(124,[(0,1),(1,1),(2,1)]),(132,[(0,1),(1,1),(2,1)]),(140,[(0,1),(1,1),(2,1),(3,1)]),(154,[(0,2),(2,2)]),(157,[(0,1),(1,1)]),(183,[(0,7),(7,6),(13,1),(14,1)]),(192,[(0,1),(1,3),(4,1)]),(201,[(0,1),(1,3),(4,3)]),(219,[(0,1),(1,1),(2,1),(3,1)]),(227,[(0,1),(1,1),(2,1)]),(264,[(0,1),(1,1)]),(267,[(0,1),(1,1)]),(288,[(0,1),(1,1)]),(310,[(0,6),(6,4),(10,1)]),(331,[(0,1),(1,1),(2,1)]),(355,[(0,6),(6,4),(10,1)])]
 de:=[(22,3,0),(30,102,16),(33,93,4),(34,96,5),(35,99,6),(40,79,10),(41,154,19),(42,157,20),(45,104,21),(56,219,22),(62,4,1),(63,140,9),(66,110,11),(67,192,12),(74,81,38),(100,288,17),(120,65,14),(155,9,2),(176,40,27),(199,264,33),(217,5,26),(224,227,24),(253,124,29),(272,331,37),(277,22,13)]
 Bo:=[(79,[qI,qI]),(93,[qI,qI,qI]),(132,[qI,qI,qI]),(140,[qI,qI,qI,qI])]
 kd:=[(13,3,0),(24,3,0)]
 qL:=[]
 pre:=[163873,258090,270378,4295131162]
 qc:=[(172,79,4,28)]
def rd4:aB D cG (λx=>[⟨qI,x.Kind⟩,⟨qI,x.A⟩,⟨qI,x.B⟩]):=λS w cs x=>(aB.prod aB.int (aB.prod aB.int (aB.int)):aB D (Int×Int×Int) _) S w cs (aks x)
def rd5:aB D Source (λx=>[⟨qI,x.ig⟩,⟨qI,x.eU⟩,⟨qI,x.Start⟩]):=λS w cs x=>(aB.prod aB.int (aB.prod aB.int (aB.int)):aB D (Int×Int×Int) _) S w cs (ajX x)
def rd6:aB D Consumer (λx=>[⟨qI,x.eT⟩,⟨qI,x.eU⟩,⟨qI,x.ky⟩,⟨qI,x.b8⟩,⟨(.sl 0),x.b_⟩]):=λS w cs x=>(aB.prod aB.int (aB.prod aB.int (aB.prod aB.int (aB.prod aB.int ((aB.sl 0))))):aB D (Int×Int×Int×Int×(List Int)) _) S w cs (akq x)
def GI:aB D au (λx=>[⟨qI,x.aA⟩,⟨(.sl 4),x.ae⟩,⟨(.sl 5),x.aj⟩,⟨(.sl 6),x.ay⟩,⟨qI,x.bh⟩,⟨qI,x.aY⟩]):=λS w cs x=>(aB.prod aB.int (aB.prod (aB.sl 4) (aB.prod (aB.sl 5) (aB.prod (aB.sl 6) (aB.prod aB.int (aB.int))))):aB D (Int×(List cG)×(List Source)×(List Consumer)×Int×Int) _) S w cs (akt x)
def rd7:aB D g9 (λx=>[⟨qI,x.Start⟩,⟨qI,x.Stop⟩,⟨qI,x.nU⟩]):=λS w cs x=>(aB.prod aB.int (aB.prod aB.int (aB.int)):aB D (Int×Int×Int) _) S w cs (ajS x)
def rd9:aB D bn (λx=>[⟨qI,x.State⟩,⟨qI,x.gG⟩,⟨qI,x.aY⟩,⟨qI,x.bh⟩]):=λS w cs x=>(aB.prod aB.int (aB.prod aB.int (aB.prod aB.int (aB.int))):aB D (Int×Int×Int×Int) _) S w cs (aj1 x)
def Lk:aB D Part (λx=>[⟨qI,x.Kind⟩,⟨qI,x.Number⟩]):=λS w cs x=>(aB.prod aB.int (aB.int):aB D (Int×Int) _) S w cs (aj8 x)
def Lj:aB D aw (λx=>[⟨(.sl 1),x.aF⟩,⟨(.sl 9),x.aj⟩,⟨(.sl 0),x.aW⟩,⟨(.sl 10),x.aR⟩]):=λS w cs x=>(aB.prod (aB.sl 1) (aB.prod (aB.sl 9) (aB.prod (aB.sl 0) ((aB.sl 10)))):aB D ((List Bool)×(List bn)×(List Int)×(List Part)) _) S w cs (aj5 x)
def apG:aB D eM (λx=>[⟨qI,x.iP⟩,⟨qI,x.ju⟩]):=λS w cs x=>(aB.prod aB.int (aB.int):aB D (Int×Int) _) S w cs (aj2 x)
def aaS:aB D Act (λx=>[⟨qI,x.Kind⟩,⟨qI,x.Unit⟩,⟨qI,x.Value⟩]):=λS w cs x=>(aB.prod aB.int (aB.prod aB.int (aB.int)):aB D (Int×Int×Int) _) S w cs (akx x)
def apF:aB D Event (λx=>[⟨qI,x.Time⟩,⟨qI,x.Act.Kind⟩,⟨qI,x.Act.Unit⟩,⟨qI,x.Act.Value⟩,⟨qI,x.X1⟩]):=λS w cs x=>(aB.prod aB.int (aB.prod aaS (aB.int)):aB D (Int×Act×Int) _) S w cs (akl x)
def rd8:aB D cN (λx=>[⟨qI,x.Time⟩,⟨(.sl 1),x.aw.aF⟩,⟨(.sl 9),x.aw.aj⟩,⟨(.sl 0),x.aw.aW⟩,⟨(.sl 10),x.aw.aR⟩,⟨(.sl 11),x.pL⟩,⟨(.sl 12),x.rT⟩]):=λS w cs x=>(aB.prod aB.int (aB.prod Lj (aB.prod (aB.sl 11) ((aB.sl 12)))):aB D (Int×aw×(List eM)×(List Event)) _) S w cs (aj7 x)
def apB:aB D iD (λx=>[⟨qI,x.fA⟩,⟨qI,x.To⟩]):=λS w cs x=>(aB.prod aB.int (aB.int):aB D (Int×Int) _) S w cs (akv x)
def apC:aB D b8 (λx=>[⟨qI,x.Kind⟩,⟨qI,x.s_⟩,⟨qI,x.Max⟩,⟨qI,x.vV⟩,⟨qI,x.fJ⟩,⟨(.sl 17),x.nT⟩]):=λS w cs x=>(aB.prod aB.int (aB.prod aB.int (aB.prod aB.int (aB.prod aB.int (aB.prod aB.int ((aB.sl 17)))))):aB D (Int×Int×Int×Int×Int×(List iD)) _) S w cs (ajP x)
def aaU:aB D di (λx=>[⟨qI,x.iC⟩,⟨qI,x.g_⟩,⟨(.sl 16),x.cQ⟩]):=λS w cs x=>(aB.prod aB.int (aB.prod aB.int ((aB.sl 16))):aB D (Int×Int×(List b8)) _) S w cs (ajY x)
def Li:aB D j7 (λx=>[⟨(.sl 0),x.dz⟩,⟨(.sl 0),x.fk⟩,⟨(.sl 0),x.fI⟩]):=λS w cs x=>(aB.prod (aB.sl 0) (aB.prod (aB.sl 0) ((aB.sl 0))):aB D ((List Int)×(List Int)×(List Int)) _) S w cs (akp x)
def aaR:aB D dH (λx=>[⟨(.sl 0),x.oM.dz⟩,⟨(.sl 0),x.oM.fk⟩,⟨(.sl 0),x.oM.fI⟩,⟨(.sl 0),x.oO.dz⟩,⟨(.sl 0),x.oO.fk⟩,⟨(.sl 0),x.oO.fI⟩,⟨(.sl 0),x.oN.dz⟩,⟨(.sl 0),x.oN.fk⟩,⟨(.sl 0),x.oN.fI⟩,⟨qI,x.Fe⟩,⟨qI,x.Fg⟩,⟨qI,x.Fo⟩,⟨qI,x.E9⟩]):=λS w cs x=>(aB.prod Li (aB.prod Li (aB.prod Li (aB.prod aB.int (aB.prod aB.int (aB.prod aB.int (aB.int)))))):aB D (j7×j7×j7×Int×Int×Int×Int) _) S w cs (akd x)
def apz:aB D jK (λx=>[⟨qI,x.fA.Kind⟩,⟨qI,x.fA.Number⟩,⟨qI,x.To.Kind⟩,⟨qI,x.To.Number⟩]):=λS w cs x=>(aB.prod Lk (Lk):aB D (Part×Part) _) S w cs (aj' x)
def apy:aB D jh (λx=>[⟨.str,x.Name⟩,⟨(.sl 10),x.fh⟩]):=λS w cs x=>(aB.prod aB.str ((aB.sl 10)):aB D (ByteArray×(List Part)) _) S w cs (akf x)
def aaT:aB D dw (λx=>[⟨(.sl 10),x.fh⟩,⟨(.sl 19),x.h_⟩,⟨(.sl 20),x.ii⟩]):=λS w cs x=>(aB.prod (aB.sl 10) (aB.prod (aB.sl 19) ((aB.sl 20))):aB D ((List Part)×(List jK)×(List jh)) _) S w cs (akn x)
def apx:aB D kX (λx=>[⟨qI,x.X4⟩,⟨qI,x.XU⟩,⟨qI,x.Xw⟩,⟨qI,x.XY⟩]):=λS w cs x=>(aB.prod aB.int (aB.prod aB.int (aB.prod aB.int (aB.int))):aB D (Int×Int×Int×Int) _) S w cs (aj4 x)
def aaQ:aB D e_ (λx=>[⟨qI,x.E_⟩,⟨qI,x.Sum⟩,⟨qI,x.Calm⟩,⟨qI,x.iN⟩,⟨qI,x.rU⟩,⟨qI,x.E4⟩,⟨qI,x.Fb⟩,⟨qI,x.Fc⟩,⟨qI,x.Fa⟩]):=λS w cs x=>(aB.prod aB.int (aB.prod aB.int (aB.prod aB.int (aB.prod aB.int (aB.prod aB.int (aB.prod aB.int (aB.prod aB.int (aB.prod aB.int (aB.int)))))))):aB D (Int×Int×Int×Int×Int×Int×Int×Int×Int) _) S w cs (akg x)
def RV:aB D iN (λx=>[⟨qI,x.X⟩,⟨qI,x.Y⟩]):=λS w cs x=>(aB.prod aB.int (aB.int):aB D (Int×Int) _) S w cs (aj6 x)
def aaM:aB D Target (λx=>[⟨qI,x.Place.X⟩,⟨qI,x.Place.Y⟩,⟨qI,x.Fi⟩]):=λS w cs x=>(aB.prod RV (aB.int):aB D (iN×Int) _) S w cs (ajR x)
def aaO:aB D fX (λx=>[⟨qI,x.Place.X⟩,⟨qI,x.Place.Y⟩,⟨qI,x.y9⟩,⟨qI,x.zd⟩]):=λS w cs x=>(aB.prod RV (aB.prod aB.int (aB.int)):aB D (iN×Int×Int) _) S w cs (akr x)
def aaP:aB D fV (λx=>[⟨.str,x.Name⟩,⟨qI,x.Fp⟩,⟨qI,x.fX.Place.X⟩,⟨qI,x.fX.Place.Y⟩,⟨qI,x.fX.y9⟩,⟨qI,x.fX.zd⟩,⟨qI,x.rU⟩]):=λS w cs x=>(aB.prod aB.str (aB.prod aB.int (aB.prod aaO (aB.int))):aB D (ByteArray×Int×fX×Int) _) S w cs (aj9 x)
def apw:aB D np (λx=>[⟨.str,x.Name⟩,⟨qI,x.Xu⟩,⟨qI,x.Xt⟩,⟨(.sl 0),x.b_⟩]):=λS w cs x=>(aB.prod aB.str (aB.prod aB.int (aB.prod aB.int ((aB.sl 0)))):aB D (ByteArray×Int×Int×(List Int)) _) S w cs (ajT x)
def aaN:aB D nS (λx=>[⟨(.sl 22),x.E5⟩]):=λS w cs x=>((aB.sl 22):aB D ((List np)) _) S w cs (aj0 x)
def apA:aB D jJ (λx=>[⟨(.sl 0),x.dH.oM.dz⟩,⟨(.sl 0),x.dH.oM.fk⟩,⟨(.sl 0),x.dH.oM.fI⟩,⟨(.sl 0),x.dH.oO.dz⟩,⟨(.sl 0),x.dH.oO.fk⟩,⟨(.sl 0),x.dH.oO.fI⟩,⟨(.sl 0),x.dH.oN.dz⟩,⟨(.sl 0),x.dH.oN.fk⟩,⟨(.sl 0),x.dH.oN.fI⟩,⟨qI,x.dH.Fe⟩,⟨qI,x.dH.Fg⟩,⟨qI,x.dH.Fo⟩,⟨qI,x.dH.E9⟩,⟨qI,x.di.iC⟩,⟨qI,x.di.g_⟩,⟨(.sl 16),x.di.cQ⟩,⟨qI,x.au.aA⟩,⟨(.sl 4),x.au.ae⟩,⟨(.sl 5),x.au.aj⟩,⟨(.sl 6),x.au.ay⟩,⟨qI,x.au.bh⟩,⟨qI,x.au.aY⟩,⟨qI,x.g9.Start⟩,⟨qI,x.g9.Stop⟩,⟨qI,x.g9.nU⟩,⟨(.sl 10),x.dw.fh⟩,⟨(.sl 19),x.dw.h_⟩,⟨(.sl 20),x.dw.ii⟩,⟨(.sl 21),x.PB⟩,⟨qI,x.e_.E_⟩,⟨qI,x.e_.Sum⟩,⟨qI,x.e_.Calm⟩,⟨qI,x.e_.iN⟩,⟨qI,x.e_.rU⟩,⟨qI,x.e_.E4⟩,⟨qI,x.e_.Fb⟩,⟨qI,x.e_.Fc⟩,⟨qI,x.e_.Fa⟩,⟨qI,x.Target.Place.X⟩,⟨qI,x.Target.Place.Y⟩,⟨qI,x.Target.Fi⟩,⟨qI,x.nU⟩,⟨.str,x.fV.Name⟩,⟨qI,x.fV.Fp⟩,⟨qI,x.fV.fX.Place.X⟩,⟨qI,x.fV.fX.Place.Y⟩,⟨qI,x.fV.fX.y9⟩,⟨qI,x.fV.fX.zd⟩,⟨qI,x.fV.rU⟩,⟨(.sl 22),x.nS.E5⟩]):=λS w cs x=>(aB.prod aaR (aB.prod aaU (aB.prod GI (aB.prod rd7 (aB.prod aaT (aB.prod (aB.sl 21) (aB.prod aaQ (aB.prod aaM (aB.prod aB.int (aB.prod aaP (aaN)))))))))):aB D (dH×di×au×g9×dw×(List kX)×e_×Target×Int×fV×nS) _) S w cs (ajM x)
def apv:aB D fa (λx=>[⟨qI,x.dz⟩,⟨qI,x.fk⟩,⟨qI,x.fI⟩]):=λS w cs x=>(aB.prod aB.int (aB.prod aB.int (aB.int)):aB D (Int×Int×Int) _) S w cs (akh x)
def apu:aB D bt (λx=>[⟨(.sl 0),x.aA⟩,⟨(.sl 0),x.aj⟩,⟨(.sl 0),x.ay⟩]):=λS w cs x=>(aB.prod (aB.sl 0) (aB.prod (aB.sl 0) ((aB.sl 0))):aB D ((List Int)×(List Int)×(List Int)) _) S w cs (akc x)
def apr:aB D pY (λx=>[⟨qI,x.cN.Time⟩,⟨(.sl 1),x.cN.aw.aF⟩,⟨(.sl 9),x.cN.aw.aj⟩,⟨(.sl 0),x.cN.aw.aW⟩,⟨(.sl 10),x.cN.aw.aR⟩,⟨(.sl 11),x.cN.pL⟩,⟨(.sl 12),x.cN.rT⟩,⟨qI,x.aQ.aA⟩,⟨(.sl 4),x.aQ.ae⟩,⟨(.sl 5),x.aQ.aj⟩,⟨(.sl 6),x.aQ.ay⟩,⟨qI,x.aQ.bh⟩,⟨qI,x.aQ.aY⟩,⟨(.sl 12),x.events⟩,⟨(.sl 14),x.FV⟩]):=λS w cs x=>(aB.prod rd8 (aB.prod GI (aB.prod (aB.sl 12) ((aB.sl 14)))):aB D (cN×au×(List Event)×(List aw)) _) S w cs (aaj x)
def apq:aB D od (λx=>[⟨qI,x.aQ.aA⟩,⟨(.sl 4),x.aQ.ae⟩,⟨(.sl 5),x.aQ.aj⟩,⟨(.sl 6),x.aQ.ay⟩,⟨qI,x.aQ.bh⟩,⟨qI,x.aQ.aY⟩,⟨(.sl 1),x.bg.aF⟩,⟨(.sl 9),x.bg.aj⟩,⟨(.sl 0),x.bg.aW⟩,⟨(.sl 10),x.bg.aR⟩,⟨qI,x.time⟩]):=λS w cs x=>(aB.prod GI (aB.prod Lj (aB.int)):aB D (au×aw×Int) _) S w cs (Y_ x)
def apo:aB D fD (λx=>[⟨qI,x.aQ.aA⟩,⟨(.sl 4),x.aQ.ae⟩,⟨(.sl 5),x.aQ.aj⟩,⟨(.sl 6),x.aQ.ay⟩,⟨qI,x.aQ.bh⟩,⟨qI,x.aQ.aY⟩,⟨(.sl 1),x.bg.aF⟩,⟨(.sl 9),x.bg.aj⟩,⟨(.sl 0),x.bg.aW⟩,⟨(.sl 10),x.bg.aR⟩,⟨(.sl 29),x.vR⟩]):=λS w cs x=>(aB.prod GI (aB.prod Lj ((aB.sl 29))):aB D (au×aw×(List Act)) _) S w cs (aaB x)
def apn:aB D fS (λx=>[⟨qI,x.X⟩,⟨qI,x.Y⟩]):=λS w cs x=>(aB.prod aB.int (aB.int):aB D (Int×Int) _) S w cs (ajQ x)
def RW:aB D mc (λx=>[⟨qI,x.dz⟩,⟨qI,x.iC⟩,⟨qI,x.g_⟩]):=λS w cs x=>(aB.prod aB.int (aB.prod aB.int (aB.int)):aB D (Int×Int×Int) _) S w cs (ako x)
def apm:aB D Fq (λx=>[⟨(.sl 33),x.Xv⟩,⟨qI,x.BW.dz⟩,⟨qI,x.BW.iC⟩,⟨qI,x.BW.g_⟩,⟨qI,x.BS.dz⟩,⟨qI,x.BS.iC⟩,⟨qI,x.BS.g_⟩]):=λS w cs x=>(aB.prod (aB.sl 33) (aB.prod RW (RW)):aB D ((List fS)×mc×mc) _) S w cs (akw x)
def apl:aB D pi (λx=>[⟨(.sl 16),x.wu⟩,⟨(.sl 33),x.last⟩]):=λS w cs x=>(aB.prod (aB.sl 16) ((aB.sl 33)):aB D ((List b8)×(List fS)) _) S w cs (abt x)
def apk:aB D ft (λx=>[⟨qI,x.ju⟩,⟨qI,x.iP⟩,⟨qI,x.fJ⟩]):=λS w cs x=>(aB.prod aB.int (aB.prod aB.int (aB.int)):aB D (Int×Int×Int) _) S w cs (ajZ x)
def apj:aB D jv (λx=>[⟨qI,x.Part.Kind⟩,⟨qI,x.Part.Number⟩,⟨.bool,x.xp⟩]):=λS w cs x=>(aB.prod Lk (aB.bool):aB D (Part×Bool) _) S w cs (akj x)
def api:aB D Src (λx=>[⟨(.sl 0),x.L⟩,⟨qI,x.At⟩]):=λS w cs x=>(aB.prod (aB.sl 0) (aB.int):aB D ((List Int)×Int) _) S w cs (ajU x)
def apD:aB D (List Int) (λx=>[⟨.sl 0,x⟩]):=aB.sl 0
def apt:aB D (List Part) (λx=>[⟨.sl 10,x⟩]):=aB.sl 10
def aps:aB D (Int×Int×Bool) (λx=>[⟨qI,x.1⟩,⟨qI,x.2.1⟩,⟨.bool,x.2.2⟩]):=aB.prod aB.int (aB.prod aB.int (aB.bool))
def pb:cE T where
 sz:=λn=>match n with
  |0=>rfl
  |1=>rfl
  |2=>rfl
  |3=>rfl
  |4=>rfl
  |5=>rfl
  |6=>rfl
  |7=>rfl
  |8=>rfl
  |9=>rfl
  |10=>rfl
  |11=>rfl
  |12=>rfl
  |13=>rfl
  |14=>rfl
  |15=>rfl
  |16=>rfl
  |17=>rfl
  |18=>rfl
  |19=>rfl
  |20=>rfl
  |21=>rfl
  |22=>rfl
  |23=>rfl
  |24=>rfl
  |25=>rfl
  |26=>rfl
  |27=>rfl
  |28=>rfl
  |29=>rfl
  |30=>rfl
  |31=>rfl
  |32=>rfl
  |33=>rfl
  |34=>rfl
  |35=>rfl
  |36=>rfl
  |37=>rfl
  |38=>rfl
  |39=>rfl
  |40=>rfl
  |41=>rfl
  |42=>rfl
  |43=>rfl
  |44=>rfl
  |45=>rfl
  |46=>rfl
  |47=>rfl
  |_+48=>rfl
 ag:=λn=>match n with
  |0=>rfl
  |1=>rfl
  |2=>rfl
  |3=>rfl
  |4=>rfl
  |5=>rfl
  |6=>rfl
  |7=>rfl
  |8=>rfl
  |9=>rfl
  |10=>rfl
  |11=>rfl
  |12=>rfl
  |13=>rfl
  |14=>rfl
  |15=>rfl
  |16=>rfl
  |17=>rfl
  |18=>rfl
  |19=>rfl
  |20=>rfl
  |21=>rfl
  |22=>rfl
  |23=>rfl
  |24=>rfl
  |25=>rfl
  |26=>rfl
  |27=>rfl
  |28=>rfl
  |29=>rfl
  |30=>rfl
  |31=>rfl
  |32=>rfl
  |33=>rfl
  |34=>rfl
  |35=>rfl
  |36=>rfl
  |37=>rfl
  |38=>rfl
  |39=>rfl
  |40=>rfl
  |41=>rfl
  |42=>rfl
  |43=>rfl
  |44=>rfl
  |45=>rfl
  |46=>rfl
  |47=>rfl
  |_+48=>rfl
 zc:=λn=>match n with
  |0=>rfl
  |1=>rfl
  |2=>rfl
  |3=>rfl
  |4=>rfl
  |5=>rfl
  |6=>rfl
  |7=>rfl
  |8=>rfl
  |9=>rfl
  |10=>rfl
  |11=>rfl
  |12=>rfl
  |13=>rfl
  |14=>rfl
  |15=>rfl
  |16=>rfl
  |17=>rfl
  |18=>rfl
  |19=>rfl
  |20=>rfl
  |21=>rfl
  |22=>rfl
  |23=>rfl
  |24=>rfl
  |25=>rfl
  |26=>rfl
  |27=>rfl
  |28=>rfl
  |29=>rfl
  |30=>rfl
  |31=>rfl
  |32=>rfl
  |33=>rfl
  |34=>rfl
  |35=>rfl
  |36=>rfl
  |37=>rfl
  |38=>rfl
  |39=>rfl
  |40=>rfl
  |41=>rfl
  |42=>rfl
  |43=>rfl
  |44=>rfl
  |45=>rfl
  |46=>rfl
  |47=>rfl
  |_+48=>rfl
 zero:=λn=>match n with
  |0=>rfl
  |1=>rfl
  |2=>rfl
  |3=>rfl
  |4=>rfl
  |5=>rfl
  |6=>rfl
  |7=>rfl
  |8=>rfl
  |9=>rfl
  |10=>rfl
  |11=>rfl
  |12=>rfl
  |13=>rfl
  |14=>rfl
  |15=>rfl
  |16=>rfl
  |17=>rfl
  |18=>rfl
  |19=>rfl
  |20=>rfl
  |21=>rfl
  |22=>rfl
  |23=>rfl
  |24=>rfl
  |25=>rfl
  |26=>rfl
  |27=>rfl
  |28=>rfl
  |29=>rfl
  |30=>rfl
  |31=>rfl
  |32=>rfl
  |33=>rfl
  |34=>rfl
  |35=>rfl
  |36=>rfl
  |37=>rfl
  |38=>rfl
  |39=>rfl
  |40=>rfl
  |41=>rfl
  |42=>rfl
  |43=>rfl
  |44=>rfl
  |45=>rfl
  |46=>rfl
  |47=>rfl
  |_+48=>rfl
 rd:=λn S w cs x=>match n,x with
  |0,x=>aB.int S w cs x
  |1,x=>aB.bool S w cs x
  |2,x=>aB.str S w cs x
  |3,x=>GI S w cs x
  |4,x=>rd4 S w cs x
  |5,x=>rd5 S w cs x
  |6,x=>rd6 S w cs x
  |7,x=>rd7 S w cs x
  |8,x=>rd8 S w cs x
  |9,x=>rd9 S w cs x
  |10,x=>Lk S w cs x
  |11,x=>apG S w cs x
  |12,x=>apF S w cs x
  |13,x=>apD S w cs x
  |14,x=>Lj S w cs x
  |15,x=>aaU S w cs x
  |16,x=>apC S w cs x
  |17,x=>apB S w cs x
  |18,x=>apA S w cs x
  |19,x=>apz S w cs x
  |20,x=>apy S w cs x
  |21,x=>apx S w cs x
  |22,x=>apw S w cs x
  |23,x=>apv S w cs x
  |24,x=>apu S w cs x
  |25,x=>aaT S w cs x
  |26,x=>aB.u8 S w cs x
  |27,x=>apt S w cs x
  |28,x=>aps S w cs x
  |29,x=>aaS S w cs x
  |30,x=>apr S w cs x
  |31,x=>apq S w cs x
  |32,x=>apo S w cs x
  |33,x=>apn S w cs x
  |34,x=>RW S w cs x
  |35,x=>apm S w cs x
  |36,x=>apl S w cs x
  |37,x=>apk S w cs x
  |38,x=>apj S w cs x
  |39,x=>api S w cs x
  |40,x=>aaR S w cs x
  |41,x=>Li S w cs x
  |42,x=>aaQ S w cs x
  |43,x=>aaP S w cs x
  |44,x=>aaO S w cs x
  |45,x=>RV S w cs x
  |46,x=>aaN S w cs x
  |47,x=>aaM S w cs x
  |_+48,x=>aB.int S w cs x
 uo:=λn=>match n with
  |0=>by decide
  |1=>by decide
  |2=>by decide
  |3=>by decide
  |4=>by decide
  |5=>by decide
  |6=>by decide
  |7=>by decide
  |8=>by decide
  |9=>by decide
  |10=>by decide
  |11=>by decide
  |12=>by decide
  |13=>by decide
  |14=>by decide
  |15=>by decide
  |16=>by decide
  |17=>by decide
  |18=>by decide
  |19=>by decide
  |20=>by decide
  |21=>by decide
  |22=>by decide
  |23=>by decide
  |24=>by decide
  |25=>by decide
  |26=>by decide
  |27=>by decide
  |28=>by decide
  |29=>by decide
  |30=>by decide
  |31=>by decide
  |32=>by decide
  |33=>by decide
  |34=>by decide
  |35=>by decide
  |36=>by decide
  |37=>by decide
  |38=>by decide
  |39=>by decide
  |40=>by decide
  |41=>by decide
  |42=>by decide
  |43=>by decide
  |44=>by decide
  |45=>by decide
  |46=>by decide
  |47=>by decide
  |_+48=>by show 1<=112;decide
 LS:=λn h=>match n,h with
  |0,h=>rfl
  |1,h=>rfl
  |2,h=>rfl
  |3,h=>rfl
  |4,h=>rfl
  |5,h=>rfl
  |6,h=>rfl
  |7,h=>rfl
  |8,h=>rfl
  |9,h=>rfl
  |10,h=>rfl
  |11,h=>rfl
  |12,h=>rfl
  |13,h=>rfl
  |14,h=>rfl
  |15,h=>rfl
  |16,h=>rfl
  |17,h=>rfl
  |18,h=>rfl
  |19,h=>rfl
  |20,h=>rfl
  |21,h=>rfl
  |22,h=>rfl
  |23,h=>rfl
  |24,h=>rfl
  |25,h=>rfl
  |26,h=>rfl
  |27,h=>rfl
  |28,h=>rfl
  |29,h=>rfl
  |30,h=>rfl
  |31,h=>rfl
  |32,h=>rfl
  |33,h=>rfl
  |34,h=>rfl
  |35,h=>rfl
  |36,h=>rfl
  |37,h=>rfl
  |38,h=>rfl
  |39,h=>rfl
  |40,h=>rfl
  |41,h=>rfl
  |42,h=>rfl
  |43,h=>rfl
  |44,h=>rfl
  |45,h=>rfl
  |46,h=>rfl
  |47,h=>rfl
  |_+48,h=>rfl
def amq:cj prog T 3 (.one qI):=⟨bp.of underlying3 rfl (by kernel_rfl),underlying3⟩
def amd:cj prog T 4 (.one .bool):=⟨bp.of underlying4 rfl (by kernel_rfl),underlying4⟩
def al7:cj prog T 5 (.one (.int .u8)):=⟨bp.of underlying5 rfl (by kernel_rfl),underlying5⟩
def alP:cj prog T 9 (.one .str):=⟨bp.of underlying9 rfl (by kernel_rfl),underlying9⟩
def amE:cj prog T 22 (.one (.sl 0)):=⟨bp.of underlying22 rfl (by kernel_rfl),trivial⟩
def amB:cj prog T 24 (.ptr):=⟨bp.of underlying24 rfl (by kernel_rfl),trivial⟩
def amx:cj prog T 27 (.st 41):=⟨bp.of underlying27 rfl (by kernel_rfl),trivial⟩
def ams:cj prog T 29 (.st 40):=⟨bp.of underlying29 rfl (by kernel_rfl),trivial⟩
def amp:cj prog T 30 (.one (.sl 16)):=⟨bp.of underlying30 rfl (by kernel_rfl),trivial⟩
def aml:cj prog T 32 (.st 15):=⟨bp.of underlying32 rfl (by kernel_rfl),trivial⟩
def amk:cj prog T 33 (.one (.sl 4)):=⟨bp.of underlying33 rfl (by kernel_rfl),trivial⟩
def ami:cj prog T 34 (.one (.sl 5)):=⟨bp.of underlying34 rfl (by kernel_rfl),trivial⟩
def amh:cj prog T 35 (.one (.sl 6)):=⟨bp.of underlying35 rfl (by kernel_rfl),trivial⟩
def amf:cj prog T 37 (.st 3):=⟨bp.of underlying37 rfl (by kernel_rfl),trivial⟩
def ame:cj prog T 39 (.st 7):=⟨bp.of underlying39 rfl (by kernel_rfl),trivial⟩
def amc:cj prog T 40 (.one (.sl 10)):=⟨bp.of underlying40 rfl (by kernel_rfl),trivial⟩
def amb:cj prog T 41 (.one (.sl 19)):=⟨bp.of underlying41 rfl (by kernel_rfl),trivial⟩
def ama:cj prog T 42 (.one (.sl 20)):=⟨bp.of underlying42 rfl (by kernel_rfl),trivial⟩
def al':cj prog T 44 (.st 25):=⟨bp.of underlying44 rfl (by kernel_rfl),trivial⟩
def al_:cj prog T 45 (.one (.sl 21)):=⟨bp.of underlying45 rfl (by kernel_rfl),trivial⟩
def al9:cj prog T 47 (.st 42):=⟨bp.of underlying47 rfl (by kernel_rfl),trivial⟩
def al8:cj prog T 49 (.st 45):=⟨bp.of underlying49 rfl (by kernel_rfl),trivial⟩
def al6:cj prog T 51 (.st 47):=⟨bp.of underlying51 rfl (by kernel_rfl),trivial⟩
def al5:cj prog T 53 (.st 44):=⟨bp.of underlying53 rfl (by kernel_rfl),trivial⟩
def al4:cj prog T 55 (.st 43):=⟨bp.of underlying55 rfl (by kernel_rfl),trivial⟩
def al3:cj prog T 56 (.one (.sl 22)):=⟨bp.of underlying56 rfl (by kernel_rfl),trivial⟩
def al2:cj prog T 58 (.st 46):=⟨bp.of underlying58 rfl (by kernel_rfl),trivial⟩
def al1:cj prog T 60 (.st 18):=⟨bp.of underlying60 rfl (by kernel_rfl),trivial⟩
def al0:cj prog T 62 (.one (.sl 1)):=⟨bp.of underlying62 rfl (by kernel_rfl),trivial⟩
def alZ:cj prog T 63 (.one (.sl 9)):=⟨bp.of underlying63 rfl (by kernel_rfl),trivial⟩
def alY:cj prog T 65 (.st 14):=⟨bp.of underlying65 rfl (by kernel_rfl),trivial⟩
def alX:cj prog T 66 (.one (.sl 11)):=⟨bp.of underlying66 rfl (by kernel_rfl),trivial⟩
def alW:cj prog T 67 (.one (.sl 12)):=⟨bp.of underlying67 rfl (by kernel_rfl),trivial⟩
def alV:cj prog T 69 (.st 8):=⟨bp.of underlying69 rfl (by kernel_rfl),trivial⟩
def alU:cj prog T 72 (.st 23):=⟨bp.of underlying72 rfl (by kernel_rfl),trivial⟩
def alT:cj prog T 74 (.one (.sl 38)):=⟨bp.of underlying74 rfl (by kernel_rfl),trivial⟩
def alS:cj prog T 75 (.one qI):=⟨bp.of underlying75 rfl (by kernel_rfl),underlying75⟩
def alR:cj prog T 79 (.st 10):=⟨bp.of underlying79 rfl (by kernel_rfl),trivial⟩
def alQ:cj prog T 81 (.st 38):=⟨bp.of underlying81 rfl (by kernel_rfl),trivial⟩
def alO:cj prog T 91 (.st 39):=⟨bp.of underlying91 rfl (by kernel_rfl),trivial⟩
def alN:cj prog T 93 (.st 4):=⟨bp.of underlying93 rfl (by kernel_rfl),trivial⟩
def alM:cj prog T 96 (.st 5):=⟨bp.of underlying96 rfl (by kernel_rfl),trivial⟩
def alL:cj prog T 99 (.st 6):=⟨bp.of underlying99 rfl (by kernel_rfl),trivial⟩
def amZ:cj prog T 100 (.one (.sl 17)):=⟨bp.of underlying100 rfl (by kernel_rfl),trivial⟩
def amY:cj prog T 102 (.st 16):=⟨bp.of underlying102 rfl (by kernel_rfl),trivial⟩
def amX:cj prog T 104 (.st 21):=⟨bp.of underlying104 rfl (by kernel_rfl),trivial⟩
def amW:cj prog T 110 (.st 11):=⟨bp.of underlying110 rfl (by kernel_rfl),trivial⟩
def amV:cj prog T 120 (.one (.sl 14)):=⟨bp.of underlying120 rfl (by kernel_rfl),trivial⟩
def amU:cj prog T 124 (.st 29):=⟨bp.of underlying124 rfl (by kernel_rfl),trivial⟩
def amT:cj prog T 132 (.st 34):=⟨bp.of underlying132 rfl (by kernel_rfl),trivial⟩
def amS:cj prog T 140 (.st 9):=⟨bp.of underlying140 rfl (by kernel_rfl),trivial⟩
def amR:cj prog T 154 (.st 19):=⟨bp.of underlying154 rfl (by kernel_rfl),trivial⟩
def amQ:cj prog T 155 (.one (.sl 2)):=⟨bp.of underlying155 rfl (by kernel_rfl),trivial⟩
def amP:cj prog T 157 (.st 20):=⟨bp.of underlying157 rfl (by kernel_rfl),trivial⟩
def amO:cj prog T 165 (.fn):=⟨bp.of underlying165 rfl (by kernel_rfl),trivial⟩
def amN:cj prog T 176 (.one (.sl 27)):=⟨bp.of underlying176 rfl (by kernel_rfl),trivial⟩
def amM:cj prog T 179 (.ptr):=⟨bp.of underlying179 rfl (by kernel_rfl),trivial⟩
def amL:cj prog T 183 (.st 30):=⟨bp.of underlying183 rfl (by kernel_rfl),trivial⟩
def amK:cj prog T 192 (.st 12):=⟨bp.of underlying192 rfl (by kernel_rfl),trivial⟩
def amJ:cj prog T 199 (.one (.sl 33)):=⟨bp.of underlying199 rfl (by kernel_rfl),trivial⟩
def amI:cj prog T 201 (.st 35):=⟨bp.of underlying201 rfl (by kernel_rfl),trivial⟩
def amH:cj prog T 209 (.one (.int .u64)):=⟨bp.of underlying209 rfl (by kernel_rfl),underlying209⟩
def amG:cj prog T 217 (.one (.sl 26)):=⟨bp.of underlying217 rfl (by kernel_rfl),trivial⟩
def amF:cj prog T 219 (.st 22):=⟨bp.of underlying219 rfl (by kernel_rfl),trivial⟩
def amD:cj prog T 224 (.one (.sl 24)):=⟨bp.of underlying224 rfl (by kernel_rfl),trivial⟩
def amC:cj prog T 227 (.st 24):=⟨bp.of underlying227 rfl (by kernel_rfl),trivial⟩
def amA:cj prog T 253 (.one (.sl 29)):=⟨bp.of underlying253 rfl (by kernel_rfl),trivial⟩
def amz:cj prog T 264 (.st 33):=⟨bp.of underlying264 rfl (by kernel_rfl),trivial⟩
def amy:cj prog T 267 (.st 36):=⟨bp.of underlying267 rfl (by kernel_rfl),trivial⟩
def amw:cj prog T 272 (.one (.sl 37)):=⟨bp.of underlying272 rfl (by kernel_rfl),trivial⟩
def amv:cj prog T 277 (.one (.sl 13)):=⟨bp.of underlying277 rfl (by kernel_rfl),trivial⟩
def amu:cj prog T 283 (.one (.int .u64)):=⟨bp.of underlying283 rfl (by kernel_rfl),underlying283⟩
def amt:cj prog T 288 (.st 17):=⟨bp.of underlying288 rfl (by kernel_rfl),trivial⟩
def amr:cj prog T 297 (.one qI):=⟨bp.of underlying297 rfl (by kernel_rfl),underlying297⟩
def amo:cj prog T 308 (.ptr):=⟨bp.of underlying308 rfl (by kernel_rfl),trivial⟩
def amn:cj prog T 310 (.st 31):=⟨bp.of underlying310 rfl (by kernel_rfl),trivial⟩
def amm:cj prog T 313 (.ptr):=⟨bp.of underlying313 rfl (by kernel_rfl),trivial⟩
def amj:cj prog T 331 (.st 37):=⟨bp.of underlying331 rfl (by kernel_rfl),trivial⟩
def amg:cj prog T 355 (.st 32):=⟨bp.of underlying355 rfl (by kernel_rfl),trivial⟩
def F1:prog.underlying 22=aa (.slice 3)∧bN prog 3 (D 0):=⟨underlying22,bN.of underlying3 rfl (by kernel_rfl)⟩
def aoc:prog.underlying 30=aa (.slice 102)∧bN prog 102 (D 16):=⟨underlying30,bN.of underlying102 rfl (by kernel_rfl)⟩
def aob:prog.underlying 33=aa (.slice 93)∧bN prog 93 (D 4):=⟨underlying33,bN.of underlying93 rfl (by kernel_rfl)⟩
def aoa:prog.underlying 34=aa (.slice 96)∧bN prog 96 (D 5):=⟨underlying34,bN.of underlying96 rfl (by kernel_rfl)⟩
def an':prog.underlying 35=aa (.slice 99)∧bN prog 99 (D 6):=⟨underlying35,bN.of underlying99 rfl (by kernel_rfl)⟩
def ww:prog.underlying 40=aa (.slice 79)∧bN prog 79 (D 10):=⟨underlying40,bN.of underlying79 rfl (by kernel_rfl)⟩
def an_:prog.underlying 41=aa (.slice 154)∧bN prog 154 (D 19):=⟨underlying41,bN.of underlying154 rfl (by kernel_rfl)⟩
def an9:prog.underlying 42=aa (.slice 157)∧bN prog 157 (D 20):=⟨underlying42,bN.of underlying157 rfl (by kernel_rfl)⟩
def an8:prog.underlying 45=aa (.slice 104)∧bN prog 104 (D 21):=⟨underlying45,bN.of underlying104 rfl (by kernel_rfl)⟩
def an7:prog.underlying 56=aa (.slice 219)∧bN prog 219 (D 22):=⟨underlying56,bN.of underlying219 rfl (by kernel_rfl)⟩
def F0:prog.underlying 62=aa (.slice 4)∧bN prog 4 (D 1):=⟨underlying62,bN.of underlying4 rfl (by kernel_rfl)⟩
def FZ:prog.underlying 63=aa (.slice 140)∧bN prog 140 (D 9):=⟨underlying63,bN.of underlying140 rfl (by kernel_rfl)⟩
def FY:prog.underlying 66=aa (.slice 110)∧bN prog 110 (D 11):=⟨underlying66,bN.of underlying110 rfl (by kernel_rfl)⟩
def FX:prog.underlying 67=aa (.slice 192)∧bN prog 192 (D 12):=⟨underlying67,bN.of underlying192 rfl (by kernel_rfl)⟩
def an6:prog.underlying 74=aa (.slice 81)∧bN prog 81 (D 38):=⟨underlying74,bN.of underlying81 rfl (by kernel_rfl)⟩
def F2:prog.underlying 100=aa (.slice 288)∧bN prog 288 (D 17):=⟨underlying100,bN.of underlying288 rfl (by kernel_rfl)⟩
def aol:prog.underlying 120=aa (.slice 65)∧bN prog 65 (D 14):=⟨underlying120,bN.of underlying65 rfl (by kernel_rfl)⟩
def aok:prog.underlying 155=aa (.slice 9)∧bN prog 9 (D 2):=⟨underlying155,bN.of underlying9 rfl (by kernel_rfl)⟩
def aoj:prog.underlying 176=aa (.slice 40)∧bN prog 40 (D 27):=⟨underlying176,bN.of underlying40 rfl (by kernel_rfl)⟩
def aoi:prog.underlying 199=aa (.slice 264)∧bN prog 264 (D 33):=⟨underlying199,bN.of underlying264 rfl (by kernel_rfl)⟩
def aoh:prog.underlying 217=aa (.slice 5)∧bN prog 5 (D 26):=⟨underlying217,bN.of underlying5 rfl (by kernel_rfl)⟩
def aog:prog.underlying 224=aa (.slice 227)∧bN prog 227 (D 24):=⟨underlying224,bN.of underlying227 rfl (by kernel_rfl)⟩
def aof:prog.underlying 253=aa (.slice 124)∧bN prog 124 (D 29):=⟨underlying253,bN.of underlying124 rfl (by kernel_rfl)⟩
def aoe:prog.underlying 272=aa (.slice 331)∧bN prog 331 (D 37):=⟨underlying272,bN.of underlying331 rfl (by kernel_rfl)⟩
def aod:prog.underlying 277=aa (.slice 22)∧bN prog 22 (D 13):=⟨underlying277,bN.of underlying22 rfl (by kernel_rfl)⟩
def awJ:FG 27 [(0,1),(1,1),(2,1)]:=fg ⟨_,underlying27,by kernel_rfl⟩ rfl
def awH:FG 29 [(0,3),(3,3),(6,3),(9,1),(10,1),(11,1),(12,1)]:=fg ⟨_,underlying29,by kernel_rfl⟩ rfl
def awF:FG 32 [(0,1),(1,1),(2,1)]:=fg ⟨_,underlying32,by kernel_rfl⟩ rfl
def awC:FG 37 [(0,1),(1,1),(2,1),(3,1),(4,1),(5,1)]:=fg ⟨_,underlying37,by kernel_rfl⟩ rfl
def awB:FG 39 [(0,1),(1,1),(2,1)]:=fg ⟨_,underlying39,by kernel_rfl⟩ rfl
def awA:FG 44 [(0,1),(1,1),(2,1)]:=fg ⟨_,underlying44,by kernel_rfl⟩ rfl
def awz:FG 47 [(0,1),(1,1),(2,1),(3,1),(4,1),(5,1),(6,1),(7,1),(8,1)]:=fg ⟨_,underlying47,by kernel_rfl⟩ rfl
def awy:FG 49 [(0,1),(1,1)]:=fg ⟨_,underlying49,by kernel_rfl⟩ rfl
def awx:FG 51 [(0,2),(2,1)]:=fg ⟨_,underlying51,by kernel_rfl⟩ rfl
def aww:FG 53 [(0,2),(2,1),(3,1)]:=fg ⟨_,underlying53,by kernel_rfl⟩ rfl
def awv:FG 55 [(0,1),(1,1),(2,4),(6,1)]:=fg ⟨_,underlying55,by kernel_rfl⟩ rfl
def awu:FG 58 [(0,1)]:=fg ⟨_,underlying58,by kernel_rfl⟩ rfl
def awt:FG 60 [(0,13),(13,3),(16,6),(22,3),(25,3),(28,1),(29,9),(38,3),(41,1),(42,7),(49,1)]:=fg ⟨_,underlying60,by kernel_rfl⟩ rfl
def aws:FG 65 [(0,1),(1,1),(2,1),(3,1)]:=fg ⟨_,underlying65,by kernel_rfl⟩ rfl
def awr:FG 69 [(0,1),(1,4),(5,1),(6,1)]:=fg ⟨_,underlying69,by kernel_rfl⟩ rfl
def awq:FG 72 [(0,1),(1,1),(2,1)]:=fg ⟨_,underlying72,by kernel_rfl⟩ rfl
def awp:FG 79 [(0,1),(1,1)]:=fg ⟨_,underlying79,by kernel_rfl⟩ rfl
def awo:FG 81 [(0,2),(2,1)]:=fg ⟨_,underlying81,by kernel_rfl⟩ rfl
def awn:FG 91 [(0,1),(1,1)]:=fg ⟨_,underlying91,by kernel_rfl⟩ rfl
def awm:FG 93 [(0,1),(1,1),(2,1)]:=fg ⟨_,underlying93,by kernel_rfl⟩ rfl
def awl:FG 96 [(0,1),(1,1),(2,1)]:=fg ⟨_,underlying96,by kernel_rfl⟩ rfl
def awk:FG 99 [(0,1),(1,1),(2,1),(3,1),(4,1)]:=fg ⟨_,underlying99,by kernel_rfl⟩ rfl
def awY:FG 102 [(0,1),(1,1),(2,1),(3,1),(4,1),(5,1)]:=fg ⟨_,underlying102,by kernel_rfl⟩ rfl
def awX:FG 104 [(0,1),(1,1),(2,1),(3,1)]:=fg ⟨_,underlying104,by kernel_rfl⟩ rfl
def awW:FG 110 [(0,1),(1,1)]:=fg ⟨_,underlying110,by kernel_rfl⟩ rfl
def awV:FG 124 [(0,1),(1,1),(2,1)]:=fg ⟨_,underlying124,by kernel_rfl⟩ rfl
def awU:FG 132 [(0,1),(1,1),(2,1)]:=fg ⟨_,underlying132,by kernel_rfl⟩ rfl
def awT:FG 140 [(0,1),(1,1),(2,1),(3,1)]:=fg ⟨_,underlying140,by kernel_rfl⟩ rfl
def awS:FG 154 [(0,2),(2,2)]:=fg ⟨_,underlying154,by kernel_rfl⟩ rfl
def awR:FG 157 [(0,1),(1,1)]:=fg ⟨_,underlying157,by kernel_rfl⟩ rfl
def awQ:FG 183 [(0,7),(7,6),(13,1),(14,1)]:=fg ⟨_,underlying183,by kernel_rfl⟩ rfl
def awP:FG 192 [(0,1),(1,3),(4,1)]:=fg ⟨_,underlying192,by kernel_rfl⟩ rfl
def awO:FG 201 [(0,1),(1,3),(4,3)]:=fg ⟨_,underlying201,by kernel_rfl⟩ rfl
def awN:FG 219 [(0,1),(1,1),(2,1),(3,1)]:=fg ⟨_,underlying219,by kernel_rfl⟩ rfl
def awM:FG 227 [(0,1),(1,1),(2,1)]:=fg ⟨_,underlying227,by kernel_rfl⟩ rfl
def awL:FG 264 [(0,1),(1,1)]:=fg ⟨_,underlying264,by kernel_rfl⟩ rfl
def awK:FG 267 [(0,1),(1,1)]:=fg ⟨_,underlying267,by kernel_rfl⟩ rfl
def awI:FG 288 [(0,1),(1,1)]:=fg ⟨_,underlying288,by kernel_rfl⟩ rfl
def awG:FG 310 [(0,6),(6,4),(10,1)]:=fg ⟨_,underlying310,by kernel_rfl⟩ rfl
def awE:FG 331 [(0,1),(1,1),(2,1)]:=fg ⟨_,underlying331,by kernel_rfl⟩ rfl
def awD:FG 355 [(0,6),(6,4),(10,1)]:=fg ⟨_,underlying355,by kernel_rfl⟩ rfl
def sT:lI prog 3 ai [qI] 1:=lI.int underlying3
def aeF:lI prog 79 ab [qI,qI] 2:=by refine lI.struct (k:=1) underlying79 (by kernel_rfl) ?_;exact⟨by simp,rfl,ai,[qI],[qI],[.int .i64 0],rfl,bp.of underlying3 rfl (by kernel_rfl),rfl,λ_=>rfl,sT.up (by decide),⟨by simp,rfl,ai,[qI],[],[.int .i64 0],rfl,bp.of underlying3 rfl (by kernel_rfl),rfl,λ_=>rfl,sT.up (by decide),rfl⟩⟩
def axj:BX prog 79 [qI,qI]∧([qI,qI]:List Lf).all jG=ab:=⟨⟨⟨2,by decide,aeF⟩,by kernel_rfl⟩,rfl⟩
def axm:lI prog 93 ab [qI,qI,qI] 2:=by refine lI.struct (k:=1) underlying93 (by kernel_rfl) ?_;exact⟨by simp,rfl,ai,[qI],[qI,qI],[.int .i64 0],rfl,bp.of underlying3 rfl (by kernel_rfl),rfl,λ_=>rfl,sT.up (by decide),⟨by simp,rfl,ai,[qI],[qI],[.int .i64 0],rfl,bp.of underlying3 rfl (by kernel_rfl),rfl,λ_=>rfl,sT.up (by decide),⟨by simp,rfl,ai,[qI],[],[.int .i64 0],rfl,bp.of underlying3 rfl (by kernel_rfl),rfl,λ_=>rfl,sT.up (by decide),rfl⟩⟩⟩
def axi:BX prog 93 [qI,qI,qI]∧([qI,qI,qI]:List Lf).all jG=ab:=⟨⟨⟨2,by decide,axm⟩,by kernel_rfl⟩,rfl⟩
def axo:lI prog 132 ab [qI,qI,qI] 2:=by refine lI.struct (k:=1) underlying132 (by kernel_rfl) ?_;exact⟨by simp,rfl,ai,[qI],[qI,qI],[.int .i64 0],rfl,bp.of underlying3 rfl (by kernel_rfl),rfl,λ_=>rfl,sT.up (by decide),⟨by simp,rfl,ai,[qI],[qI],[.int .i64 0],rfl,bp.of underlying3 rfl (by kernel_rfl),rfl,λ_=>rfl,sT.up (by decide),⟨by simp,rfl,ai,[qI],[],[.int .i64 0],rfl,bp.of underlying3 rfl (by kernel_rfl),rfl,λ_=>rfl,sT.up (by decide),rfl⟩⟩⟩
def axl:BX prog 132 [qI,qI,qI]∧([qI,qI,qI]:List Lf).all jG=ab:=⟨⟨⟨2,by decide,axo⟩,by kernel_rfl⟩,rfl⟩
def axn:lI prog 140 ab [qI,qI,qI,qI] 2:=by refine lI.struct (k:=1) underlying140 (by kernel_rfl) ?_;exact⟨by simp,rfl,ai,[qI],[qI,qI,qI],[.int .i64 0],rfl,bp.of underlying3 rfl (by kernel_rfl),rfl,λ_=>rfl,sT.up (by decide),⟨by simp,rfl,ai,[qI],[qI,qI],[.int .i64 0],rfl,bp.of underlying3 rfl (by kernel_rfl),rfl,λ_=>rfl,sT.up (by decide),⟨by simp,rfl,ai,[qI],[qI],[.int .i64 0],rfl,bp.of underlying3 rfl (by kernel_rfl),rfl,λ_=>rfl,sT.up (by decide),⟨by simp,rfl,ai,[qI],[],[.int .i64 0],rfl,bp.of underlying3 rfl (by kernel_rfl),rfl,λ_=>rfl,sT.up (by decide),rfl⟩⟩⟩⟩
def axk:BX prog 140 [qI,qI,qI,qI]∧([qI,qI,qI,qI]:List Lf).all jG=ab:=⟨⟨⟨2,by decide,axn⟩,by kernel_rfl⟩,rfl⟩
instance:Flat cG:=⟨λh=>Flat.any (α:=Int×Int×Int) h⟩
instance:Flat Source:=⟨λh=>Flat.any (α:=Int×Int×Int) h⟩
instance:Flat g9:=⟨λh=>Flat.any (α:=Int×Int×Int) h⟩
instance:Flat bn:=⟨λh=>Flat.any (α:=Int×Int×Int×Int) h⟩
instance:Flat Part:=⟨λh=>Flat.any (α:=Int×Int) h⟩
instance:Flat eM:=⟨λh=>Flat.any (α:=Int×Int) h⟩
instance:Flat Act:=⟨λh=>Flat.any (α:=Int×Int×Int) h⟩
instance:Flat Event:=⟨λh=>Flat.any (α:=Int×Act×Int) h⟩
instance:Flat iD:=⟨λh=>Flat.any (α:=Int×Int) h⟩
instance:Flat jK:=⟨λh=>Flat.any (α:=Part×Part) h⟩
instance:Flat kX:=⟨λh=>Flat.any (α:=Int×Int×Int×Int) h⟩
instance:Flat fa:=⟨λh=>Flat.any (α:=Int×Int×Int) h⟩
instance:Flat fS:=⟨λh=>Flat.any (α:=Int×Int) h⟩
instance:Flat mc:=⟨λh=>Flat.any (α:=Int×Int×Int) h⟩
instance:Flat ft:=⟨λh=>Flat.any (α:=Int×Int×Int) h⟩
instance:Flat jv:=⟨λh=>Flat.any (α:=Part×Bool) h⟩
instance:Flat e_:=⟨λh=>Flat.any (α:=Int×Int×Int×Int×Int×Int×Int×Int×Int) h⟩
instance:Flat iN:=⟨λh=>Flat.any (α:=Int×Int) h⟩
instance:Flat fX:=⟨λh=>Flat.any (α:=iN×Int×Int) h⟩
instance:Flat fV:=⟨λh=>Flat.any (α:=ByteArray×Int×fX×Int) h⟩
instance:Flat Target:=⟨λh=>Flat.any (α:=iN×Int) h⟩
theorem aw4:Flat (D 0):=(inferInstance:Flat Int)
theorem aw3:Flat (D 1):=(inferInstance:Flat Bool)
theorem awZ:Flat (D 9):=(inferInstance:Flat bn)
theorem U6:Flat (D 10):=(inferInstance:Flat Part)
theorem aw2:Flat (D 11):=(inferInstance:Flat eM)
theorem aw1:Flat (D 12):=(inferInstance:Flat Event)
theorem aw0:Flat (D 17):=(inferInstance:Flat iD)
def arQ:Je prog D 13 3 0:=⟨(inferInstance:nq (List Int)),(inferInstance:Flat Int),bN.of underlying3 rfl (by kernel_rfl),rfl⟩
instance:nq bt:=⟨λh=>nq.loc (α:=(List Int)×(List Int)×(List Int)) h⟩
def arP:Je prog D 24 3 0:=⟨(inferInstance:nq bt),(inferInstance:Flat Int),bN.of underlying3 rfl (by kernel_rfl),rfl⟩
def aqR:PG prog T 172 79 4 28:=⟨underlying172,(BU.struct (m:=2) (k:= .i64) underlying79 rfl (by decide) aeF ⟨by simp,rfl,underlying3,⟨[.int .i64 0],bp.of underlying3 rfl (by kernel_rfl),rfl⟩,⟨by simp,rfl,underlying3,⟨[.int .i64 0],bp.of underlying3 rfl (by kernel_rfl),rfl⟩,trivial⟩⟩),rfl,.bool,rfl,bp.of underlying4 rfl (by kernel_rfl)⟩
def p8:dQ prog T:=dQ.of (⟨amq,amd,al7,alP,amE,amB,amx,ams,amp,aml,amk,ami,amh,amf,ame,amc,amb,ama,al',al_,al9,al8,al6,al5,al4,al3,al2,al1,al0,alZ,alY,alX,alW,alV,alU,alT,alS,alR,alQ,alO,alN,alM,alL,amZ,amY,amX,amW,amV,amU,amT,amS,amR,amQ,amP,amO,amN,amM,amL,amK,amJ,amI,amH,amG,amF,amD,amC,amA,amz,amy,amw,amv,amu,amt,amr,amo,amn,amm,amj,amg,trivial⟩) (⟨F1,aoc,aob,aoa,an',ww,an_,an9,an8,an7,F0,FZ,FY,FX,an6,F2,aol,aok,aoj,aoi,aoh,aog,aof,aoe,aod,trivial⟩) (⟨awJ,awH,awF,awC,awB,awA,awz,awy,awx,aww,awv,awu,awt,aws,awr,awq,awp,awo,awn,awm,awl,awk,awY,awX,awW,awV,awU,awT,awS,awR,awQ,awP,awO,awN,awM,awL,awK,awI,awG,awE,awD,trivial⟩) (⟨axj,axi,axl,axk,trivial⟩) (⟨arQ,arP,trivial⟩) (trivial) (⟨aqR,trivial⟩)
def nH:prog.follows .mixedOrders=ab:=by kernel_rfl
def qK(f:Func):Code:=match f.body with
 |some c=>c
 |none=> .skip
