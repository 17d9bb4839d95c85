import Derived.Test.YtgaghlbepnjhiaaGreatRp
import Derived.Test.YtgaghlbepnjhiaaGreatProg
set_option linter.all false
open Bool renaming false->ae,true->ab
open ByteArray renaming empty->tz
open Option renaming some->aa
namespace Go.Proofs.YtgaghlbepnjhiaaGreat
open Go Go.RowKit Dp
namespace Rx
open Tryz
abbrev FG(t:Nat)(l:List (Nat×Nat)):Prop:=FC prog t l∧∀i off sz,l[i]? =aa (off,sz)->FR prog t i off
abbrev qI:Lf:= .int .i64
abbrev qZ{α:Type}[ad α]:α:=ad.zero
abbrev qR(α:Type)[h:ad α]:ad α:=h
structure cL where
 Kind:Int
 A:Int
 B:Int
def alG(x:cL):Int×Int×Int:=(x.Kind,x.A,x.B)
instance:ad cL:=ad.via alG ⟨qZ,qZ,qZ⟩ rfl
structure Source where
 iE:Int
 fa:Int
 Start:Int
def ak7(x:Source):Int×Int×Int:=(x.iE,x.fa,x.Start)
instance:ad Source:=ad.via ak7 ⟨qZ,qZ,qZ⟩ rfl
structure Consumer where
 e_:Int
 fa:Int
 kE:Int
 b9:Int
 ci:(List Int)
def alE(x:Consumer):Int×Int×Int×Int×(List Int):=(x.e_,x.fa,x.kE,x.b9,x.ci)
instance:ad Consumer:=ad.via alE ⟨qZ,qZ,qZ,qZ,qZ⟩ rfl
structure au where
 aA:Int
 ah:(List cL)
 aj:(List Source)
 ay:(List Consumer)
 bn:Int
 a_:Int
def alH(x:au):Int×(List cL)×(List Source)×(List Consumer)×Int×Int:=(x.aA,x.ah,x.aj,x.ay,x.bn,x.a_)
instance:ad au:=ad.via alH ⟨qZ,qZ,qZ,qZ,qZ,qZ⟩ rfl
structure gL where
 Start:Int
 Stop:Int
 oc:Int
def ak2(x:gL):Int×Int×Int:=(x.Start,x.Stop,x.oc)
instance:ad gL:=ad.via ak2 ⟨qZ,qZ,qZ⟩ rfl
structure bu where
 State:Int
 gX:Int
 a_:Int
 bn:Int
def ala(x:bu):Int×Int×Int×Int:=(x.State,x.gX,x.a_,x.bn)
instance:ad bu:=ad.via ala ⟨qZ,qZ,qZ,qZ⟩ rfl
structure Part where
 Kind:Int
 Number:Int
def ali(x:Part):Int×Int:=(x.Kind,x.Number)
instance:ad Part:=ad.via ali ⟨qZ,qZ⟩ rfl
structure aw where
 aE:(List Bool)
 aj:(List bu)
 aT:(List Int)
 aP:(List Part)
def alf(x:aw):(List Bool)×(List bu)×(List Int)×(List Part):=(x.aE,x.aj,x.aT,x.aP)
instance:ad aw:=ad.via alf ⟨qZ,qZ,qZ,qZ⟩ rfl
structure eH where
 i_:Int
 jH:Int
def alb(x:eH):Int×Int:=(x.i_,x.jH)
instance:ad eH:=ad.via alb ⟨qZ,qZ⟩ rfl
structure Act where
 Kind:Int
 Unit:Int
 Value:Int
def alK(x:Act):Int×Int×Int:=(x.Kind,x.Unit,x.Value)
instance:ad Act:=ad.via alK ⟨qZ,qZ,qZ⟩ rfl
structure Event where
 Time:Int
 Act:Act
 YT:Int
def alz(x:Event):Int×Act×Int:=(x.Time,x.Act,x.YT)
instance:ad Event:=ad.via alz ⟨qZ,qZ,qZ⟩ rfl
structure cH where
 Time:Int
 aw:aw
 pU:(List eH)
 rZ:(List Event)
def alh(x:cH):Int×aw×(List eH)×(List Event):=(x.Time,x.aw,x.pU,x.rZ)
instance:ad cH:=ad.via alh ⟨qZ,qZ,qZ,qZ⟩ rfl
structure iP where
 cu:Int
 To:Int
def alI(x:iP):Int×Int:=(x.cu,x.To)
instance:ad iP:=ad.via alI ⟨qZ,qZ⟩ rfl
structure b9 where
 Kind:Int
 tv:Int
 Max:Int
 wa:Int
 fR:Int
 n_:(List iP)
def akZ(x:b9):Int×Int×Int×Int×Int×(List iP):=(x.Kind,x.tv,x.Max,x.wa,x.fR,x.n_)
instance:ad b9:=ad.via akZ ⟨qZ,qZ,qZ,qZ,qZ,qZ⟩ rfl
structure dG where
 iO:Int
 ix:Int
 c_:(List b9)
def ak9(x:dG):Int×Int×(List b9):=(x.iO,x.ix,x.c_)
instance:ad dG:=ad.via ak9 ⟨qZ,qZ,qZ⟩ rfl
structure gZ where
 ee:(List Int)
 gw:(List Int)
 ig:(List Int)
def alD(x:gZ):(List Int)×(List Int)×(List Int):=(x.ee,x.gw,x.ig)
instance:ad gZ:=ad.via alD ⟨qZ,qZ,qZ⟩ rfl
structure dD where
 oU:gZ
 oW:gZ
 oV:gZ
 FL:Int
 FO:Int
 FV:Int
 FF:Int
def alq(x:dD):gZ×gZ×gZ×Int×Int×Int×Int:=(x.oU,x.oW,x.oV,x.FL,x.FO,x.FV,x.FF)
instance:ad dD:=ad.via alq ⟨qZ,qZ,qZ,qZ,qZ,qZ,qZ⟩ rfl
structure fI where
 cu:Part
 To:Part
def alm(x:fI):Part×Part:=(x.cu,x.To)
instance:ad fI:=ad.via alm ⟨qZ,qZ⟩ rfl
structure jt where
 Name:ByteArray
 eI:(List Part)
def als(x:jt):ByteArray×(List Part):=(x.Name,x.eI)
instance:ad jt:=ad.via als ⟨qZ,qZ⟩ rfl
structure b_ where
 eI:(List Part)
 cw:(List fI)
 gb:(List jt)
def alB(x:b_):(List Part)×(List fI)×(List jt):=(x.eI,x.cw,x.gb)
instance:ad b_:=ad.via alB ⟨qZ,qZ,qZ⟩ rfl
structure ld where
 YV:Int
 YM:Int
 Yo:Int
 YQ:Int
def ald(x:ld):Int×Int×Int×Int:=(x.YV,x.YM,x.Yo,x.YQ)
instance:ad ld:=ad.via ald ⟨qZ,qZ,qZ,qZ⟩ rfl
structure eM where
 FH:Int
 Sum:Int
 Calm:Int
 gM:Int
 r_:Int
 FA:Int
 FJ:Int
 FK:Int
 FI:Int
def alt(x:eM):Int×Int×Int×Int×Int×Int×Int×Int×Int:=(x.FH,x.Sum,x.Calm,x.gM,x.r_,x.FA,x.FJ,x.FK,x.FI)
instance:ad eM:=ad.via alt ⟨qZ,qZ,qZ,qZ,qZ,qZ,qZ,qZ,qZ⟩ rfl
structure gM where
 X:Int
 Y:Int
def alg(x:gM):Int×Int:=(x.X,x.Y)
instance:ad gM:=ad.via alg ⟨qZ,qZ⟩ rfl
structure Target where
 Place:gM
 FQ:Int
def ak1(x:Target):gM×Int:=(x.Place,x.FQ)
instance:ad Target:=ad.via ak1 ⟨qZ,qZ⟩ rfl
structure fA where
 Place:gM
 zr:Int
 zw:Int
def alF(x:fA):gM×Int×Int:=(x.Place,x.zr,x.zw)
instance:ad fA:=ad.via alF ⟨qZ,qZ,qZ⟩ rfl
structure fy where
 Name:ByteArray
 FX:Int
 fA:fA
 r_:Int
def alj(x:fy):ByteArray×Int×fA×Int:=(x.Name,x.FX,x.fA,x.r_)
instance:ad fy:=ad.via alj ⟨qZ,qZ,qZ,qZ⟩ rfl
structure nC where
 Name:ByteArray
 Ym:Int
 Yl:Int
 ci:(List Int)
def ak3(x:nC):ByteArray×Int×Int×(List Int):=(x.Name,x.Ym,x.Yl,x.ci)
instance:ad nC:=ad.via ak3 ⟨qZ,qZ,qZ,qZ⟩ rfl
structure mg where
 FB:(List nC)
def ak'(x:mg):(List nC):=(x.FB)
instance:ad mg:=ad.via ak' ⟨qZ⟩ rfl
structure gK where
 dD:dD
 dG:dG
 au:au
 gL:gL
 b_:b_
 Qt:(List ld)
 eM:eM
 Target:Target
 oc:Int
 fy:fy
 mg:mg
def akW(x:gK):dD×dG×au×gL×b_×(List ld)×eM×Target×Int×fy×mg:=(x.dD,x.dG,x.au,x.gL,x.b_,x.Qt,x.eM,x.Target,x.oc,x.fy,x.mg)
instance:ad gK:=ad.via akW ⟨qZ,qZ,qZ,qZ,qZ,qZ,qZ,qZ,qZ,qZ,qZ⟩ rfl
structure ft where
 ee:Int
 gw:Int
 ig:Int
def alu(x:ft):Int×Int×Int:=(x.ee,x.gw,x.ig)
instance:ad ft:=ad.via alu ⟨qZ,qZ,qZ⟩ rfl
structure bz where
 aA:(List Int)
 aj:(List Int)
 ay:(List Int)
def alp(x:bz):(List Int)×(List Int)×(List Int):=(x.aA,x.aj,x.ay)
instance:ad bz:=ad.via alp ⟨qZ,qZ,qZ⟩ rfl
structure qh where
 cH:cH
 aR:au
 events:(List Event)
 Gv:(List aw)
def aba(x:qh):cH×au×(List Event)×(List aw):=(x.cH,x.aR,x.events,x.Gv)
instance:ad qh:=ad.via aba ⟨qZ,qZ,qZ,qZ⟩ rfl
structure ou where
 aR:au
 bl:aw
 time:Int
def Z8(x:ou):au×aw×Int:=(x.aR,x.bl,x.time)
instance:ad ou:=ad.via Z8 ⟨qZ,qZ,qZ⟩ rfl
structure fM where
 aR:au
 bl:aw
 v9:(List Act)
def abt(x:fM):au×aw×(List Act):=(x.aR,x.bl,x.v9)
instance:ad fM:=ad.via abt ⟨qZ,qZ,qZ⟩ rfl
structure fZ where
 X:Int
 Y:Int
def ak0(x:fZ):Int×Int:=(x.X,x.Y)
instance:ad fZ:=ad.via ak0 ⟨qZ,qZ⟩ rfl
structure ml where
 ee:Int
 iO:Int
 ix:Int
def alC(x:ml):Int×Int×Int:=(x.ee,x.iO,x.ix)
instance:ad ml:=ad.via alC ⟨qZ,qZ,qZ⟩ rfl
structure FZ where
 Yn:(List fZ)
 Cg:ml
 Cd:ml
def alJ(x:FZ):(List fZ)×ml×ml:=(x.Yn,x.Cg,x.Cd)
instance:ad FZ:=ad.via alJ ⟨qZ,qZ,qZ⟩ rfl
structure pB where
 wE:(List b9)
 last:(List fZ)
def acp(x:pB):(List b9)×(List fZ):=(x.wE,x.last)
instance:ad pB:=ad.via acp ⟨qZ,qZ⟩ rfl
structure fx where
 jH:Int
 i_:Int
 fR:Int
def ak_(x:fx):Int×Int×Int:=(x.jH,x.i_,x.fR)
instance:ad fx:=ad.via ak_ ⟨qZ,qZ,qZ⟩ rfl
structure iy where
 Part:Part
 Cf:Bool
def alx(x:iy):Part×Bool:=(x.Part,x.Cf)
instance:ad iy:=ad.via alx ⟨qZ,qZ⟩ rfl
structure Src where
 L:(List Int)
 At:Int
def ak4(x:Src):(List Int)×Int:=(x.L,x.At)
instance:ad Src:=ad.via ak4 ⟨qZ,qZ⟩ rfl
@[reducible] def D (n:Nat):Type:=match n with
  |0=>Int
  |1=>Bool
  |2=>ByteArray
  |3=>au
  |4=>cL
  |5=>Source
  |6=>Consumer
  |7=>gL
  |8=>cH
  |9=>bu
  |10=>Part
  |11=>eH
  |12=>Event
  |13=>(List Int)
  |14=>aw
  |15=>dG
  |16=>b9
  |17=>iP
  |18=>gK
  |19=>fI
  |20=>jt
  |21=>ld
  |22=>nC
  |23=>ft
  |24=>bz
  |25=>b_
  |26=>U8
  |27=>(List Part)
  |28=>(Int×Int×Bool)
  |29=>Act
  |30=>qh
  |31=>ou
  |32=>fM
  |33=>fZ
  |34=>ml
  |35=>FZ
  |36=>pB
  |37=>fx
  |38=>iy
  |39=>Src
  |40=>dD
  |41=>gZ
  |42=>eM
  |43=>fy
  |44=>fA
  |45=>gM
  |46=>mg
  |47=>Target
  |48=>(Int×Int×Int)
  |_=>Int
instance aEp(n:Nat):ad (D n):=match n with
 |0=>qR (Int)
 |1=>qR (Bool)
 |2=>qR (ByteArray)
 |3=>qR (au)
 |4=>qR (cL)
 |5=>qR (Source)
 |6=>qR (Consumer)
 |7=>qR (gL)
 |8=>qR (cH)
 |9=>qR (bu)
 |10=>qR (Part)
 |11=>qR (eH)
 |12=>qR (Event)
 |13=>qR ((List Int))
 |14=>qR (aw)
 |15=>qR (dG)
 |16=>qR (b9)
 |17=>qR (iP)
 |18=>qR (gK)
 |19=>qR (fI)
 |20=>qR (jt)
 |21=>qR (ld)
 |22=>qR (nC)
 |23=>qR (ft)
 |24=>qR (bz)
 |25=>qR (b_)
 |26=>qR (U8)
 |27=>qR ((List Part))
 |28=>qR ((Int×Int×Bool))
 |29=>qR (Act)
 |30=>qR (qh)
 |31=>qR (ou)
 |32=>qR (fM)
 |33=>qR (fZ)
 |34=>qR (ml)
 |35=>qR (FZ)
 |36=>qR (pB)
 |37=>qR (fx)
 |38=>qR (iy)
 |39=>qR (Src)
 |40=>qR (dD)
 |41=>qR (gZ)
 |42=>qR (eM)
 |43=>qR (fy)
 |44=>qR (fA)
 |45=>qR (gM)
 |46=>qR (mg)
 |47=>qR (Target)
 |48=>qR ((Int×Int×Int))
 |_+49=>qR (Int)
def Ru(n:Nat):List Lf:=match n with
 |0=>[qI]
 |1=>[.bool]
 |2=>[.str]
 |3=>[qI,(.sl 4),(.sl 5),(.sl 6),qI,qI]
 |4=>[qI,qI,qI]
 |5=>[qI,qI,qI]
 |6=>[qI,qI,qI,qI,(.sl 0)]
 |7=>[qI,qI,qI]
 |8=>[qI,(.sl 1),(.sl 9),(.sl 0),(.sl 10),(.sl 11),(.sl 12)]
 |9=>[qI,qI,qI,qI]
 |10=>[qI,qI]
 |11=>[qI,qI]
 |12=>[qI,qI,qI,qI,qI]
 |13=>[(.sl 0)]
 |14=>[(.sl 1),(.sl 9),(.sl 0),(.sl 10)]
 |15=>[qI,qI,(.sl 16)]
 |16=>[qI,qI,qI,qI,qI,(.sl 17)]
 |17=>[qI,qI]
 |18=>[(.sl 0),(.sl 0),(.sl 0),(.sl 0),(.sl 0),(.sl 0),(.sl 0),(.sl 0),(.sl 0),qI,qI,qI,qI,qI,qI,(.sl 16),qI,(.sl 4),(.sl 5),(.sl 6),qI,qI,qI,qI,qI,(.sl 10),(.sl 19),(.sl 20),(.sl 21),qI,qI,qI,qI,qI,qI,qI,qI,qI,qI,qI,qI,qI,.str,qI,qI,qI,qI,qI,qI,(.sl 22)]
 |19=>[qI,qI,qI,qI]
 |20=>[.str,(.sl 10)]
 |21=>[qI,qI,qI,qI]
 |22=>[.str,qI,qI,(.sl 0)]
 |23=>[qI,qI,qI]
 |24=>[(.sl 0),(.sl 0),(.sl 0)]
 |25=>[(.sl 10),(.sl 19),(.sl 20)]
 |26=>[(.int .u8)]
 |27=>[(.sl 10)]
 |28=>[qI,qI,.bool]
 |29=>[qI,qI,qI]
 |30=>[qI,(.sl 1),(.sl 9),(.sl 0),(.sl 10),(.sl 11),(.sl 12),qI,(.sl 4),(.sl 5),(.sl 6),qI,qI,(.sl 12),(.sl 14)]
 |31=>[qI,(.sl 4),(.sl 5),(.sl 6),qI,qI,(.sl 1),(.sl 9),(.sl 0),(.sl 10),qI]
 |32=>[qI,(.sl 4),(.sl 5),(.sl 6),qI,qI,(.sl 1),(.sl 9),(.sl 0),(.sl 10),(.sl 29)]
 |33=>[qI,qI]
 |34=>[qI,qI,qI]
 |35=>[(.sl 33),qI,qI,qI,qI,qI,qI]
 |36=>[(.sl 16),(.sl 33)]
 |37=>[qI,qI,qI]
 |38=>[qI,qI,.bool]
 |39=>[(.sl 0),qI]
 |40=>[(.sl 0),(.sl 0),(.sl 0),(.sl 0),(.sl 0),(.sl 0),(.sl 0),(.sl 0),(.sl 0),qI,qI,qI,qI]
 |41=>[(.sl 0),(.sl 0),(.sl 0)]
 |42=>[qI,qI,qI,qI,qI,qI,qI,qI,qI]
 |43=>[.str,qI,qI,qI,qI,qI,qI]
 |44=>[qI,qI,qI,qI]
 |45=>[qI,qI]
 |46=>[(.sl 22)]
 |47=>[qI,qI,qI]
 |48=>[qI,qI,qI]
 |_=>[.int .i64]
def aoC(n:Nat):Bool:=match n with
 |0=>ae
 |1=>ae
 |2=>ae
 |3=>ab
 |4=>ab
 |5=>ab
 |6=>ab
 |7=>ab
 |8=>ab
 |9=>ab
 |10=>ab
 |11=>ab
 |12=>ab
 |13=>ae
 |14=>ab
 |15=>ab
 |16=>ab
 |17=>ab
 |18=>ab
 |19=>ab
 |20=>ab
 |21=>ab
 |22=>ab
 |23=>ab
 |24=>ab
 |25=>ab
 |26=>ae
 |27=>ae
 |28=>ab
 |29=>ab
 |30=>ab
 |31=>ab
 |32=>ab
 |33=>ab
 |34=>ab
 |35=>ab
 |36=>ab
 |37=>ab
 |38=>ab
 |39=>ab
 |40=>ab
 |41=>ab
 |42=>ab
 |43=>ab
 |44=>ab
 |45=>ab
 |46=>ab
 |47=>ab
 |48=>ab
 |_=>ae
def aoA:∀n:Nat,D n->HL D (Ru n)
 |0=>λx=>x
 |1=>λx=>x
 |2=>λx=>x
 |3=>λx=>(x.aA,x.ah,x.aj,x.ay,x.bn,x.a_)
 |4=>λx=>(x.Kind,x.A,x.B)
 |5=>λx=>(x.iE,x.fa,x.Start)
 |6=>λx=>(x.e_,x.fa,x.kE,x.b9,x.ci)
 |7=>λx=>(x.Start,x.Stop,x.oc)
 |8=>λx=>(x.Time,x.aw.aE,x.aw.aj,x.aw.aT,x.aw.aP,x.pU,x.rZ)
 |9=>λx=>(x.State,x.gX,x.a_,x.bn)
 |10=>λx=>(x.Kind,x.Number)
 |11=>λx=>(x.i_,x.jH)
 |12=>λx=>(x.Time,x.Act.Kind,x.Act.Unit,x.Act.Value,x.YT)
 |13=>λx=>x
 |14=>λx=>(x.aE,x.aj,x.aT,x.aP)
 |15=>λx=>(x.iO,x.ix,x.c_)
 |16=>λx=>(x.Kind,x.tv,x.Max,x.wa,x.fR,x.n_)
 |17=>λx=>(x.cu,x.To)
 |18=>λx=>(x.dD.oU.ee,x.dD.oU.gw,x.dD.oU.ig,x.dD.oW.ee,x.dD.oW.gw,x.dD.oW.ig,x.dD.oV.ee,x.dD.oV.gw,x.dD.oV.ig,x.dD.FL,x.dD.FO,x.dD.FV,x.dD.FF,x.dG.iO,x.dG.ix,x.dG.c_,x.au.aA,x.au.ah,x.au.aj,x.au.ay,x.au.bn,x.au.a_,x.gL.Start,x.gL.Stop,x.gL.oc,x.b_.eI,x.b_.cw,x.b_.gb,x.Qt,x.eM.FH,x.eM.Sum,x.eM.Calm,x.eM.gM,x.eM.r_,x.eM.FA,x.eM.FJ,x.eM.FK,x.eM.FI,x.Target.Place.X,x.Target.Place.Y,x.Target.FQ,x.oc,x.fy.Name,x.fy.FX,x.fy.fA.Place.X,x.fy.fA.Place.Y,x.fy.fA.zr,x.fy.fA.zw,x.fy.r_,x.mg.FB)
 |19=>λx=>(x.cu.Kind,x.cu.Number,x.To.Kind,x.To.Number)
 |20=>λx=>(x.Name,x.eI)
 |21=>λx=>(x.YV,x.YM,x.Yo,x.YQ)
 |22=>λx=>(x.Name,x.Ym,x.Yl,x.ci)
 |23=>λx=>(x.ee,x.gw,x.ig)
 |24=>λx=>(x.aA,x.aj,x.ay)
 |25=>λx=>(x.eI,x.cw,x.gb)
 |26=>λx=>x.n
 |27=>λx=>x
 |28=>λx=>x
 |29=>λx=>(x.Kind,x.Unit,x.Value)
 |30=>λx=>(x.cH.Time,x.cH.aw.aE,x.cH.aw.aj,x.cH.aw.aT,x.cH.aw.aP,x.cH.pU,x.cH.rZ,x.aR.aA,x.aR.ah,x.aR.aj,x.aR.ay,x.aR.bn,x.aR.a_,x.events,x.Gv)
 |31=>λx=>(x.aR.aA,x.aR.ah,x.aR.aj,x.aR.ay,x.aR.bn,x.aR.a_,x.bl.aE,x.bl.aj,x.bl.aT,x.bl.aP,x.time)
 |32=>λx=>(x.aR.aA,x.aR.ah,x.aR.aj,x.aR.ay,x.aR.bn,x.aR.a_,x.bl.aE,x.bl.aj,x.bl.aT,x.bl.aP,x.v9)
 |33=>λx=>(x.X,x.Y)
 |34=>λx=>(x.ee,x.iO,x.ix)
 |35=>λx=>(x.Yn,x.Cg.ee,x.Cg.iO,x.Cg.ix,x.Cd.ee,x.Cd.iO,x.Cd.ix)
 |36=>λx=>(x.wE,x.last)
 |37=>λx=>(x.jH,x.i_,x.fR)
 |38=>λx=>(x.Part.Kind,x.Part.Number,x.Cf)
 |39=>λx=>(x.L,x.At)
 |40=>λx=>(x.oU.ee,x.oU.gw,x.oU.ig,x.oW.ee,x.oW.gw,x.oW.ig,x.oV.ee,x.oV.gw,x.oV.ig,x.FL,x.FO,x.FV,x.FF)
 |41=>λx=>(x.ee,x.gw,x.ig)
 |42=>λx=>(x.FH,x.Sum,x.Calm,x.gM,x.r_,x.FA,x.FJ,x.FK,x.FI)
 |43=>λx=>(x.Name,x.FX,x.fA.Place.X,x.fA.Place.Y,x.fA.zr,x.fA.zw,x.r_)
 |44=>λx=>(x.Place.X,x.Place.Y,x.zr,x.zw)
 |45=>λx=>(x.X,x.Y)
 |46=>λx=>x.FB
 |47=>λx=>(x.Place.X,x.Place.Y,x.FQ)
 |48=>λx=>x
 |_+49=>λx=>x
def aoB:∀n:Nat,HL D (Ru n)->D n
 |0=>λh=>h
 |1=>λh=>h
 |2=>λh=>h
 |3=>λh=>⟨h.1,h.2.1,h.2.2.1,h.2.2.2.1,h.2.2.2.2.1,h.2.2.2.2.2⟩
 |4=>λh=>⟨h.1,h.2.1,h.2.2⟩
 |5=>λh=>⟨h.1,h.2.1,h.2.2⟩
 |6=>λh=>⟨h.1,h.2.1,h.2.2.1,h.2.2.2.1,h.2.2.2.2⟩
 |7=>λh=>⟨h.1,h.2.1,h.2.2⟩
 |8=>λh=>⟨h.1,⟨h.2.1,h.2.2.1,h.2.2.2.1,h.2.2.2.2.1⟩,h.2.2.2.2.2.1,h.2.2.2.2.2.2⟩
 |9=>λh=>⟨h.1,h.2.1,h.2.2.1,h.2.2.2⟩
 |10=>λh=>⟨h.1,h.2⟩
 |11=>λh=>⟨h.1,h.2⟩
 |12=>λh=>⟨h.1,⟨h.2.1,h.2.2.1,h.2.2.2.1⟩,h.2.2.2.2⟩
 |13=>λh=>h
 |14=>λh=>⟨h.1,h.2.1,h.2.2.1,h.2.2.2⟩
 |15=>λh=>⟨h.1,h.2.1,h.2.2⟩
 |16=>λh=>⟨h.1,h.2.1,h.2.2.1,h.2.2.2.1,h.2.2.2.2.1,h.2.2.2.2.2⟩
 |17=>λh=>⟨h.1,h.2⟩
 |18=>λh=>⟨⟨⟨h.1,h.2.1,h.2.2.1⟩,⟨h.2.2.2.1,h.2.2.2.2.1,h.2.2.2.2.2.1⟩,⟨h.2.2.2.2.2.2.1,h.2.2.2.2.2.2.2.1,h.2.2.2.2.2.2.2.2.1⟩,h.2.2.2.2.2.2.2.2.2.1,h.2.2.2.2.2.2.2.2.2.2.1,h.2.2.2.2.2.2.2.2.2.2.2.1,h.2.2.2.2.2.2.2.2.2.2.2.2.1⟩,⟨h.2.2.2.2.2.2.2.2.2.2.2.2.2.1,h.2.2.2.2.2.2.2.2.2.2.2.2.2.2.1,h.2.2.2.2.2.2.2.2.2.2.2.2.2.2.2.1⟩,⟨h.2.2.2.2.2.2.2.2.2.2.2.2.2.2.2.2.1,h.2.2.2.2.2.2.2.2.2.2.2.2.2.2.2.2.2.1,h.2.2.2.2.2.2.2.2.2.2.2.2.2.2.2.2.2.2.1,h.2.2.2.2.2.2.2.2.2.2.2.2.2.2.2.2.2.2.2.1,h.2.2.2.2.2.2.2.2.2.2.2.2.2.2.2.2.2.2.2.2.1,h.2.2.2.2.2.2.2.2.2.2.2.2.2.2.2.2.2.2.2.2.2.1⟩,⟨h.2.2.2.2.2.2.2.2.2.2.2.2.2.2.2.2.2.2.2.2.2.2.1,h.2.2.2.2.2.2.2.2.2.2.2.2.2.2.2.2.2.2.2.2.2.2.2.1,h.2.2.2.2.2.2.2.2.2.2.2.2.2.2.2.2.2.2.2.2.2.2.2.2.1⟩,⟨h.2.2.2.2.2.2.2.2.2.2.2.2.2.2.2.2.2.2.2.2.2.2.2.2.2.1,h.2.2.2.2.2.2.2.2.2.2.2.2.2.2.2.2.2.2.2.2.2.2.2.2.2.2.1,h.2.2.2.2.2.2.2.2.2.2.2.2.2.2.2.2.2.2.2.2.2.2.2.2.2.2.2.1⟩,h.2.2.2.2.2.2.2.2.2.2.2.2.2.2.2.2.2.2.2.2.2.2.2.2.2.2.2.2.1,⟨h.2.2.2.2.2.2.2.2.2.2.2.2.2.2.2.2.2.2.2.2.2.2.2.2.2.2.2.2.2.1,h.2.2.2.2.2.2.2.2.2.2.2.2.2.2.2.2.2.2.2.2.2.2.2.2.2.2.2.2.2.2.1,h.2.2.2.2.2.2.2.2.2.2.2.2.2.2.2.2.2.2.2.2.2.2.2.2.2.2.2.2.2.2.2.1,h.2.2.2.2.2.2.2.2.2.2.2.2.2.2.2.2.2.2.2.2.2.2.2.2.2.2.2.2.2.2.2.2.1,h.2.2.2.2.2.2.2.2.2.2.2.2.2.2.2.2.2.2.2.2.2.2.2.2.2.2.2.2.2.2.2.2.2.1,h.2.2.2.2.2.2.2.2.2.2.2.2.2.2.2.2.2.2.2.2.2.2.2.2.2.2.2.2.2.2.2.2.2.2.1,h.2.2.2.2.2.2.2.2.2.2.2.2.2.2.2.2.2.2.2.2.2.2.2.2.2.2.2.2.2.2.2.2.2.2.2.1,h.2.2.2.2.2.2.2.2.2.2.2.2.2.2.2.2.2.2.2.2.2.2.2.2.2.2.2.2.2.2.2.2.2.2.2.2.1,h.2.2.2.2.2.2.2.2.2.2.2.2.2.2.2.2.2.2.2.2.2.2.2.2.2.2.2.2.2.2.2.2.2.2.2.2.2.1⟩,⟨⟨h.2.2.2.2.2.2.2.2.2.2.2.2.2.2.2.2.2.2.2.2.2.2.2.2.2.2.2.2.2.2.2.2.2.2.2.2.2.2.1,h.2.2.2.2.2.2.2.2.2.2.2.2.2.2.2.2.2.2.2.2.2.2.2.2.2.2.2.2.2.2.2.2.2.2.2.2.2.2.2.1⟩,h.2.2.2.2.2.2.2.2.2.2.2.2.2.2.2.2.2.2.2.2.2.2.2.2.2.2.2.2.2.2.2.2.2.2.2.2.2.2.2.2.1⟩,h.2.2.2.2.2.2.2.2.2.2.2.2.2.2.2.2.2.2.2.2.2.2.2.2.2.2.2.2.2.2.2.2.2.2.2.2.2.2.2.2.2.1,⟨h.2.2.2.2.2.2.2.2.2.2.2.2.2.2.2.2.2.2.2.2.2.2.2.2.2.2.2.2.2.2.2.2.2.2.2.2.2.2.2.2.2.2.1,h.2.2.2.2.2.2.2.2.2.2.2.2.2.2.2.2.2.2.2.2.2.2.2.2.2.2.2.2.2.2.2.2.2.2.2.2.2.2.2.2.2.2.2.1,⟨⟨h.2.2.2.2.2.2.2.2.2.2.2.2.2.2.2.2.2.2.2.2.2.2.2.2.2.2.2.2.2.2.2.2.2.2.2.2.2.2.2.2.2.2.2.2.1,h.2.2.2.2.2.2.2.2.2.2.2.2.2.2.2.2.2.2.2.2.2.2.2.2.2.2.2.2.2.2.2.2.2.2.2.2.2.2.2.2.2.2.2.2.2.1⟩,h.2.2.2.2.2.2.2.2.2.2.2.2.2.2.2.2.2.2.2.2.2.2.2.2.2.2.2.2.2.2.2.2.2.2.2.2.2.2.2.2.2.2.2.2.2.2.1,h.2.2.2.2.2.2.2.2.2.2.2.2.2.2.2.2.2.2.2.2.2.2.2.2.2.2.2.2.2.2.2.2.2.2.2.2.2.2.2.2.2.2.2.2.2.2.2.1⟩,h.2.2.2.2.2.2.2.2.2.2.2.2.2.2.2.2.2.2.2.2.2.2.2.2.2.2.2.2.2.2.2.2.2.2.2.2.2.2.2.2.2.2.2.2.2.2.2.2.1⟩,⟨h.2.2.2.2.2.2.2.2.2.2.2.2.2.2.2.2.2.2.2.2.2.2.2.2.2.2.2.2.2.2.2.2.2.2.2.2.2.2.2.2.2.2.2.2.2.2.2.2.2⟩⟩
 |19=>λh=>⟨⟨h.1,h.2.1⟩,⟨h.2.2.1,h.2.2.2⟩⟩
 |20=>λh=>⟨h.1,h.2⟩
 |21=>λh=>⟨h.1,h.2.1,h.2.2.1,h.2.2.2⟩
 |22=>λh=>⟨h.1,h.2.1,h.2.2.1,h.2.2.2⟩
 |23=>λh=>⟨h.1,h.2.1,h.2.2⟩
 |24=>λh=>⟨h.1,h.2.1,h.2.2⟩
 |25=>λh=>⟨h.1,h.2.1,h.2.2⟩
 |26=>λh=>⟨h⟩
 |27=>λh=>h
 |28=>λh=>h
 |29=>λh=>⟨h.1,h.2.1,h.2.2⟩
 |30=>λh=>⟨⟨h.1,⟨h.2.1,h.2.2.1,h.2.2.2.1,h.2.2.2.2.1⟩,h.2.2.2.2.2.1,h.2.2.2.2.2.2.1⟩,⟨h.2.2.2.2.2.2.2.1,h.2.2.2.2.2.2.2.2.1,h.2.2.2.2.2.2.2.2.2.1,h.2.2.2.2.2.2.2.2.2.2.1,h.2.2.2.2.2.2.2.2.2.2.2.1,h.2.2.2.2.2.2.2.2.2.2.2.2.1⟩,h.2.2.2.2.2.2.2.2.2.2.2.2.2.1,h.2.2.2.2.2.2.2.2.2.2.2.2.2.2⟩
 |31=>λh=>⟨⟨h.1,h.2.1,h.2.2.1,h.2.2.2.1,h.2.2.2.2.1,h.2.2.2.2.2.1⟩,⟨h.2.2.2.2.2.2.1,h.2.2.2.2.2.2.2.1,h.2.2.2.2.2.2.2.2.1,h.2.2.2.2.2.2.2.2.2.1⟩,h.2.2.2.2.2.2.2.2.2.2⟩
 |32=>λh=>⟨⟨h.1,h.2.1,h.2.2.1,h.2.2.2.1,h.2.2.2.2.1,h.2.2.2.2.2.1⟩,⟨h.2.2.2.2.2.2.1,h.2.2.2.2.2.2.2.1,h.2.2.2.2.2.2.2.2.1,h.2.2.2.2.2.2.2.2.2.1⟩,h.2.2.2.2.2.2.2.2.2.2⟩
 |33=>λh=>⟨h.1,h.2⟩
 |34=>λh=>⟨h.1,h.2.1,h.2.2⟩
 |35=>λh=>⟨h.1,⟨h.2.1,h.2.2.1,h.2.2.2.1⟩,⟨h.2.2.2.2.1,h.2.2.2.2.2.1,h.2.2.2.2.2.2⟩⟩
 |36=>λh=>⟨h.1,h.2⟩
 |37=>λh=>⟨h.1,h.2.1,h.2.2⟩
 |38=>λh=>⟨⟨h.1,h.2.1⟩,h.2.2⟩
 |39=>λh=>⟨h.1,h.2⟩
 |40=>λh=>⟨⟨h.1,h.2.1,h.2.2.1⟩,⟨h.2.2.2.1,h.2.2.2.2.1,h.2.2.2.2.2.1⟩,⟨h.2.2.2.2.2.2.1,h.2.2.2.2.2.2.2.1,h.2.2.2.2.2.2.2.2.1⟩,h.2.2.2.2.2.2.2.2.2.1,h.2.2.2.2.2.2.2.2.2.2.1,h.2.2.2.2.2.2.2.2.2.2.2.1,h.2.2.2.2.2.2.2.2.2.2.2.2⟩
 |41=>λh=>⟨h.1,h.2.1,h.2.2⟩
 |42=>λh=>⟨h.1,h.2.1,h.2.2.1,h.2.2.2.1,h.2.2.2.2.1,h.2.2.2.2.2.1,h.2.2.2.2.2.2.1,h.2.2.2.2.2.2.2.1,h.2.2.2.2.2.2.2.2⟩
 |43=>λh=>⟨h.1,h.2.1,⟨⟨h.2.2.1,h.2.2.2.1⟩,h.2.2.2.2.1,h.2.2.2.2.2.1⟩,h.2.2.2.2.2.2⟩
 |44=>λh=>⟨⟨h.1,h.2.1⟩,h.2.2.1,h.2.2.2⟩
 |45=>λh=>⟨h.1,h.2⟩
 |46=>λh=>⟨h⟩
 |47=>λh=>⟨⟨h.1,h.2.1⟩,h.2.2⟩
 |48=>λh=>h
 |_+49=>λh=>h
def aoz:∀n:Nat,D n
 |0=>(0:Int)
 |1=>ae
 |2=>tz
 |3=>(⟨0,[],[],[],0,0⟩:au)
 |4=>(⟨0,0,0⟩:cL)
 |5=>(⟨0,0,0⟩:Source)
 |6=>(⟨0,0,0,0,[]⟩:Consumer)
 |7=>(⟨0,0,0⟩:gL)
 |8=>(⟨0,⟨[],[],[],[]⟩,[],[]⟩:cH)
 |9=>(⟨0,0,0,0⟩:bu)
 |10=>(⟨0,0⟩:Part)
 |11=>(⟨0,0⟩:eH)
 |12=>(⟨0,⟨0,0,0⟩,0⟩:Event)
 |13=>([]:(List Int))
 |14=>(⟨[],[],[],[]⟩:aw)
 |15=>(⟨0,0,[]⟩:dG)
 |16=>(⟨0,0,0,0,0,[]⟩:b9)
 |17=>(⟨0,0⟩:iP)
 |18=>(⟨⟨⟨[],[],[]⟩,⟨[],[],[]⟩,⟨[],[],[]⟩,0,0,0,0⟩,⟨0,0,[]⟩,⟨0,[],[],[],0,0⟩,⟨0,0,0⟩,⟨[],[],[]⟩,[],⟨0,0,0,0,0,0,0,0,0⟩,⟨⟨0,0⟩,0⟩,0,⟨tz,0,⟨⟨0,0⟩,0,0⟩,0⟩,⟨[]⟩⟩:gK)
 |19=>(⟨⟨0,0⟩,⟨0,0⟩⟩:fI)
 |20=>(⟨tz,[]⟩:jt)
 |21=>(⟨0,0,0,0⟩:ld)
 |22=>(⟨tz,0,0,[]⟩:nC)
 |23=>(⟨0,0,0⟩:ft)
 |24=>(⟨[],[],[]⟩:bz)
 |25=>(⟨[],[],[]⟩:b_)
 |26=>(⟨0⟩:U8)
 |27=>([]:(List Part))
 |28=>(0,0,ae)
 |29=>(⟨0,0,0⟩:Act)
 |30=>(⟨⟨0,⟨[],[],[],[]⟩,[],[]⟩,⟨0,[],[],[],0,0⟩,[],[]⟩:qh)
 |31=>(⟨⟨0,[],[],[],0,0⟩,⟨[],[],[],[]⟩,0⟩:ou)
 |32=>(⟨⟨0,[],[],[],0,0⟩,⟨[],[],[],[]⟩,[]⟩:fM)
 |33=>(⟨0,0⟩:fZ)
 |34=>(⟨0,0,0⟩:ml)
 |35=>(⟨[],⟨0,0,0⟩,⟨0,0,0⟩⟩:FZ)
 |36=>(⟨[],[]⟩:pB)
 |37=>(⟨0,0,0⟩:fx)
 |38=>(⟨⟨0,0⟩,ae⟩:iy)
 |39=>(⟨[],0⟩:Src)
 |40=>(⟨⟨[],[],[]⟩,⟨[],[],[]⟩,⟨[],[],[]⟩,0,0,0,0⟩:dD)
 |41=>(⟨[],[],[]⟩:gZ)
 |42=>(⟨0,0,0,0,0,0,0,0,0⟩:eM)
 |43=>(⟨tz,0,⟨⟨0,0⟩,0,0⟩,0⟩:fy)
 |44=>(⟨⟨0,0⟩,0,0⟩:fA)
 |45=>(⟨0,0⟩:gM)
 |46=>(⟨[]⟩:mg)
 |47=>(⟨⟨0,0⟩,0⟩:Target)
 |48=>(0,0,0)
 |_+49=>(0:Int)
def T:bc D where
 lv:=Ru
 ag:=aoC
 DI:=aoA
 AA:=aoB
 zero:=aoz
 ty:=[(3,.one qI),(4,.one .bool),(5,.one (.int .u8)),(9,.one .str),(22,.one (.sl 0)),(24,.ptr),(27,.st 41),(29,.st 40),(30,.one (.sl 16)),(32,.st 15),(33,.one (.sl 4)),(34,.one (.sl 5)),(35,.one (.sl 6)),(37,.st 3),(39,.st 7),(40,.one (.sl 10)),(41,.one (.sl 19)),(42,.one (.sl 20)),(44,.st 25),(45,.one (.sl 21)),(47,.st 42),(49,.st 45),(51,.st 47),(53,.st 44),(55,.st 43),(56,.one (.sl 22)),(58,.st 46),(60,.st 18),(62,.one (.sl 1)),(63,.one (.sl 9)),(65,.st 14),(66,.one (.sl 11)),(67,.one (.sl 12)),(69,.st 8),(72,.st 23),(80,.st 10),(82,.one qI),(86,.one (.sl 38)),(90,.st 38),(99,.st 39),(101,.st 4),(104,.st 5),(106,.st 6),(107,.one (.sl 17)),(109,.st 16),(111,.st 21),(117,.st 11),(126,.st 20),(128,.fn),(131,.one (.sl 14)),(135,.st 29),(141,.st 34),(151,.st 19),(163,.st 9),(174,.one (.sl 2)),(186,.one (.sl 27)),(189,.ptr),(193,.st 30),(202,.st 12),(207,.one (.sl 33)),(209,.st 35),(216,.one (.int .u64)),(231,.one (.sl 26)),(233,.st 22),(245,.one (.sl 24)),(248,.st 24),(262,.one (.sl 29)),(272,.st 33),(275,.st 36),(280,.one (.sl 37)),(286,.one qI),(295,.one (.int .u64)),(296,.one (.sl 13)),(305,.st 17),(315,.ptr),(317,.st 31),(320,.ptr),(338,.st 37),(362,.st 32)]
 uu:=[(27,[(0,1),(1,1),(2,1)]),(29,[(0,3),(3,3),(6,3),(9,1),(10,1),(11,1),(12,1)]),(32,[(0,1),(1,1),(2,1)]),(37,[(0,1),(1,1),(2,1),(3,1),(4,1),(5,1)]),(39,[(0,1),(1,1),(2,1)]),(44,[(0,1),(1,1),(2,1)]),(47,[(0,1),(1,1),(2,1),(3,1),(4,1),(5,1),(6,1),(7,1),(8,1)]),(49,[(0,1),(1,1)]),(51,[(0,2),(2,1)]),(53,[(0,2),(2,1),(3,1)]),(55,[(0,1),(1,1),(2,4),(6,1)]),(58,[(0,1)]),(60,[(0,13),(13,3),(16,6),(22,3),(25,3),(28,1),(29,9),(38,3),(41,1),(42,7),(49,1)]),(65,[(0,1),(1,1),(2,1),(3,1)]),(69,[(0,1),(1,4),(5,1),(6,1)]),(72,[(0,1),(1,1),(2,1)]),(80,[(0,1),(1,1)]),(90,[(0,2),(2,1)]),(99,[(0,1),(1,1)]),(101,[(0,1),(1,1),(2,1)]),(104,[(0,1),(1,1),(2,1)]),(106,[(0,1),(1,1),(2,1),(3,1),(4,1)]),(109,[(0,1),(1,1),(2,1),(3,1),(4,1),(5,1)]),(111,[(0,1),(1,1),(2,1),(3,1)]),(117,[(0,1),(1,1)]),(126,[(0,1),(1,1)]),(135,[(0,1),(1,1),(2,1)]),(141,[(0,1),(1,1),(2,1)]),(151,[(0,2),(2,2)]),(163,[(0,1),(1,1),(2,1),(3,1)]),(193,[(0,7),(7,6),(13,1),(14,1)]),(202,[(0,1),(1,3),(4,1)]),(209,[(0,1),(1,3),(4,3)]),(233,[(0,1),(1,1),(2,1),(3,1)]),(248,[(0,1),(1,1),(2,1)]),(272,[(0,1),(1,1)]),(275,[(0,1),(1,1)]),(305,[(0,1),(1,1)]),(317,[(0,6),(6,4),(10,1)]),(338,[(0,1),(1,1),(2,1)]),(362,[(0,6),(6,4),(10,1)])]
 dp:=[(22,3,0),(30,109,16),(33,101,4),(34,104,5),(35,106,6),(40,80,10),(41,151,19),(42,126,20),(45,111,21),(56,233,22),(62,4,1),(63,163,9),(66,117,11),(67,202,12),(86,90,38),(107,305,17),(131,65,14),(174,9,2),(186,40,27),(207,272,33),(231,5,26),(245,248,24),(262,135,29),(280,338,37),(296,22,13)]
 BK:=[(80,[qI,qI]),(101,[qI,qI,qI]),(141,[qI,qI,qI]),(151,[qI,qI,qI,qI]),(163,[qI,qI,qI,qI])]
 kd:=[(13,3,0),(24,3,0)]
 qV:=[]
 pre:=[163873,258090,270378,4295131155,4295131162]
 qo:=[(148,80,4,28),(154,80,3,48)]
def rd4:aD D cL (λx=>[⟨qI,x.Kind⟩,⟨qI,x.A⟩,⟨qI,x.B⟩]):=λS w cs x=>(aD.prod aD.int (aD.prod aD.int (aD.int)):aD D (Int×Int×Int) _) S w cs (alG x)
def rd5:aD D Source (λx=>[⟨qI,x.iE⟩,⟨qI,x.fa⟩,⟨qI,x.Start⟩]):=λS w cs x=>(aD.prod aD.int (aD.prod aD.int (aD.int)):aD D (Int×Int×Int) _) S w cs (ak7 x)
def rd6:aD D Consumer (λx=>[⟨qI,x.e_⟩,⟨qI,x.fa⟩,⟨qI,x.kE⟩,⟨qI,x.b9⟩,⟨(.sl 0),x.ci⟩]):=λS w cs x=>(aD.prod aD.int (aD.prod aD.int (aD.prod aD.int (aD.prod aD.int ((aD.sl 0))))):aD D (Int×Int×Int×Int×(List Int)) _) S w cs (alE x)
def Hg:aD D au (λx=>[⟨qI,x.aA⟩,⟨(.sl 4),x.ah⟩,⟨(.sl 5),x.aj⟩,⟨(.sl 6),x.ay⟩,⟨qI,x.bn⟩,⟨qI,x.a_⟩]):=λS w cs x=>(aD.prod aD.int (aD.prod (aD.sl 4) (aD.prod (aD.sl 5) (aD.prod (aD.sl 6) (aD.prod aD.int (aD.int))))):aD D (Int×(List cL)×(List Source)×(List Consumer)×Int×Int) _) S w cs (alH x)
def rd7:aD D gL (λx=>[⟨qI,x.Start⟩,⟨qI,x.Stop⟩,⟨qI,x.oc⟩]):=λS w cs x=>(aD.prod aD.int (aD.prod aD.int (aD.int)):aD D (Int×Int×Int) _) S w cs (ak2 x)
def rd9:aD D bu (λx=>[⟨qI,x.State⟩,⟨qI,x.gX⟩,⟨qI,x.a_⟩,⟨qI,x.bn⟩]):=λS w cs x=>(aD.prod aD.int (aD.prod aD.int (aD.prod aD.int (aD.int))):aD D (Int×Int×Int×Int) _) S w cs (ala x)
def Mc:aD D Part (λx=>[⟨qI,x.Kind⟩,⟨qI,x.Number⟩]):=λS w cs x=>(aD.prod aD.int (aD.int):aD D (Int×Int) _) S w cs (ali x)
def Mb:aD D aw (λx=>[⟨(.sl 1),x.aE⟩,⟨(.sl 9),x.aj⟩,⟨(.sl 0),x.aT⟩,⟨(.sl 10),x.aP⟩]):=λS w cs x=>(aD.prod (aD.sl 1) (aD.prod (aD.sl 9) (aD.prod (aD.sl 0) ((aD.sl 10)))):aD D ((List Bool)×(List bu)×(List Int)×(List Part)) _) S w cs (alf x)
def aqU:aD D eH (λx=>[⟨qI,x.i_⟩,⟨qI,x.jH⟩]):=λS w cs x=>(aD.prod aD.int (aD.int):aD D (Int×Int) _) S w cs (alb x)
def abK:aD D Act (λx=>[⟨qI,x.Kind⟩,⟨qI,x.Unit⟩,⟨qI,x.Value⟩]):=λS w cs x=>(aD.prod aD.int (aD.prod aD.int (aD.int)):aD D (Int×Int×Int) _) S w cs (alK x)
def aqT:aD D Event (λx=>[⟨qI,x.Time⟩,⟨qI,x.Act.Kind⟩,⟨qI,x.Act.Unit⟩,⟨qI,x.Act.Value⟩,⟨qI,x.YT⟩]):=λS w cs x=>(aD.prod aD.int (aD.prod abK (aD.int)):aD D (Int×Act×Int) _) S w cs (alz x)
def rd8:aD D cH (λx=>[⟨qI,x.Time⟩,⟨(.sl 1),x.aw.aE⟩,⟨(.sl 9),x.aw.aj⟩,⟨(.sl 0),x.aw.aT⟩,⟨(.sl 10),x.aw.aP⟩,⟨(.sl 11),x.pU⟩,⟨(.sl 12),x.rZ⟩]):=λS w cs x=>(aD.prod aD.int (aD.prod Mb (aD.prod (aD.sl 11) ((aD.sl 12)))):aD D (Int×aw×(List eH)×(List Event)) _) S w cs (alh x)
def aqQ:aD D iP (λx=>[⟨qI,x.cu⟩,⟨qI,x.To⟩]):=λS w cs x=>(aD.prod aD.int (aD.int):aD D (Int×Int) _) S w cs (alI x)
def aqR:aD D b9 (λx=>[⟨qI,x.Kind⟩,⟨qI,x.tv⟩,⟨qI,x.Max⟩,⟨qI,x.wa⟩,⟨qI,x.fR⟩,⟨(.sl 17),x.n_⟩]):=λS w cs x=>(aD.prod aD.int (aD.prod aD.int (aD.prod aD.int (aD.prod aD.int (aD.prod aD.int ((aD.sl 17)))))):aD D (Int×Int×Int×Int×Int×(List iP)) _) S w cs (akZ x)
def abM:aD D dG (λx=>[⟨qI,x.iO⟩,⟨qI,x.ix⟩,⟨(.sl 16),x.c_⟩]):=λS w cs x=>(aD.prod aD.int (aD.prod aD.int ((aD.sl 16))):aD D (Int×Int×(List b9)) _) S w cs (ak9 x)
def Ma:aD D gZ (λx=>[⟨(.sl 0),x.ee⟩,⟨(.sl 0),x.gw⟩,⟨(.sl 0),x.ig⟩]):=λS w cs x=>(aD.prod (aD.sl 0) (aD.prod (aD.sl 0) ((aD.sl 0))):aD D ((List Int)×(List Int)×(List Int)) _) S w cs (alD x)
def abJ:aD D dD (λx=>[⟨(.sl 0),x.oU.ee⟩,⟨(.sl 0),x.oU.gw⟩,⟨(.sl 0),x.oU.ig⟩,⟨(.sl 0),x.oW.ee⟩,⟨(.sl 0),x.oW.gw⟩,⟨(.sl 0),x.oW.ig⟩,⟨(.sl 0),x.oV.ee⟩,⟨(.sl 0),x.oV.gw⟩,⟨(.sl 0),x.oV.ig⟩,⟨qI,x.FL⟩,⟨qI,x.FO⟩,⟨qI,x.FV⟩,⟨qI,x.FF⟩]):=λS w cs x=>(aD.prod Ma (aD.prod Ma (aD.prod Ma (aD.prod aD.int (aD.prod aD.int (aD.prod aD.int (aD.int)))))):aD D (gZ×gZ×gZ×Int×Int×Int×Int) _) S w cs (alq x)
def aqO:aD D fI (λx=>[⟨qI,x.cu.Kind⟩,⟨qI,x.cu.Number⟩,⟨qI,x.To.Kind⟩,⟨qI,x.To.Number⟩]):=λS w cs x=>(aD.prod Mc (Mc):aD D (Part×Part) _) S w cs (alm x)
def aqN:aD D jt (λx=>[⟨.str,x.Name⟩,⟨(.sl 10),x.eI⟩]):=λS w cs x=>(aD.prod aD.str ((aD.sl 10)):aD D (ByteArray×(List Part)) _) S w cs (als x)
def abL:aD D b_ (λx=>[⟨(.sl 10),x.eI⟩,⟨(.sl 19),x.cw⟩,⟨(.sl 20),x.gb⟩]):=λS w cs x=>(aD.prod (aD.sl 10) (aD.prod (aD.sl 19) ((aD.sl 20))):aD D ((List Part)×(List fI)×(List jt)) _) S w cs (alB x)
def aqM:aD D ld (λx=>[⟨qI,x.YV⟩,⟨qI,x.YM⟩,⟨qI,x.Yo⟩,⟨qI,x.YQ⟩]):=λS w cs x=>(aD.prod aD.int (aD.prod aD.int (aD.prod aD.int (aD.int))):aD D (Int×Int×Int×Int) _) S w cs (ald x)
def abI:aD D eM (λx=>[⟨qI,x.FH⟩,⟨qI,x.Sum⟩,⟨qI,x.Calm⟩,⟨qI,x.gM⟩,⟨qI,x.r_⟩,⟨qI,x.FA⟩,⟨qI,x.FJ⟩,⟨qI,x.FK⟩,⟨qI,x.FI⟩]):=λS w cs x=>(aD.prod aD.int (aD.prod aD.int (aD.prod aD.int (aD.prod aD.int (aD.prod aD.int (aD.prod aD.int (aD.prod aD.int (aD.prod aD.int (aD.int)))))))):aD D (Int×Int×Int×Int×Int×Int×Int×Int×Int) _) S w cs (alt x)
def SQ:aD D gM (λx=>[⟨qI,x.X⟩,⟨qI,x.Y⟩]):=λS w cs x=>(aD.prod aD.int (aD.int):aD D (Int×Int) _) S w cs (alg x)
def abE:aD D Target (λx=>[⟨qI,x.Place.X⟩,⟨qI,x.Place.Y⟩,⟨qI,x.FQ⟩]):=λS w cs x=>(aD.prod SQ (aD.int):aD D (gM×Int) _) S w cs (ak1 x)
def abG:aD D fA (λx=>[⟨qI,x.Place.X⟩,⟨qI,x.Place.Y⟩,⟨qI,x.zr⟩,⟨qI,x.zw⟩]):=λS w cs x=>(aD.prod SQ (aD.prod aD.int (aD.int)):aD D (gM×Int×Int) _) S w cs (alF x)
def abH:aD D fy (λx=>[⟨.str,x.Name⟩,⟨qI,x.FX⟩,⟨qI,x.fA.Place.X⟩,⟨qI,x.fA.Place.Y⟩,⟨qI,x.fA.zr⟩,⟨qI,x.fA.zw⟩,⟨qI,x.r_⟩]):=λS w cs x=>(aD.prod aD.str (aD.prod aD.int (aD.prod abG (aD.int))):aD D (ByteArray×Int×fA×Int) _) S w cs (alj x)
def aqL:aD D nC (λx=>[⟨.str,x.Name⟩,⟨qI,x.Ym⟩,⟨qI,x.Yl⟩,⟨(.sl 0),x.ci⟩]):=λS w cs x=>(aD.prod aD.str (aD.prod aD.int (aD.prod aD.int ((aD.sl 0)))):aD D (ByteArray×Int×Int×(List Int)) _) S w cs (ak3 x)
def abF:aD D mg (λx=>[⟨(.sl 22),x.FB⟩]):=λS w cs x=>((aD.sl 22):aD D ((List nC)) _) S w cs (ak' x)
def aqP:aD D gK (λx=>[⟨(.sl 0),x.dD.oU.ee⟩,⟨(.sl 0),x.dD.oU.gw⟩,⟨(.sl 0),x.dD.oU.ig⟩,⟨(.sl 0),x.dD.oW.ee⟩,⟨(.sl 0),x.dD.oW.gw⟩,⟨(.sl 0),x.dD.oW.ig⟩,⟨(.sl 0),x.dD.oV.ee⟩,⟨(.sl 0),x.dD.oV.gw⟩,⟨(.sl 0),x.dD.oV.ig⟩,⟨qI,x.dD.FL⟩,⟨qI,x.dD.FO⟩,⟨qI,x.dD.FV⟩,⟨qI,x.dD.FF⟩,⟨qI,x.dG.iO⟩,⟨qI,x.dG.ix⟩,⟨(.sl 16),x.dG.c_⟩,⟨qI,x.au.aA⟩,⟨(.sl 4),x.au.ah⟩,⟨(.sl 5),x.au.aj⟩,⟨(.sl 6),x.au.ay⟩,⟨qI,x.au.bn⟩,⟨qI,x.au.a_⟩,⟨qI,x.gL.Start⟩,⟨qI,x.gL.Stop⟩,⟨qI,x.gL.oc⟩,⟨(.sl 10),x.b_.eI⟩,⟨(.sl 19),x.b_.cw⟩,⟨(.sl 20),x.b_.gb⟩,⟨(.sl 21),x.Qt⟩,⟨qI,x.eM.FH⟩,⟨qI,x.eM.Sum⟩,⟨qI,x.eM.Calm⟩,⟨qI,x.eM.gM⟩,⟨qI,x.eM.r_⟩,⟨qI,x.eM.FA⟩,⟨qI,x.eM.FJ⟩,⟨qI,x.eM.FK⟩,⟨qI,x.eM.FI⟩,⟨qI,x.Target.Place.X⟩,⟨qI,x.Target.Place.Y⟩,⟨qI,x.Target.FQ⟩,⟨qI,x.oc⟩,⟨.str,x.fy.Name⟩,⟨qI,x.fy.FX⟩,⟨qI,x.fy.fA.Place.X⟩,⟨qI,x.fy.fA.Place.Y⟩,⟨qI,x.fy.fA.zr⟩,⟨qI,x.fy.fA.zw⟩,⟨qI,x.fy.r_⟩,⟨(.sl 22),x.mg.FB⟩]):=λS w cs x=>(aD.prod abJ (aD.prod abM (aD.prod Hg (aD.prod rd7 (aD.prod abL (aD.prod (aD.sl 21) (aD.prod abI (aD.prod abE (aD.prod aD.int (aD.prod abH (abF)))))))))):aD D (dD×dG×au×gL×b_×(List ld)×eM×Target×Int×fy×mg) _) S w cs (akW x)
def aqK:aD D ft (λx=>[⟨qI,x.ee⟩,⟨qI,x.gw⟩,⟨qI,x.ig⟩]):=λS w cs x=>(aD.prod aD.int (aD.prod aD.int (aD.int)):aD D (Int×Int×Int) _) S w cs (alu x)
def aqJ:aD D bz (λx=>[⟨(.sl 0),x.aA⟩,⟨(.sl 0),x.aj⟩,⟨(.sl 0),x.ay⟩]):=λS w cs x=>(aD.prod (aD.sl 0) (aD.prod (aD.sl 0) ((aD.sl 0))):aD D ((List Int)×(List Int)×(List Int)) _) S w cs (alp x)
def aqG:aD D qh (λx=>[⟨qI,x.cH.Time⟩,⟨(.sl 1),x.cH.aw.aE⟩,⟨(.sl 9),x.cH.aw.aj⟩,⟨(.sl 0),x.cH.aw.aT⟩,⟨(.sl 10),x.cH.aw.aP⟩,⟨(.sl 11),x.cH.pU⟩,⟨(.sl 12),x.cH.rZ⟩,⟨qI,x.aR.aA⟩,⟨(.sl 4),x.aR.ah⟩,⟨(.sl 5),x.aR.aj⟩,⟨(.sl 6),x.aR.ay⟩,⟨qI,x.aR.bn⟩,⟨qI,x.aR.a_⟩,⟨(.sl 12),x.events⟩,⟨(.sl 14),x.Gv⟩]):=λS w cs x=>(aD.prod rd8 (aD.prod Hg (aD.prod (aD.sl 12) ((aD.sl 14)))):aD D (cH×au×(List Event)×(List aw)) _) S w cs (aba x)
def aqF:aD D ou (λx=>[⟨qI,x.aR.aA⟩,⟨(.sl 4),x.aR.ah⟩,⟨(.sl 5),x.aR.aj⟩,⟨(.sl 6),x.aR.ay⟩,⟨qI,x.aR.bn⟩,⟨qI,x.aR.a_⟩,⟨(.sl 1),x.bl.aE⟩,⟨(.sl 9),x.bl.aj⟩,⟨(.sl 0),x.bl.aT⟩,⟨(.sl 10),x.bl.aP⟩,⟨qI,x.time⟩]):=λS w cs x=>(aD.prod Hg (aD.prod Mb (aD.int)):aD D (au×aw×Int) _) S w cs (Z8 x)
def aqE:aD D fM (λx=>[⟨qI,x.aR.aA⟩,⟨(.sl 4),x.aR.ah⟩,⟨(.sl 5),x.aR.aj⟩,⟨(.sl 6),x.aR.ay⟩,⟨qI,x.aR.bn⟩,⟨qI,x.aR.a_⟩,⟨(.sl 1),x.bl.aE⟩,⟨(.sl 9),x.bl.aj⟩,⟨(.sl 0),x.bl.aT⟩,⟨(.sl 10),x.bl.aP⟩,⟨(.sl 29),x.v9⟩]):=λS w cs x=>(aD.prod Hg (aD.prod Mb ((aD.sl 29))):aD D (au×aw×(List Act)) _) S w cs (abt x)
def aqD:aD D fZ (λx=>[⟨qI,x.X⟩,⟨qI,x.Y⟩]):=λS w cs x=>(aD.prod aD.int (aD.int):aD D (Int×Int) _) S w cs (ak0 x)
def SS:aD D ml (λx=>[⟨qI,x.ee⟩,⟨qI,x.iO⟩,⟨qI,x.ix⟩]):=λS w cs x=>(aD.prod aD.int (aD.prod aD.int (aD.int)):aD D (Int×Int×Int) _) S w cs (alC x)
def aqC:aD D FZ (λx=>[⟨(.sl 33),x.Yn⟩,⟨qI,x.Cg.ee⟩,⟨qI,x.Cg.iO⟩,⟨qI,x.Cg.ix⟩,⟨qI,x.Cd.ee⟩,⟨qI,x.Cd.iO⟩,⟨qI,x.Cd.ix⟩]):=λS w cs x=>(aD.prod (aD.sl 33) (aD.prod SS (SS)):aD D ((List fZ)×ml×ml) _) S w cs (alJ x)
def aqB:aD D pB (λx=>[⟨(.sl 16),x.wE⟩,⟨(.sl 33),x.last⟩]):=λS w cs x=>(aD.prod (aD.sl 16) ((aD.sl 33)):aD D ((List b9)×(List fZ)) _) S w cs (acp x)
def aqA:aD D fx (λx=>[⟨qI,x.jH⟩,⟨qI,x.i_⟩,⟨qI,x.fR⟩]):=λS w cs x=>(aD.prod aD.int (aD.prod aD.int (aD.int)):aD D (Int×Int×Int) _) S w cs (ak_ x)
def aqz:aD D iy (λx=>[⟨qI,x.Part.Kind⟩,⟨qI,x.Part.Number⟩,⟨.bool,x.Cf⟩]):=λS w cs x=>(aD.prod Mc (aD.bool):aD D (Part×Bool) _) S w cs (alx x)
def aqy:aD D Src (λx=>[⟨(.sl 0),x.L⟩,⟨qI,x.At⟩]):=λS w cs x=>(aD.prod (aD.sl 0) (aD.int):aD D ((List Int)×Int) _) S w cs (ak4 x)
def aqS:aD D (List Int) (λx=>[⟨.sl 0,x⟩]):=aD.sl 0
def aqI:aD D (List Part) (λx=>[⟨.sl 10,x⟩]):=aD.sl 10
def aqH:aD D (Int×Int×Bool) (λx=>[⟨qI,x.1⟩,⟨qI,x.2.1⟩,⟨.bool,x.2.2⟩]):=aD.prod aD.int (aD.prod aD.int (aD.bool))
def aqw:aD D (Int×Int×Int) (λx=>[⟨qI,x.1⟩,⟨qI,x.2.1⟩,⟨qI,x.2.2⟩]):=aD.prod aD.int (aD.prod aD.int (aD.int))
def rk:cK T where
 sz:=λn=>match n with
  |0=>rfl
  |1=>rfl
  |2=>rfl
  |3=>rfl
  |4=>rfl
  |5=>rfl
  |6=>rfl
  |7=>rfl
  |8=>rfl
  |9=>rfl
  |10=>rfl
  |11=>rfl
  |12=>rfl
  |13=>rfl
  |14=>rfl
  |15=>rfl
  |16=>rfl
  |17=>rfl
  |18=>rfl
  |19=>rfl
  |20=>rfl
  |21=>rfl
  |22=>rfl
  |23=>rfl
  |24=>rfl
  |25=>rfl
  |26=>rfl
  |27=>rfl
  |28=>rfl
  |29=>rfl
  |30=>rfl
  |31=>rfl
  |32=>rfl
  |33=>rfl
  |34=>rfl
  |35=>rfl
  |36=>rfl
  |37=>rfl
  |38=>rfl
  |39=>rfl
  |40=>rfl
  |41=>rfl
  |42=>rfl
  |43=>rfl
  |44=>rfl
  |45=>rfl
  |46=>rfl
  |47=>rfl
  |48=>rfl
  |_+49=>rfl
 ag:=λn=>match n with
  |0=>rfl
  |1=>rfl
  |2=>rfl
  |3=>rfl
  |4=>rfl
  |5=>rfl
  |6=>rfl
  |7=>rfl
  |8=>rfl
  |9=>rfl
  |10=>rfl
  |11=>rfl
  |12=>rfl
  |13=>rfl
  |14=>rfl
  |15=>rfl
  |16=>rfl
  |17=>rfl
  |18=>rfl
  |19=>rfl
  |20=>rfl
  |21=>rfl
  |22=>rfl
  |23=>rfl
  |24=>rfl
  |25=>rfl
  |26=>rfl
  |27=>rfl
  |28=>rfl
  |29=>rfl
  |30=>rfl
  |31=>rfl
  |32=>rfl
  |33=>rfl
  |34=>rfl
  |35=>rfl
  |36=>rfl
  |37=>rfl
  |38=>rfl
  |39=>rfl
  |40=>rfl
  |41=>rfl
  |42=>rfl
  |43=>rfl
  |44=>rfl
  |45=>rfl
  |46=>rfl
  |47=>rfl
  |48=>rfl
  |_+49=>rfl
 zc:=λn=>match n with
  |0=>rfl
  |1=>rfl
  |2=>rfl
  |3=>rfl
  |4=>rfl
  |5=>rfl
  |6=>rfl
  |7=>rfl
  |8=>rfl
  |9=>rfl
  |10=>rfl
  |11=>rfl
  |12=>rfl
  |13=>rfl
  |14=>rfl
  |15=>rfl
  |16=>rfl
  |17=>rfl
  |18=>rfl
  |19=>rfl
  |20=>rfl
  |21=>rfl
  |22=>rfl
  |23=>rfl
  |24=>rfl
  |25=>rfl
  |26=>rfl
  |27=>rfl
  |28=>rfl
  |29=>rfl
  |30=>rfl
  |31=>rfl
  |32=>rfl
  |33=>rfl
  |34=>rfl
  |35=>rfl
  |36=>rfl
  |37=>rfl
  |38=>rfl
  |39=>rfl
  |40=>rfl
  |41=>rfl
  |42=>rfl
  |43=>rfl
  |44=>rfl
  |45=>rfl
  |46=>rfl
  |47=>rfl
  |48=>rfl
  |_+49=>rfl
 zero:=λn=>match n with
  |0=>rfl
  |1=>rfl
  |2=>rfl
  |3=>rfl
  |4=>rfl
  |5=>rfl
  |6=>rfl
  |7=>rfl
  |8=>rfl
  |9=>rfl
  |10=>rfl
  |11=>rfl
  |12=>rfl
  |13=>rfl
  |14=>rfl
  |15=>rfl
  |16=>rfl
  |17=>rfl
  |18=>rfl
  |19=>rfl
  |20=>rfl
  |21=>rfl
  |22=>rfl
  |23=>rfl
  |24=>rfl
  |25=>rfl
  |26=>rfl
  |27=>rfl
  |28=>rfl
  |29=>rfl
  |30=>rfl
  |31=>rfl
  |32=>rfl
  |33=>rfl
  |34=>rfl
  |35=>rfl
  |36=>rfl
  |37=>rfl
  |38=>rfl
  |39=>rfl
  |40=>rfl
  |41=>rfl
  |42=>rfl
  |43=>rfl
  |44=>rfl
  |45=>rfl
  |46=>rfl
  |47=>rfl
  |48=>rfl
  |_+49=>rfl
 rd:=λn S w cs x=>match n,x with
  |0,x=>aD.int S w cs x
  |1,x=>aD.bool S w cs x
  |2,x=>aD.str S w cs x
  |3,x=>Hg S w cs x
  |4,x=>rd4 S w cs x
  |5,x=>rd5 S w cs x
  |6,x=>rd6 S w cs x
  |7,x=>rd7 S w cs x
  |8,x=>rd8 S w cs x
  |9,x=>rd9 S w cs x
  |10,x=>Mc S w cs x
  |11,x=>aqU S w cs x
  |12,x=>aqT S w cs x
  |13,x=>aqS S w cs x
  |14,x=>Mb S w cs x
  |15,x=>abM S w cs x
  |16,x=>aqR S w cs x
  |17,x=>aqQ S w cs x
  |18,x=>aqP S w cs x
  |19,x=>aqO S w cs x
  |20,x=>aqN S w cs x
  |21,x=>aqM S w cs x
  |22,x=>aqL S w cs x
  |23,x=>aqK S w cs x
  |24,x=>aqJ S w cs x
  |25,x=>abL S w cs x
  |26,x=>aD.u8 S w cs x
  |27,x=>aqI S w cs x
  |28,x=>aqH S w cs x
  |29,x=>abK S w cs x
  |30,x=>aqG S w cs x
  |31,x=>aqF S w cs x
  |32,x=>aqE S w cs x
  |33,x=>aqD S w cs x
  |34,x=>SS S w cs x
  |35,x=>aqC S w cs x
  |36,x=>aqB S w cs x
  |37,x=>aqA S w cs x
  |38,x=>aqz S w cs x
  |39,x=>aqy S w cs x
  |40,x=>abJ S w cs x
  |41,x=>Ma S w cs x
  |42,x=>abI S w cs x
  |43,x=>abH S w cs x
  |44,x=>abG S w cs x
  |45,x=>SQ S w cs x
  |46,x=>abF S w cs x
  |47,x=>abE S w cs x
  |48,x=>aqw S w cs x
  |_+49,x=>aD.int S w cs x
 uv:=λn=>match n with
  |0=>by decide
  |1=>by decide
  |2=>by decide
  |3=>by decide
  |4=>by decide
  |5=>by decide
  |6=>by decide
  |7=>by decide
  |8=>by decide
  |9=>by decide
  |10=>by decide
  |11=>by decide
  |12=>by decide
  |13=>by decide
  |14=>by decide
  |15=>by decide
  |16=>by decide
  |17=>by decide
  |18=>by decide
  |19=>by decide
  |20=>by decide
  |21=>by decide
  |22=>by decide
  |23=>by decide
  |24=>by decide
  |25=>by decide
  |26=>by decide
  |27=>by decide
  |28=>by decide
  |29=>by decide
  |30=>by decide
  |31=>by decide
  |32=>by decide
  |33=>by decide
  |34=>by decide
  |35=>by decide
  |36=>by decide
  |37=>by decide
  |38=>by decide
  |39=>by decide
  |40=>by decide
  |41=>by decide
  |42=>by decide
  |43=>by decide
  |44=>by decide
  |45=>by decide
  |46=>by decide
  |47=>by decide
  |48=>by decide
  |_+49=>by show 1<=112;decide
 MI:=λn h=>match n,h with
  |0,h=>rfl
  |1,h=>rfl
  |2,h=>rfl
  |3,h=>rfl
  |4,h=>rfl
  |5,h=>rfl
  |6,h=>rfl
  |7,h=>rfl
  |8,h=>rfl
  |9,h=>rfl
  |10,h=>rfl
  |11,h=>rfl
  |12,h=>rfl
  |13,h=>rfl
  |14,h=>rfl
  |15,h=>rfl
  |16,h=>rfl
  |17,h=>rfl
  |18,h=>rfl
  |19,h=>rfl
  |20,h=>rfl
  |21,h=>rfl
  |22,h=>rfl
  |23,h=>rfl
  |24,h=>rfl
  |25,h=>rfl
  |26,h=>rfl
  |27,h=>rfl
  |28,h=>rfl
  |29,h=>rfl
  |30,h=>rfl
  |31,h=>rfl
  |32,h=>rfl
  |33,h=>rfl
  |34,h=>rfl
  |35,h=>rfl
  |36,h=>rfl
  |37,h=>rfl
  |38,h=>rfl
  |39,h=>rfl
  |40,h=>rfl
  |41,h=>rfl
  |42,h=>rfl
  |43,h=>rfl
  |44,h=>rfl
  |45,h=>rfl
  |46,h=>rfl
  |47,h=>rfl
  |48,h=>rfl
  |_+49,h=>rfl
def anH:cp prog T 3 (.one qI):=⟨bj.of underlying3 rfl (by kernel_rfl),underlying3⟩
def ans:cp prog T 4 (.one .bool):=⟨bj.of underlying4 rfl (by kernel_rfl),underlying4⟩
def ank:cp prog T 5 (.one (.int .u8)):=⟨bj.of underlying5 rfl (by kernel_rfl),underlying5⟩
def am1:cp prog T 9 (.one .str):=⟨bj.of underlying9 rfl (by kernel_rfl),underlying9⟩
def anW:cp prog T 22 (.one (.sl 0)):=⟨bj.of underlying22 rfl (by kernel_rfl),trivial⟩
def anT:cp prog T 24 (.ptr):=⟨bj.of underlying24 rfl (by kernel_rfl),trivial⟩
def anP:cp prog T 27 (.st 41):=⟨bj.of underlying27 rfl (by kernel_rfl),trivial⟩
def anK:cp prog T 29 (.st 40):=⟨bj.of underlying29 rfl (by kernel_rfl),trivial⟩
def anG:cp prog T 30 (.one (.sl 16)):=⟨bj.of underlying30 rfl (by kernel_rfl),trivial⟩
def anC:cp prog T 32 (.st 15):=⟨bj.of underlying32 rfl (by kernel_rfl),trivial⟩
def anA:cp prog T 33 (.one (.sl 4)):=⟨bj.of underlying33 rfl (by kernel_rfl),trivial⟩
def anx:cp prog T 34 (.one (.sl 5)):=⟨bj.of underlying34 rfl (by kernel_rfl),trivial⟩
def anw:cp prog T 35 (.one (.sl 6)):=⟨bj.of underlying35 rfl (by kernel_rfl),trivial⟩
def anu:cp prog T 37 (.st 3):=⟨bj.of underlying37 rfl (by kernel_rfl),trivial⟩
def ant:cp prog T 39 (.st 7):=⟨bj.of underlying39 rfl (by kernel_rfl),trivial⟩
def anr:cp prog T 40 (.one (.sl 10)):=⟨bj.of underlying40 rfl (by kernel_rfl),trivial⟩
def anq:cp prog T 41 (.one (.sl 19)):=⟨bj.of underlying41 rfl (by kernel_rfl),trivial⟩
def anp:cp prog T 42 (.one (.sl 20)):=⟨bj.of underlying42 rfl (by kernel_rfl),trivial⟩
def ano:cp prog T 44 (.st 25):=⟨bj.of underlying44 rfl (by kernel_rfl),trivial⟩
def ann:cp prog T 45 (.one (.sl 21)):=⟨bj.of underlying45 rfl (by kernel_rfl),trivial⟩
def anm:cp prog T 47 (.st 42):=⟨bj.of underlying47 rfl (by kernel_rfl),trivial⟩
def anl:cp prog T 49 (.st 45):=⟨bj.of underlying49 rfl (by kernel_rfl),trivial⟩
def anj:cp prog T 51 (.st 47):=⟨bj.of underlying51 rfl (by kernel_rfl),trivial⟩
def ani:cp prog T 53 (.st 44):=⟨bj.of underlying53 rfl (by kernel_rfl),trivial⟩
def anh:cp prog T 55 (.st 43):=⟨bj.of underlying55 rfl (by kernel_rfl),trivial⟩
def ang:cp prog T 56 (.one (.sl 22)):=⟨bj.of underlying56 rfl (by kernel_rfl),trivial⟩
def anf:cp prog T 58 (.st 46):=⟨bj.of underlying58 rfl (by kernel_rfl),trivial⟩
def ane:cp prog T 60 (.st 18):=⟨bj.of underlying60 rfl (by kernel_rfl),trivial⟩
def am':cp prog T 62 (.one (.sl 1)):=⟨bj.of underlying62 rfl (by kernel_rfl),trivial⟩
def am_:cp prog T 63 (.one (.sl 9)):=⟨bj.of underlying63 rfl (by kernel_rfl),trivial⟩
def am9:cp prog T 65 (.st 14):=⟨bj.of underlying65 rfl (by kernel_rfl),trivial⟩
def am8:cp prog T 66 (.one (.sl 11)):=⟨bj.of underlying66 rfl (by kernel_rfl),trivial⟩
def am7:cp prog T 67 (.one (.sl 12)):=⟨bj.of underlying67 rfl (by kernel_rfl),trivial⟩
def am6:cp prog T 69 (.st 8):=⟨bj.of underlying69 rfl (by kernel_rfl),trivial⟩
def am5:cp prog T 72 (.st 23):=⟨bj.of underlying72 rfl (by kernel_rfl),trivial⟩
def am4:cp prog T 80 (.st 10):=⟨bj.of underlying80 rfl (by kernel_rfl),trivial⟩
def am3:cp prog T 82 (.one qI):=⟨bj.of underlying82 rfl (by kernel_rfl),underlying82⟩
def am2:cp prog T 86 (.one (.sl 38)):=⟨bj.of underlying86 rfl (by kernel_rfl),trivial⟩
def am0:cp prog T 90 (.st 38):=⟨bj.of underlying90 rfl (by kernel_rfl),trivial⟩
def amZ:cp prog T 99 (.st 39):=⟨bj.of underlying99 rfl (by kernel_rfl),trivial⟩
def aog:cp prog T 101 (.st 4):=⟨bj.of underlying101 rfl (by kernel_rfl),trivial⟩
def aof:cp prog T 104 (.st 5):=⟨bj.of underlying104 rfl (by kernel_rfl),trivial⟩
def aoe:cp prog T 106 (.st 6):=⟨bj.of underlying106 rfl (by kernel_rfl),trivial⟩
def aod:cp prog T 107 (.one (.sl 17)):=⟨bj.of underlying107 rfl (by kernel_rfl),trivial⟩
def aoc:cp prog T 109 (.st 16):=⟨bj.of underlying109 rfl (by kernel_rfl),trivial⟩
def aob:cp prog T 111 (.st 21):=⟨bj.of underlying111 rfl (by kernel_rfl),trivial⟩
def aoa:cp prog T 117 (.st 11):=⟨bj.of underlying117 rfl (by kernel_rfl),trivial⟩
def an':cp prog T 126 (.st 20):=⟨bj.of underlying126 rfl (by kernel_rfl),trivial⟩
def an_:cp prog T 128 (.fn):=⟨bj.of underlying128 rfl (by kernel_rfl),trivial⟩
def an9:cp prog T 131 (.one (.sl 14)):=⟨bj.of underlying131 rfl (by kernel_rfl),trivial⟩
def an8:cp prog T 135 (.st 29):=⟨bj.of underlying135 rfl (by kernel_rfl),trivial⟩
def an7:cp prog T 141 (.st 34):=⟨bj.of underlying141 rfl (by kernel_rfl),trivial⟩
def an6:cp prog T 151 (.st 19):=⟨bj.of underlying151 rfl (by kernel_rfl),trivial⟩
def an5:cp prog T 163 (.st 9):=⟨bj.of underlying163 rfl (by kernel_rfl),trivial⟩
def an4:cp prog T 174 (.one (.sl 2)):=⟨bj.of underlying174 rfl (by kernel_rfl),trivial⟩
def an3:cp prog T 186 (.one (.sl 27)):=⟨bj.of underlying186 rfl (by kernel_rfl),trivial⟩
def an2:cp prog T 189 (.ptr):=⟨bj.of underlying189 rfl (by kernel_rfl),trivial⟩
def an1:cp prog T 193 (.st 30):=⟨bj.of underlying193 rfl (by kernel_rfl),trivial⟩
def an0:cp prog T 202 (.st 12):=⟨bj.of underlying202 rfl (by kernel_rfl),trivial⟩
def anZ:cp prog T 207 (.one (.sl 33)):=⟨bj.of underlying207 rfl (by kernel_rfl),trivial⟩
def anY:cp prog T 209 (.st 35):=⟨bj.of underlying209 rfl (by kernel_rfl),trivial⟩
def anX:cp prog T 216 (.one (.int .u64)):=⟨bj.of underlying216 rfl (by kernel_rfl),underlying216⟩
def anV:cp prog T 231 (.one (.sl 26)):=⟨bj.of underlying231 rfl (by kernel_rfl),trivial⟩
def anU:cp prog T 233 (.st 22):=⟨bj.of underlying233 rfl (by kernel_rfl),trivial⟩
def anS:cp prog T 245 (.one (.sl 24)):=⟨bj.of underlying245 rfl (by kernel_rfl),trivial⟩
def anR:cp prog T 248 (.st 24):=⟨bj.of underlying248 rfl (by kernel_rfl),trivial⟩
def anQ:cp prog T 262 (.one (.sl 29)):=⟨bj.of underlying262 rfl (by kernel_rfl),trivial⟩
def anO:cp prog T 272 (.st 33):=⟨bj.of underlying272 rfl (by kernel_rfl),trivial⟩
def anN:cp prog T 275 (.st 36):=⟨bj.of underlying275 rfl (by kernel_rfl),trivial⟩
def anM:cp prog T 280 (.one (.sl 37)):=⟨bj.of underlying280 rfl (by kernel_rfl),trivial⟩
def anL:cp prog T 286 (.one qI):=⟨bj.of underlying286 rfl (by kernel_rfl),underlying286⟩
def anJ:cp prog T 295 (.one (.int .u64)):=⟨bj.of underlying295 rfl (by kernel_rfl),underlying295⟩
def anI:cp prog T 296 (.one (.sl 13)):=⟨bj.of underlying296 rfl (by kernel_rfl),trivial⟩
def anF:cp prog T 305 (.st 17):=⟨bj.of underlying305 rfl (by kernel_rfl),trivial⟩
def anE:cp prog T 315 (.ptr):=⟨bj.of underlying315 rfl (by kernel_rfl),trivial⟩
def anD:cp prog T 317 (.st 31):=⟨bj.of underlying317 rfl (by kernel_rfl),trivial⟩
def anB:cp prog T 320 (.ptr):=⟨bj.of underlying320 rfl (by kernel_rfl),trivial⟩
def anz:cp prog T 338 (.st 37):=⟨bj.of underlying338 rfl (by kernel_rfl),trivial⟩
def anv:cp prog T 362 (.st 32):=⟨bj.of underlying362 rfl (by kernel_rfl),trivial⟩
def GB:prog.underlying 22=aa (.slice 3)∧bN prog 3 (D 0):=⟨underlying22,bN.of underlying3 rfl (by kernel_rfl)⟩
def apr:prog.underlying 30=aa (.slice 109)∧bN prog 109 (D 16):=⟨underlying30,bN.of underlying109 rfl (by kernel_rfl)⟩
def apq:prog.underlying 33=aa (.slice 101)∧bN prog 101 (D 4):=⟨underlying33,bN.of underlying101 rfl (by kernel_rfl)⟩
def apo:prog.underlying 34=aa (.slice 104)∧bN prog 104 (D 5):=⟨underlying34,bN.of underlying104 rfl (by kernel_rfl)⟩
def apn:prog.underlying 35=aa (.slice 106)∧bN prog 106 (D 6):=⟨underlying35,bN.of underlying106 rfl (by kernel_rfl)⟩
def wG:prog.underlying 40=aa (.slice 80)∧bN prog 80 (D 10):=⟨underlying40,bN.of underlying80 rfl (by kernel_rfl)⟩
def apm:prog.underlying 41=aa (.slice 151)∧bN prog 151 (D 19):=⟨underlying41,bN.of underlying151 rfl (by kernel_rfl)⟩
def apl:prog.underlying 42=aa (.slice 126)∧bN prog 126 (D 20):=⟨underlying42,bN.of underlying126 rfl (by kernel_rfl)⟩
def apk:prog.underlying 45=aa (.slice 111)∧bN prog 111 (D 21):=⟨underlying45,bN.of underlying111 rfl (by kernel_rfl)⟩
def apj:prog.underlying 56=aa (.slice 233)∧bN prog 233 (D 22):=⟨underlying56,bN.of underlying233 rfl (by kernel_rfl)⟩
def GA:prog.underlying 62=aa (.slice 4)∧bN prog 4 (D 1):=⟨underlying62,bN.of underlying4 rfl (by kernel_rfl)⟩
def Gz:prog.underlying 63=aa (.slice 163)∧bN prog 163 (D 9):=⟨underlying63,bN.of underlying163 rfl (by kernel_rfl)⟩
def Gy:prog.underlying 66=aa (.slice 117)∧bN prog 117 (D 11):=⟨underlying66,bN.of underlying117 rfl (by kernel_rfl)⟩
def Gx:prog.underlying 67=aa (.slice 202)∧bN prog 202 (D 12):=⟨underlying67,bN.of underlying202 rfl (by kernel_rfl)⟩
def api:prog.underlying 86=aa (.slice 90)∧bN prog 90 (D 38):=⟨underlying86,bN.of underlying90 rfl (by kernel_rfl)⟩
def GC:prog.underlying 107=aa (.slice 305)∧bN prog 305 (D 17):=⟨underlying107,bN.of underlying305 rfl (by kernel_rfl)⟩
def apA:prog.underlying 131=aa (.slice 65)∧bN prog 65 (D 14):=⟨underlying131,bN.of underlying65 rfl (by kernel_rfl)⟩
def apz:prog.underlying 174=aa (.slice 9)∧bN prog 9 (D 2):=⟨underlying174,bN.of underlying9 rfl (by kernel_rfl)⟩
def apy:prog.underlying 186=aa (.slice 40)∧bN prog 40 (D 27):=⟨underlying186,bN.of underlying40 rfl (by kernel_rfl)⟩
def apx:prog.underlying 207=aa (.slice 272)∧bN prog 272 (D 33):=⟨underlying207,bN.of underlying272 rfl (by kernel_rfl)⟩
def apw:prog.underlying 231=aa (.slice 5)∧bN prog 5 (D 26):=⟨underlying231,bN.of underlying5 rfl (by kernel_rfl)⟩
def apv:prog.underlying 245=aa (.slice 248)∧bN prog 248 (D 24):=⟨underlying245,bN.of underlying248 rfl (by kernel_rfl)⟩
def apu:prog.underlying 262=aa (.slice 135)∧bN prog 135 (D 29):=⟨underlying262,bN.of underlying135 rfl (by kernel_rfl)⟩
def apt:prog.underlying 280=aa (.slice 338)∧bN prog 338 (D 37):=⟨underlying280,bN.of underlying338 rfl (by kernel_rfl)⟩
def aps:prog.underlying 296=aa (.slice 22)∧bN prog 22 (D 13):=⟨underlying296,bN.of underlying22 rfl (by kernel_rfl)⟩
def axY:FG 27 [(0,1),(1,1),(2,1)]:=fj ⟨_,underlying27,by kernel_rfl⟩ rfl
def axV:FG 29 [(0,3),(3,3),(6,3),(9,1),(10,1),(11,1),(12,1)]:=fj ⟨_,underlying29,by kernel_rfl⟩ rfl
def axS:FG 32 [(0,1),(1,1),(2,1)]:=fj ⟨_,underlying32,by kernel_rfl⟩ rfl
def axP:FG 37 [(0,1),(1,1),(2,1),(3,1),(4,1),(5,1)]:=fj ⟨_,underlying37,by kernel_rfl⟩ rfl
def axO:FG 39 [(0,1),(1,1),(2,1)]:=fj ⟨_,underlying39,by kernel_rfl⟩ rfl
def axN:FG 44 [(0,1),(1,1),(2,1)]:=fj ⟨_,underlying44,by kernel_rfl⟩ rfl
def axM:FG 47 [(0,1),(1,1),(2,1),(3,1),(4,1),(5,1),(6,1),(7,1),(8,1)]:=fj ⟨_,underlying47,by kernel_rfl⟩ rfl
def axL:FG 49 [(0,1),(1,1)]:=fj ⟨_,underlying49,by kernel_rfl⟩ rfl
def axK:FG 51 [(0,2),(2,1)]:=fj ⟨_,underlying51,by kernel_rfl⟩ rfl
def axJ:FG 53 [(0,2),(2,1),(3,1)]:=fj ⟨_,underlying53,by kernel_rfl⟩ rfl
def axI:FG 55 [(0,1),(1,1),(2,4),(6,1)]:=fj ⟨_,underlying55,by kernel_rfl⟩ rfl
def axH:FG 58 [(0,1)]:=fj ⟨_,underlying58,by kernel_rfl⟩ rfl
def axG:FG 60 [(0,13),(13,3),(16,6),(22,3),(25,3),(28,1),(29,9),(38,3),(41,1),(42,7),(49,1)]:=fj ⟨_,underlying60,by kernel_rfl⟩ rfl
def axF:FG 65 [(0,1),(1,1),(2,1),(3,1)]:=fj ⟨_,underlying65,by kernel_rfl⟩ rfl
def axE:FG 69 [(0,1),(1,4),(5,1),(6,1)]:=fj ⟨_,underlying69,by kernel_rfl⟩ rfl
def axD:FG 72 [(0,1),(1,1),(2,1)]:=fj ⟨_,underlying72,by kernel_rfl⟩ rfl
def axC:FG 80 [(0,1),(1,1)]:=fj ⟨_,underlying80,by kernel_rfl⟩ rfl
def axB:FG 90 [(0,2),(2,1)]:=fj ⟨_,underlying90,by kernel_rfl⟩ rfl
def axA:FG 99 [(0,1),(1,1)]:=fj ⟨_,underlying99,by kernel_rfl⟩ rfl
def ayc:FG 101 [(0,1),(1,1),(2,1)]:=fj ⟨_,underlying101,by kernel_rfl⟩ rfl
def ayb:FG 104 [(0,1),(1,1),(2,1)]:=fj ⟨_,underlying104,by kernel_rfl⟩ rfl
def aya:FG 106 [(0,1),(1,1),(2,1),(3,1),(4,1)]:=fj ⟨_,underlying106,by kernel_rfl⟩ rfl
def ax':FG 109 [(0,1),(1,1),(2,1),(3,1),(4,1),(5,1)]:=fj ⟨_,underlying109,by kernel_rfl⟩ rfl
def ax_:FG 111 [(0,1),(1,1),(2,1),(3,1)]:=fj ⟨_,underlying111,by kernel_rfl⟩ rfl
def ax9:FG 117 [(0,1),(1,1)]:=fj ⟨_,underlying117,by kernel_rfl⟩ rfl
def ax8:FG 126 [(0,1),(1,1)]:=fj ⟨_,underlying126,by kernel_rfl⟩ rfl
def ax7:FG 135 [(0,1),(1,1),(2,1)]:=fj ⟨_,underlying135,by kernel_rfl⟩ rfl
def ax6:FG 141 [(0,1),(1,1),(2,1)]:=fj ⟨_,underlying141,by kernel_rfl⟩ rfl
def ax5:FG 151 [(0,2),(2,2)]:=fj ⟨_,underlying151,by kernel_rfl⟩ rfl
def ax4:FG 163 [(0,1),(1,1),(2,1),(3,1)]:=fj ⟨_,underlying163,by kernel_rfl⟩ rfl
def ax3:FG 193 [(0,7),(7,6),(13,1),(14,1)]:=fj ⟨_,underlying193,by kernel_rfl⟩ rfl
def ax2:FG 202 [(0,1),(1,3),(4,1)]:=fj ⟨_,underlying202,by kernel_rfl⟩ rfl
def ax1:FG 209 [(0,1),(1,3),(4,3)]:=fj ⟨_,underlying209,by kernel_rfl⟩ rfl
def ax0:FG 233 [(0,1),(1,1),(2,1),(3,1)]:=fj ⟨_,underlying233,by kernel_rfl⟩ rfl
def axZ:FG 248 [(0,1),(1,1),(2,1)]:=fj ⟨_,underlying248,by kernel_rfl⟩ rfl
def axX:FG 272 [(0,1),(1,1)]:=fj ⟨_,underlying272,by kernel_rfl⟩ rfl
def axW:FG 275 [(0,1),(1,1)]:=fj ⟨_,underlying275,by kernel_rfl⟩ rfl
def axU:FG 305 [(0,1),(1,1)]:=fj ⟨_,underlying305,by kernel_rfl⟩ rfl
def axT:FG 317 [(0,6),(6,4),(10,1)]:=fj ⟨_,underlying317,by kernel_rfl⟩ rfl
def axR:FG 338 [(0,1),(1,1),(2,1)]:=fj ⟨_,underlying338,by kernel_rfl⟩ rfl
def axQ:FG 362 [(0,6),(6,4),(10,1)]:=fj ⟨_,underlying362,by kernel_rfl⟩ rfl
def sZ:gN prog 3 ae [qI] 1:=gN.int underlying3
def IG:gN prog 80 ab [qI,qI] 2:=by refine gN.struct (k:=1) underlying80 (by kernel_rfl) ?_;exact⟨by simp,rfl,ae,[qI],[qI],[.int .i64 0],rfl,bj.of underlying3 rfl (by kernel_rfl),rfl,λ_=>rfl,sZ.up (by decide),⟨by simp,rfl,ae,[qI],[],[.int .i64 0],rfl,bj.of underlying3 rfl (by kernel_rfl),rfl,λ_=>rfl,sZ.up (by decide),rfl⟩⟩
def ayy:zB prog 80 [qI,qI]∧([qI,qI]:List Lf).all jE=ab:=⟨⟨⟨2,by decide,IG⟩,by kernel_rfl⟩,rfl⟩
def ayG:gN prog 101 ab [qI,qI,qI] 2:=by refine gN.struct (k:=1) underlying101 (by kernel_rfl) ?_;exact⟨by simp,rfl,ae,[qI],[qI,qI],[.int .i64 0],rfl,bj.of underlying3 rfl (by kernel_rfl),rfl,λ_=>rfl,sZ.up (by decide),⟨by simp,rfl,ae,[qI],[qI],[.int .i64 0],rfl,bj.of underlying3 rfl (by kernel_rfl),rfl,λ_=>rfl,sZ.up (by decide),⟨by simp,rfl,ae,[qI],[],[.int .i64 0],rfl,bj.of underlying3 rfl (by kernel_rfl),rfl,λ_=>rfl,sZ.up (by decide),rfl⟩⟩⟩
def ayC:zB prog 101 [qI,qI,qI]∧([qI,qI,qI]:List Lf).all jE=ab:=⟨⟨⟨2,by decide,ayG⟩,by kernel_rfl⟩,rfl⟩
def ayF:gN prog 141 ab [qI,qI,qI] 2:=by refine gN.struct (k:=1) underlying141 (by kernel_rfl) ?_;exact⟨by simp,rfl,ae,[qI],[qI,qI],[.int .i64 0],rfl,bj.of underlying3 rfl (by kernel_rfl),rfl,λ_=>rfl,sZ.up (by decide),⟨by simp,rfl,ae,[qI],[qI],[.int .i64 0],rfl,bj.of underlying3 rfl (by kernel_rfl),rfl,λ_=>rfl,sZ.up (by decide),⟨by simp,rfl,ae,[qI],[],[.int .i64 0],rfl,bj.of underlying3 rfl (by kernel_rfl),rfl,λ_=>rfl,sZ.up (by decide),rfl⟩⟩⟩
def ayB:zB prog 141 [qI,qI,qI]∧([qI,qI,qI]:List Lf).all jE=ab:=⟨⟨⟨2,by decide,ayF⟩,by kernel_rfl⟩,rfl⟩
def ayE:gN prog 151 ab [qI,qI,qI,qI] 3:=by refine gN.struct (k:=2) underlying151 (by kernel_rfl) ?_;exact⟨by simp,rfl,ab,[qI,qI],[qI,qI],[.int .i64 0,.int .i64 0],rfl,bj.of underlying80 rfl (by kernel_rfl),rfl,(λh=>by cases h),IG.up (by decide),⟨by simp,rfl,ab,[qI,qI],[],[.int .i64 0,.int .i64 0],rfl,bj.of underlying80 rfl (by kernel_rfl),rfl,(λh=>by cases h),IG.up (by decide),rfl⟩⟩
def ayA:zB prog 151 [qI,qI,qI,qI]∧([qI,qI,qI,qI]:List Lf).all jE=ab:=⟨⟨⟨3,by decide,ayE⟩,by kernel_rfl⟩,rfl⟩
def ayD:gN prog 163 ab [qI,qI,qI,qI] 2:=by refine gN.struct (k:=1) underlying163 (by kernel_rfl) ?_;exact⟨by simp,rfl,ae,[qI],[qI,qI,qI],[.int .i64 0],rfl,bj.of underlying3 rfl (by kernel_rfl),rfl,λ_=>rfl,sZ.up (by decide),⟨by simp,rfl,ae,[qI],[qI,qI],[.int .i64 0],rfl,bj.of underlying3 rfl (by kernel_rfl),rfl,λ_=>rfl,sZ.up (by decide),⟨by simp,rfl,ae,[qI],[qI],[.int .i64 0],rfl,bj.of underlying3 rfl (by kernel_rfl),rfl,λ_=>rfl,sZ.up (by decide),⟨by simp,rfl,ae,[qI],[],[.int .i64 0],rfl,bj.of underlying3 rfl (by kernel_rfl),rfl,λ_=>rfl,sZ.up (by decide),rfl⟩⟩⟩⟩
def ayz:zB prog 163 [qI,qI,qI,qI]∧([qI,qI,qI,qI]:List Lf).all jE=ab:=⟨⟨⟨2,by decide,ayD⟩,by kernel_rfl⟩,rfl⟩
instance:Flat cL:=⟨λh=>Flat.any (α:=Int×Int×Int) h⟩
instance:Flat Source:=⟨λh=>Flat.any (α:=Int×Int×Int) h⟩
instance:Flat gL:=⟨λh=>Flat.any (α:=Int×Int×Int) h⟩
instance:Flat bu:=⟨λh=>Flat.any (α:=Int×Int×Int×Int) h⟩
instance:Flat Part:=⟨λh=>Flat.any (α:=Int×Int) h⟩
instance:Flat eH:=⟨λh=>Flat.any (α:=Int×Int) h⟩
instance:Flat Act:=⟨λh=>Flat.any (α:=Int×Int×Int) h⟩
instance:Flat Event:=⟨λh=>Flat.any (α:=Int×Act×Int) h⟩
instance:Flat iP:=⟨λh=>Flat.any (α:=Int×Int) h⟩
instance:Flat fI:=⟨λh=>Flat.any (α:=Part×Part) h⟩
instance:Flat ld:=⟨λh=>Flat.any (α:=Int×Int×Int×Int) h⟩
instance:Flat ft:=⟨λh=>Flat.any (α:=Int×Int×Int) h⟩
instance:Flat fZ:=⟨λh=>Flat.any (α:=Int×Int) h⟩
instance:Flat ml:=⟨λh=>Flat.any (α:=Int×Int×Int) h⟩
instance:Flat fx:=⟨λh=>Flat.any (α:=Int×Int×Int) h⟩
instance:Flat iy:=⟨λh=>Flat.any (α:=Part×Bool) h⟩
instance:Flat eM:=⟨λh=>Flat.any (α:=Int×Int×Int×Int×Int×Int×Int×Int×Int) h⟩
instance:Flat gM:=⟨λh=>Flat.any (α:=Int×Int) h⟩
instance:Flat fA:=⟨λh=>Flat.any (α:=gM×Int×Int) h⟩
instance:Flat fy:=⟨λh=>Flat.any (α:=ByteArray×Int×fA×Int) h⟩
instance:Flat Target:=⟨λh=>Flat.any (α:=gM×Int) h⟩
theorem ayi:Flat (D 0):=(inferInstance:Flat Int)
theorem ayh:Flat (D 1):=(inferInstance:Flat Bool)
theorem ayd:Flat (D 9):=(inferInstance:Flat bu)
theorem VZ:Flat (D 10):=(inferInstance:Flat Part)
theorem ayg:Flat (D 11):=(inferInstance:Flat eH)
theorem ayf:Flat (D 12):=(inferInstance:Flat Event)
theorem aye:Flat (D 17):=(inferInstance:Flat iP)
def as8:JV prog D 13 3 0:=⟨(inferInstance:nD (List Int)),(inferInstance:Flat Int),bN.of underlying3 rfl (by kernel_rfl),rfl⟩
instance:nD bz:=⟨λh=>nD.loc (α:=(List Int)×(List Int)×(List Int)) h⟩
def as7:JV prog D 24 3 0:=⟨(inferInstance:nD bz),(inferInstance:Flat Int),bN.of underlying3 rfl (by kernel_rfl),rfl⟩
def ar8:JS prog T 148 80 4 28:=⟨underlying148,(mQ.struct (m:=2) (k:= .i64) underlying80 rfl (by decide) IG ⟨by simp,rfl,underlying3,⟨[.int .i64 0],bj.of underlying3 rfl (by kernel_rfl),rfl⟩,⟨by simp,rfl,underlying3,⟨[.int .i64 0],bj.of underlying3 rfl (by kernel_rfl),rfl⟩,trivial⟩⟩),rfl,.bool,rfl,bj.of underlying4 rfl (by kernel_rfl)⟩
def ar7:JS prog T 154 80 3 48:=⟨underlying154,(mQ.struct (m:=2) (k:= .i64) underlying80 rfl (by decide) IG ⟨by simp,rfl,underlying3,⟨[.int .i64 0],bj.of underlying3 rfl (by kernel_rfl),rfl⟩,⟨by simp,rfl,underlying3,⟨[.int .i64 0],bj.of underlying3 rfl (by kernel_rfl),rfl⟩,trivial⟩⟩),rfl,qI,rfl,bj.of underlying3 rfl (by kernel_rfl)⟩
def sD:ef prog T:=ef.of (⟨anH,ans,ank,am1,anW,anT,anP,anK,anG,anC,anA,anx,anw,anu,ant,anr,anq,anp,ano,ann,anm,anl,anj,ani,anh,ang,anf,ane,am',am_,am9,am8,am7,am6,am5,am4,am3,am2,am0,amZ,aog,aof,aoe,aod,aoc,aob,aoa,an',an_,an9,an8,an7,an6,an5,an4,an3,an2,an1,an0,anZ,anY,anX,anV,anU,anS,anR,anQ,anO,anN,anM,anL,anJ,anI,anF,anE,anD,anB,anz,anv,trivial⟩) (⟨GB,apr,apq,apo,apn,wG,apm,apl,apk,apj,GA,Gz,Gy,Gx,api,GC,apA,apz,apy,apx,apw,apv,apu,apt,aps,trivial⟩) (⟨axY,axV,axS,axP,axO,axN,axM,axL,axK,axJ,axI,axH,axG,axF,axE,axD,axC,axB,axA,ayc,ayb,aya,ax',ax_,ax9,ax8,ax7,ax6,ax5,ax4,ax3,ax2,ax1,ax0,axZ,axX,axW,axU,axT,axR,axQ,trivial⟩) (⟨ayy,ayC,ayB,ayA,ayz,trivial⟩) (⟨as8,as7,trivial⟩) (trivial) (⟨ar8,ar7,trivial⟩)
def pK:prog.follows .mixedOrders=ab:=by kernel_rfl
def uC(f:Func):Code:=match f.body with
 |some c=>c
 |none=> .skip
