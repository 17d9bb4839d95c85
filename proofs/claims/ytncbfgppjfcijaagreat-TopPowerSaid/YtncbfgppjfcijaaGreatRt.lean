import Derived.Test.YtncbfgppjfcijaaGreatRp
import Derived.Test.YtncbfgppjfcijaaGreatProg
import Derived.KernelRfl
set_option linter.unusedVariables false
namespace Go.Proofs.YtncbfgppjfcijaaGreat
open Go Go.RowKit Dp
namespace Rx
structure Src where
 L:(List Int)
 At:Int
def ZW(x:Src):(List Int)×Int:=(x.L,x.At)
instance:ab Src:=ab.via ZW ⟨ab.zero,ab.zero⟩ rfl
structure aO where
 Kind:Int
 A:Int
 B:Int
def aai(x:aO):Int×Int×Int:=(x.Kind,x.A,x.B)
instance:ab aO:=ab.via aai ⟨ab.zero,ab.zero,ab.zero⟩ rfl
structure Source where
 dg:Int
 dr:Int
 Start:Int
def ZX(x:Source):Int×Int×Int:=(x.dg,x.dr,x.Start)
instance:ab Source:=ab.via ZX ⟨ab.zero,ab.zero,ab.zero⟩ rfl
structure Consumer where
 cX:Int
 dr:Int
 iq:Int
 bm:Int
 bF:(List Int)
def aah(x:Consumer):Int×Int×Int×Int×(List Int):=(x.cX,x.dr,x.iq,x.bm,x.bF)
instance:ab Consumer:=ab.via aah ⟨ab.zero,ab.zero,ab.zero,ab.zero,ab.zero⟩ rfl
structure aj where
 ak:Int
 ad:(List aO)
 aa:(List Source)
 ai:(List Consumer)
 aG:Int
 aB:Int
def aaj(x:aj):Int×(List aO)×(List Source)×(List Consumer)×Int×Int:=(x.ak,x.ad,x.aa,x.ai,x.aG,x.aB)
instance:ab aj:=ab.via aaj ⟨ab.zero,ab.zero,ab.zero,ab.zero,ab.zero,ab.zero⟩ rfl
structure fL where
 Start:Int
 Stop:Int
 pb:Int
def ZV(x:fL):Int×Int×Int:=(x.Start,x.Stop,x.pb)
instance:ab fL:=ab.via ZV ⟨ab.zero,ab.zero,ab.zero⟩ rfl
structure aC where
 State:Int
 ew:Int
 aB:Int
 aG:Int
def Z0(x:aC):Int×Int×Int×Int:=(x.State,x.ew,x.aB,x.aG)
instance:ab aC:=ab.via Z0 ⟨ab.zero,ab.zero,ab.zero,ab.zero⟩ rfl
structure Part where
 Kind:Int
 Number:Int
def Z8(x:Part):Int×Int:=(x.Kind,x.Number)
instance:ab Part:=ab.via Z8 ⟨ab.zero,ab.zero⟩ rfl
structure ae where
 aq:(List Bool)
 aa:(List aC)
 aE:(List Int)
 aA:(List Part)
def Z5(x:ae):(List Bool)×(List aC)×(List Int)×(List Part):=(x.aq,x.aa,x.aE,x.aA)
instance:ab ae:=ab.via Z5 ⟨ab.zero,ab.zero,ab.zero,ab.zero⟩ rfl
structure bf where
 eD:Int
 eY:Int
def Z3(x:bf):Int×Int:=(x.eD,x.eY)
instance:ab bf:=ab.via Z3 ⟨ab.zero,ab.zero⟩ rfl
structure Act where
 Kind:Int
 Unit:Int
 Value:Int
def aam(x:Act):Int×Int×Int:=(x.Kind,x.Unit,x.Value)
instance:ab Act:=ab.via aam ⟨ab.zero,ab.zero,ab.zero⟩ rfl
structure Event where
 Time:Int
 Act:Act
 PH:Int
def aae(x:Event):Int×Act×Int:=(x.Time,x.Act,x.PH)
instance:ab Event:=ab.via aae ⟨ab.zero,ab.zero,ab.zero⟩ rfl
structure bE where
 Time:Int
 ae:ae
 kN:(List bf)
 np:(List Event)
def Z6(x:bE):Int×ae×(List bf)×(List Event):=(x.Time,x.ae,x.kN,x.np)
instance:ab bE:=ab.via Z6 ⟨ab.zero,ab.zero,ab.zero,ab.zero⟩ rfl
structure aR where
 ak:(List Int)
 aa:(List Int)
 ai:(List Int)
def aab(x:aR):(List Int)×(List Int)×(List Int):=(x.ak,x.aa,x.ai)
instance:ab aR:=ab.via aab ⟨ab.zero,ab.zero,ab.zero⟩ rfl
structure iD where
 bE:bE
 ax:aj
 events:(List Event)
 rJ:(List ae)
def Ry(x:iD):bE×aj×(List Event)×(List ae):=(x.bE,x.ax,x.events,x.rJ)
instance:ab iD:=ab.via Ry ⟨ab.zero,ab.zero,ab.zero,ab.zero⟩ rfl
structure kq where
 ax:aj
 aP:ae
 time:Int
def QJ(x:kq):aj×ae×Int:=(x.ax,x.aP,x.time)
instance:ab kq:=ab.via QJ ⟨ab.zero,ab.zero,ab.zero⟩ rfl
structure dP where
 ax:aj
 aP:ae
 mo:(List Act)
def RM(x:dP):aj×ae×(List Act):=(x.ax,x.aP,x.mo)
instance:ab dP:=ab.via RM ⟨ab.zero,ab.zero,ab.zero⟩ rfl
structure eO where
 tI:Int
 To:Int
def aak(x:eO):Int×Int:=(x.tI,x.To)
instance:ab eO:=ab.via aak ⟨ab.zero,ab.zero⟩ rfl
structure bm where
 Kind:Int
 nW:Int
 Max:Int
 qg:Int
 cY:Int
 km:(List eO)
def ZT(x:bm):Int×Int×Int×Int×Int×(List eO):=(x.Kind,x.nW,x.Max,x.qg,x.cY,x.km)
instance:ab bm:=ab.via ZT ⟨ab.zero,ab.zero,ab.zero,ab.zero,ab.zero,ab.zero⟩ rfl
structure gu where
 gz:Int
 fZ:Int
 bN:(List bm)
def ZY(x:gu):Int×Int×(List bm):=(x.gz,x.fZ,x.bN)
instance:ab gu:=ab.via ZY ⟨ab.zero,ab.zero,ab.zero⟩ rfl
structure du where
 X:Int
 Y:Int
def ZU(x:du):Int×Int:=(x.X,x.Y)
instance:ab du:=ab.via ZU ⟨ab.zero,ab.zero⟩ rfl
structure ja where
 ms:Int
 gz:Int
 fZ:Int
def aag(x:ja):Int×Int×Int:=(x.ms,x.gz,x.fZ)
instance:ab ja:=ab.via aag ⟨ab.zero,ab.zero,ab.zero⟩ rfl
structure zm where
 Pp:(List du)
 v_:ja
 v9:ja
def aal(x:zm):(List du)×ja×ja:=(x.Pp,x.v_,x.v9)
instance:ab zm:=ab.via aal ⟨ab.zero,ab.zero,ab.zero⟩ rfl
structure kX where
 qv:(List bm)
 last:(List du)
def Sy(x:kX):(List bm)×(List du):=(x.qv,x.last)
instance:ab kX:=ab.via Sy ⟨ab.zero,ab.zero⟩ rfl
structure dH where
 eY:Int
 eD:Int
 cY:Int
def ZZ(x:dH):Int×Int×Int:=(x.eY,x.eD,x.cY)
instance:ab dH:=ab.via ZZ ⟨ab.zero,ab.zero,ab.zero⟩ rfl
structure xj where
 ax:aj
 aP:ae
 Nt:(List Bool)
 mo:(List Act)
def R8(x:xj):aj×ae×(List Bool)×(List Act):=(x.ax,x.aP,x.Nt,x.mo)
instance:ab xj:=ab.via R8 ⟨ab.zero,ab.zero,ab.zero,ab.zero⟩ rfl
@[reducible] def D (n:Nat):Type:=match n with
  |0=>Int
  |1=>Bool
  |2=>ByteArray
  |3=>Src
  |4=>aj
  |5=>aO
  |6=>Source
  |7=>Consumer
  |8=>fL
  |9=>bE
  |10=>aC
  |11=>Part
  |12=>bf
  |13=>Event
  |14=>ae
  |15=>aR
  |16=>Act
  |17=>iD
  |18=>(List Int)
  |19=>kq
  |20=>dP
  |21=>gu
  |22=>bm
  |23=>eO
  |24=>du
  |25=>ja
  |26=>zm
  |27=>kX
  |28=>dH
  |29=>xj
  |_=>Int
instance apI(n:Nat):ab (D n):=match n with
 |0=>inferInstanceAs (ab Int)
 |1=>inferInstanceAs (ab Bool)
 |2=>inferInstanceAs (ab ByteArray)
 |3=>inferInstanceAs (ab Src)
 |4=>inferInstanceAs (ab aj)
 |5=>inferInstanceAs (ab aO)
 |6=>inferInstanceAs (ab Source)
 |7=>inferInstanceAs (ab Consumer)
 |8=>inferInstanceAs (ab fL)
 |9=>inferInstanceAs (ab bE)
 |10=>inferInstanceAs (ab aC)
 |11=>inferInstanceAs (ab Part)
 |12=>inferInstanceAs (ab bf)
 |13=>inferInstanceAs (ab Event)
 |14=>inferInstanceAs (ab ae)
 |15=>inferInstanceAs (ab aR)
 |16=>inferInstanceAs (ab Act)
 |17=>inferInstanceAs (ab iD)
 |18=>inferInstanceAs (ab (List Int))
 |19=>inferInstanceAs (ab kq)
 |20=>inferInstanceAs (ab dP)
 |21=>inferInstanceAs (ab gu)
 |22=>inferInstanceAs (ab bm)
 |23=>inferInstanceAs (ab eO)
 |24=>inferInstanceAs (ab du)
 |25=>inferInstanceAs (ab ja)
 |26=>inferInstanceAs (ab zm)
 |27=>inferInstanceAs (ab kX)
 |28=>inferInstanceAs (ab dH)
 |29=>inferInstanceAs (ab xj)
 |_+30=>inferInstanceAs (ab Int)
def Je(n:Nat):List Lf:=match n with
 |0=>[(.int .i64)]
 |1=>[.bool]
 |2=>[.str]
 |3=>[(.sl 0),(.int .i64)]
 |4=>[(.int .i64),(.sl 5),(.sl 6),(.sl 7),(.int .i64),(.int .i64)]
 |5=>[(.int .i64),(.int .i64),(.int .i64)]
 |6=>[(.int .i64),(.int .i64),(.int .i64)]
 |7=>[(.int .i64),(.int .i64),(.int .i64),(.int .i64),(.sl 0)]
 |8=>[(.int .i64),(.int .i64),(.int .i64)]
 |9=>[(.int .i64),(.sl 1),(.sl 10),(.sl 0),(.sl 11),(.sl 12),(.sl 13)]
 |10=>[(.int .i64),(.int .i64),(.int .i64),(.int .i64)]
 |11=>[(.int .i64),(.int .i64)]
 |12=>[(.int .i64),(.int .i64)]
 |13=>[(.int .i64),(.int .i64),(.int .i64),(.int .i64),(.int .i64)]
 |14=>[(.sl 1),(.sl 10),(.sl 0),(.sl 11)]
 |15=>[(.sl 0),(.sl 0),(.sl 0)]
 |16=>[(.int .i64),(.int .i64),(.int .i64)]
 |17=>[(.int .i64),(.sl 1),(.sl 10),(.sl 0),(.sl 11),(.sl 12),(.sl 13),(.int .i64),(.sl 5),(.sl 6),(.sl 7),(.int .i64),(.int .i64),(.sl 13),(.sl 14)]
 |18=>[(.sl 0)]
 |19=>[(.int .i64),(.sl 5),(.sl 6),(.sl 7),(.int .i64),(.int .i64),(.sl 1),(.sl 10),(.sl 0),(.sl 11),(.int .i64)]
 |20=>[(.int .i64),(.sl 5),(.sl 6),(.sl 7),(.int .i64),(.int .i64),(.sl 1),(.sl 10),(.sl 0),(.sl 11),(.sl 16)]
 |21=>[(.int .i64),(.int .i64),(.sl 22)]
 |22=>[(.int .i64),(.int .i64),(.int .i64),(.int .i64),(.int .i64),(.sl 23)]
 |23=>[(.int .i64),(.int .i64)]
 |24=>[(.int .i64),(.int .i64)]
 |25=>[(.int .i64),(.int .i64),(.int .i64)]
 |26=>[(.sl 24),(.int .i64),(.int .i64),(.int .i64),(.int .i64),(.int .i64),(.int .i64)]
 |27=>[(.sl 22),(.sl 24)]
 |28=>[(.int .i64),(.int .i64),(.int .i64)]
 |29=>[(.int .i64),(.sl 5),(.sl 6),(.sl 7),(.int .i64),(.int .i64),(.sl 1),(.sl 10),(.sl 0),(.sl 11),(.sl 1),(.sl 16)]
 |_=>[.int .i64]
def acF(n:Nat):Bool:=match n with
 |0=>false
 |1=>false
 |2=>false
 |3=>true
 |4=>true
 |5=>true
 |6=>true
 |7=>true
 |8=>true
 |9=>true
 |10=>true
 |11=>true
 |12=>true
 |13=>true
 |14=>true
 |15=>true
 |16=>true
 |17=>true
 |18=>false
 |19=>true
 |20=>true
 |21=>true
 |22=>true
 |23=>true
 |24=>true
 |25=>true
 |26=>true
 |27=>true
 |28=>true
 |29=>true
 |_=>false
def acD:∀n:Nat,D n→HL D (Je n)
 |0=>fun x=>x
 |1=>fun x=>x
 |2=>fun x=>x
 |3=>fun x=>(x.L,x.At)
 |4=>fun x=>(x.ak,x.ad,x.aa,x.ai,x.aG,x.aB)
 |5=>fun x=>(x.Kind,x.A,x.B)
 |6=>fun x=>(x.dg,x.dr,x.Start)
 |7=>fun x=>(x.cX,x.dr,x.iq,x.bm,x.bF)
 |8=>fun x=>(x.Start,x.Stop,x.pb)
 |9=>fun x=>(x.Time,x.ae.aq,x.ae.aa,x.ae.aE,x.ae.aA,x.kN,x.np)
 |10=>fun x=>(x.State,x.ew,x.aB,x.aG)
 |11=>fun x=>(x.Kind,x.Number)
 |12=>fun x=>(x.eD,x.eY)
 |13=>fun x=>(x.Time,x.Act.Kind,x.Act.Unit,x.Act.Value,x.PH)
 |14=>fun x=>(x.aq,x.aa,x.aE,x.aA)
 |15=>fun x=>(x.ak,x.aa,x.ai)
 |16=>fun x=>(x.Kind,x.Unit,x.Value)
 |17=>fun x=>(x.bE.Time,x.bE.ae.aq,x.bE.ae.aa,x.bE.ae.aE,x.bE.ae.aA,x.bE.kN,x.bE.np,x.ax.ak,x.ax.ad,x.ax.aa,x.ax.ai,x.ax.aG,x.ax.aB,x.events,x.rJ)
 |18=>fun x=>x
 |19=>fun x=>(x.ax.ak,x.ax.ad,x.ax.aa,x.ax.ai,x.ax.aG,x.ax.aB,x.aP.aq,x.aP.aa,x.aP.aE,x.aP.aA,x.time)
 |20=>fun x=>(x.ax.ak,x.ax.ad,x.ax.aa,x.ax.ai,x.ax.aG,x.ax.aB,x.aP.aq,x.aP.aa,x.aP.aE,x.aP.aA,x.mo)
 |21=>fun x=>(x.gz,x.fZ,x.bN)
 |22=>fun x=>(x.Kind,x.nW,x.Max,x.qg,x.cY,x.km)
 |23=>fun x=>(x.tI,x.To)
 |24=>fun x=>(x.X,x.Y)
 |25=>fun x=>(x.ms,x.gz,x.fZ)
 |26=>fun x=>(x.Pp,x.v_.ms,x.v_.gz,x.v_.fZ,x.v9.ms,x.v9.gz,x.v9.fZ)
 |27=>fun x=>(x.qv,x.last)
 |28=>fun x=>(x.eY,x.eD,x.cY)
 |29=>fun x=>(x.ax.ak,x.ax.ad,x.ax.aa,x.ax.ai,x.ax.aG,x.ax.aB,x.aP.aq,x.aP.aa,x.aP.aE,x.aP.aA,x.Nt,x.mo)
 |_+30=>fun x=>x
def acE:∀n:Nat,HL D (Je n)→D n
 |0=>fun h=>h
 |1=>fun h=>h
 |2=>fun h=>h
 |3=>fun h=>⟨h.1,h.2⟩
 |4=>fun h=>⟨h.1,h.2.1,h.2.2.1,h.2.2.2.1,h.2.2.2.2.1,h.2.2.2.2.2⟩
 |5=>fun h=>⟨h.1,h.2.1,h.2.2⟩
 |6=>fun h=>⟨h.1,h.2.1,h.2.2⟩
 |7=>fun h=>⟨h.1,h.2.1,h.2.2.1,h.2.2.2.1,h.2.2.2.2⟩
 |8=>fun h=>⟨h.1,h.2.1,h.2.2⟩
 |9=>fun h=>⟨h.1,⟨h.2.1,h.2.2.1,h.2.2.2.1,h.2.2.2.2.1⟩,h.2.2.2.2.2.1,h.2.2.2.2.2.2⟩
 |10=>fun h=>⟨h.1,h.2.1,h.2.2.1,h.2.2.2⟩
 |11=>fun h=>⟨h.1,h.2⟩
 |12=>fun h=>⟨h.1,h.2⟩
 |13=>fun h=>⟨h.1,⟨h.2.1,h.2.2.1,h.2.2.2.1⟩,h.2.2.2.2⟩
 |14=>fun h=>⟨h.1,h.2.1,h.2.2.1,h.2.2.2⟩
 |15=>fun h=>⟨h.1,h.2.1,h.2.2⟩
 |16=>fun h=>⟨h.1,h.2.1,h.2.2⟩
 |17=>fun h=>⟨⟨h.1,⟨h.2.1,h.2.2.1,h.2.2.2.1,h.2.2.2.2.1⟩,h.2.2.2.2.2.1,h.2.2.2.2.2.2.1⟩,⟨h.2.2.2.2.2.2.2.1,h.2.2.2.2.2.2.2.2.1,h.2.2.2.2.2.2.2.2.2.1,h.2.2.2.2.2.2.2.2.2.2.1,h.2.2.2.2.2.2.2.2.2.2.2.1,h.2.2.2.2.2.2.2.2.2.2.2.2.1⟩,h.2.2.2.2.2.2.2.2.2.2.2.2.2.1,h.2.2.2.2.2.2.2.2.2.2.2.2.2.2⟩
 |18=>fun h=>h
 |19=>fun h=>⟨⟨h.1,h.2.1,h.2.2.1,h.2.2.2.1,h.2.2.2.2.1,h.2.2.2.2.2.1⟩,⟨h.2.2.2.2.2.2.1,h.2.2.2.2.2.2.2.1,h.2.2.2.2.2.2.2.2.1,h.2.2.2.2.2.2.2.2.2.1⟩,h.2.2.2.2.2.2.2.2.2.2⟩
 |20=>fun h=>⟨⟨h.1,h.2.1,h.2.2.1,h.2.2.2.1,h.2.2.2.2.1,h.2.2.2.2.2.1⟩,⟨h.2.2.2.2.2.2.1,h.2.2.2.2.2.2.2.1,h.2.2.2.2.2.2.2.2.1,h.2.2.2.2.2.2.2.2.2.1⟩,h.2.2.2.2.2.2.2.2.2.2⟩
 |21=>fun h=>⟨h.1,h.2.1,h.2.2⟩
 |22=>fun h=>⟨h.1,h.2.1,h.2.2.1,h.2.2.2.1,h.2.2.2.2.1,h.2.2.2.2.2⟩
 |23=>fun h=>⟨h.1,h.2⟩
 |24=>fun h=>⟨h.1,h.2⟩
 |25=>fun h=>⟨h.1,h.2.1,h.2.2⟩
 |26=>fun h=>⟨h.1,⟨h.2.1,h.2.2.1,h.2.2.2.1⟩,⟨h.2.2.2.2.1,h.2.2.2.2.2.1,h.2.2.2.2.2.2⟩⟩
 |27=>fun h=>⟨h.1,h.2⟩
 |28=>fun h=>⟨h.1,h.2.1,h.2.2⟩
 |29=>fun h=>⟨⟨h.1,h.2.1,h.2.2.1,h.2.2.2.1,h.2.2.2.2.1,h.2.2.2.2.2.1⟩,⟨h.2.2.2.2.2.2.1,h.2.2.2.2.2.2.2.1,h.2.2.2.2.2.2.2.2.1,h.2.2.2.2.2.2.2.2.2.1⟩,h.2.2.2.2.2.2.2.2.2.2.1,h.2.2.2.2.2.2.2.2.2.2.2⟩
 |_+30=>fun h=>h
def acC:∀n:Nat,D n
 |0=>(0:Int)
 |1=>false
 |2=>ByteArray.empty
 |3=>(⟨[],(0:Int)⟩:Src)
 |4=>(⟨(0:Int),[],[],[],(0:Int),(0:Int)⟩:aj)
 |5=>(⟨(0:Int),(0:Int),(0:Int)⟩:aO)
 |6=>(⟨(0:Int),(0:Int),(0:Int)⟩:Source)
 |7=>(⟨(0:Int),(0:Int),(0:Int),(0:Int),[]⟩:Consumer)
 |8=>(⟨(0:Int),(0:Int),(0:Int)⟩:fL)
 |9=>(⟨(0:Int),⟨[],[],[],[]⟩,[],[]⟩:bE)
 |10=>(⟨(0:Int),(0:Int),(0:Int),(0:Int)⟩:aC)
 |11=>(⟨(0:Int),(0:Int)⟩:Part)
 |12=>(⟨(0:Int),(0:Int)⟩:bf)
 |13=>(⟨(0:Int),⟨(0:Int),(0:Int),(0:Int)⟩,(0:Int)⟩:Event)
 |14=>(⟨[],[],[],[]⟩:ae)
 |15=>(⟨[],[],[]⟩:aR)
 |16=>(⟨(0:Int),(0:Int),(0:Int)⟩:Act)
 |17=>(⟨⟨(0:Int),⟨[],[],[],[]⟩,[],[]⟩,⟨(0:Int),[],[],[],(0:Int),(0:Int)⟩,[],[]⟩:iD)
 |18=>([]:(List Int))
 |19=>(⟨⟨(0:Int),[],[],[],(0:Int),(0:Int)⟩,⟨[],[],[],[]⟩,(0:Int)⟩:kq)
 |20=>(⟨⟨(0:Int),[],[],[],(0:Int),(0:Int)⟩,⟨[],[],[],[]⟩,[]⟩:dP)
 |21=>(⟨(0:Int),(0:Int),[]⟩:gu)
 |22=>(⟨(0:Int),(0:Int),(0:Int),(0:Int),(0:Int),[]⟩:bm)
 |23=>(⟨(0:Int),(0:Int)⟩:eO)
 |24=>(⟨(0:Int),(0:Int)⟩:du)
 |25=>(⟨(0:Int),(0:Int),(0:Int)⟩:ja)
 |26=>(⟨[],⟨(0:Int),(0:Int),(0:Int)⟩,⟨(0:Int),(0:Int),(0:Int)⟩⟩:zm)
 |27=>(⟨[],[]⟩:kX)
 |28=>(⟨(0:Int),(0:Int),(0:Int)⟩:dH)
 |29=>(⟨⟨(0:Int),[],[],[],(0:Int),(0:Int)⟩,⟨[],[],[],[]⟩,[],[]⟩:xj)
 |_+30=>(0:Int)
def T:aV D where
 lv:=Je
 ag:=acF
 xl:=acD
 uu:=acE
 zero:=acC
 ty:=[(3,.one (.int .i64)),(4,.one .bool),(22,.one (.sl 0)),(23,.ptr),(25,.one (.sl 5)),(26,.one (.sl 6)),(27,.one (.sl 7)),(29,.st 4),(32,.st 8),(34,.one (.sl 1)),(35,.one (.sl 10)),(36,.one (.sl 11)),(38,.st 14),(39,.one (.sl 12)),(40,.one (.sl 13)),(42,.st 9),(44,.one (.int .i64)),(47,.one (.sl 16)),(49,.one (.sl 22)),(51,.st 21),(55,.one (.sl 24)),(57,.st 25),(59,.st 26),(64,.st 24),(67,.one (.sl 23)),(69,.st 22),(71,.st 7),(76,.st 3),(81,.st 5),(83,.st 6),(86,.st 12),(87,.ptr),(90,.one (.sl 14)),(92,.st 17),(94,.st 16),(103,.st 27),(108,.one (.sl 28)),(121,.fn),(139,.st 13),(141,.st 23),(148,.st 10),(161,.st 28),(172,.st 15),(177,.st 11),(187,.ptr),(190,.st 29),(194,.one (.sl 15)),(206,.ptr),(208,.st 19),(228,.one (.int .u64)),(232,.ptr),(266,.one (.sl 18)),(274,.one (.int .u64)),(278,.st 20)]
 oR:=[(29,[(0,1),(1,1),(2,1),(3,1),(4,1),(5,1)]),(32,[(0,1),(1,1),(2,1)]),(38,[(0,1),(1,1),(2,1),(3,1)]),(42,[(0,1),(1,4),(5,1),(6,1)]),(51,[(0,1),(1,1),(2,1)]),(57,[(0,1),(1,1),(2,1)]),(59,[(0,1),(1,3),(4,3)]),(64,[(0,1),(1,1)]),(69,[(0,1),(1,1),(2,1),(3,1),(4,1),(5,1)]),(71,[(0,1),(1,1),(2,1),(3,1),(4,1)]),(76,[(0,1),(1,1)]),(81,[(0,1),(1,1),(2,1)]),(83,[(0,1),(1,1),(2,1)]),(86,[(0,1),(1,1)]),(92,[(0,7),(7,6),(13,1),(14,1)]),(94,[(0,1),(1,1),(2,1)]),(103,[(0,1),(1,1)]),(139,[(0,1),(1,3),(4,1)]),(141,[(0,1),(1,1)]),(148,[(0,1),(1,1),(2,1),(3,1)]),(161,[(0,1),(1,1),(2,1)]),(172,[(0,1),(1,1),(2,1)]),(177,[(0,1),(1,1)]),(190,[(0,6),(6,4),(10,1),(11,1)]),(208,[(0,6),(6,4),(10,1)]),(278,[(0,6),(6,4),(10,1)])]
 bS:=[(22,3,0),(25,81,5),(26,83,6),(27,71,7),(34,4,1),(35,148,10),(36,177,11),(39,86,12),(40,139,13),(47,94,16),(49,69,22),(55,64,24),(67,141,23),(90,38,14),(108,161,28),(194,172,15),(266,22,18)]
 vD:=[(81,[(.int .i64),(.int .i64),(.int .i64)]),(148,[(.int .i64),(.int .i64),(.int .i64),(.int .i64)]),(177,[(.int .i64),(.int .i64)])]
 kd:=[(15,3,0),(18,3,0)]
 ml:=[]
 pre:=[143402,159786,192554]
 ou:=[]
theorem rd3:aD D Src (fun x=>[⟨(.sl 0),x.L⟩,⟨(.int .i64),x.At⟩]):=fun S w cs x=>(aD.prod (aD.sl 0) (aD.int):aD D ((List Int)×Int) _) S w cs (ZW x)
theorem rd5:aD D aO (fun x=>[⟨(.int .i64),x.Kind⟩,⟨(.int .i64),x.A⟩,⟨(.int .i64),x.B⟩]):=fun S w cs x=>(aD.prod aD.int (aD.prod aD.int (aD.int)):aD D (Int×Int×Int) _) S w cs (aai x)
theorem rd6:aD D Source (fun x=>[⟨(.int .i64),x.dg⟩,⟨(.int .i64),x.dr⟩,⟨(.int .i64),x.Start⟩]):=fun S w cs x=>(aD.prod aD.int (aD.prod aD.int (aD.int)):aD D (Int×Int×Int) _) S w cs (ZX x)
theorem rd7:aD D Consumer (fun x=>[⟨(.int .i64),x.cX⟩,⟨(.int .i64),x.dr⟩,⟨(.int .i64),x.iq⟩,⟨(.int .i64),x.bm⟩,⟨(.sl 0),x.bF⟩]):=fun S w cs x=>(aD.prod aD.int (aD.prod aD.int (aD.prod aD.int (aD.prod aD.int ((aD.sl 0))))):aD D (Int×Int×Int×Int×(List Int)) _) S w cs (aah x)
theorem AJ:aD D aj (fun x=>[⟨(.int .i64),x.ak⟩,⟨(.sl 5),x.ad⟩,⟨(.sl 6),x.aa⟩,⟨(.sl 7),x.ai⟩,⟨(.int .i64),x.aG⟩,⟨(.int .i64),x.aB⟩]):=fun S w cs x=>(aD.prod aD.int (aD.prod (aD.sl 5) (aD.prod (aD.sl 6) (aD.prod (aD.sl 7) (aD.prod aD.int (aD.int))))):aD D (Int×(List aO)×(List Source)×(List Consumer)×Int×Int) _) S w cs (aaj x)
theorem rd8:aD D fL (fun x=>[⟨(.int .i64),x.Start⟩,⟨(.int .i64),x.Stop⟩,⟨(.int .i64),x.pb⟩]):=fun S w cs x=>(aD.prod aD.int (aD.prod aD.int (aD.int)):aD D (Int×Int×Int) _) S w cs (ZV x)
theorem aep:aD D aC (fun x=>[⟨(.int .i64),x.State⟩,⟨(.int .i64),x.ew⟩,⟨(.int .i64),x.aB⟩,⟨(.int .i64),x.aG⟩]):=fun S w cs x=>(aD.prod aD.int (aD.prod aD.int (aD.prod aD.int (aD.int))):aD D (Int×Int×Int×Int) _) S w cs (Z0 x)
theorem aeo:aD D Part (fun x=>[⟨(.int .i64),x.Kind⟩,⟨(.int .i64),x.Number⟩]):=fun S w cs x=>(aD.prod aD.int (aD.int):aD D (Int×Int) _) S w cs (Z8 x)
theorem AK:aD D ae (fun x=>[⟨(.sl 1),x.aq⟩,⟨(.sl 10),x.aa⟩,⟨(.sl 0),x.aE⟩,⟨(.sl 11),x.aA⟩]):=fun S w cs x=>(aD.prod (aD.sl 1) (aD.prod (aD.sl 10) (aD.prod (aD.sl 0) ((aD.sl 11)))):aD D ((List Bool)×(List aC)×(List Int)×(List Part)) _) S w cs (Z5 x)
theorem aen:aD D bf (fun x=>[⟨(.int .i64),x.eD⟩,⟨(.int .i64),x.eY⟩]):=fun S w cs x=>(aD.prod aD.int (aD.int):aD D (Int×Int) _) S w cs (Z3 x)
theorem RZ:aD D Act (fun x=>[⟨(.int .i64),x.Kind⟩,⟨(.int .i64),x.Unit⟩,⟨(.int .i64),x.Value⟩]):=fun S w cs x=>(aD.prod aD.int (aD.prod aD.int (aD.int)):aD D (Int×Int×Int) _) S w cs (aam x)
theorem aem:aD D Event (fun x=>[⟨(.int .i64),x.Time⟩,⟨(.int .i64),x.Act.Kind⟩,⟨(.int .i64),x.Act.Unit⟩,⟨(.int .i64),x.Act.Value⟩,⟨(.int .i64),x.PH⟩]):=fun S w cs x=>(aD.prod aD.int (aD.prod RZ (aD.int)):aD D (Int×Act×Int) _) S w cs (aae x)
theorem RY:aD D bE (fun x=>[⟨(.int .i64),x.Time⟩,⟨(.sl 1),x.ae.aq⟩,⟨(.sl 10),x.ae.aa⟩,⟨(.sl 0),x.ae.aE⟩,⟨(.sl 11),x.ae.aA⟩,⟨(.sl 12),x.kN⟩,⟨(.sl 13),x.np⟩]):=fun S w cs x=>(aD.prod aD.int (aD.prod AK (aD.prod (aD.sl 12) ((aD.sl 13)))):aD D (Int×ae×(List bf)×(List Event)) _) S w cs (Z6 x)
theorem ael:aD D aR (fun x=>[⟨(.sl 0),x.ak⟩,⟨(.sl 0),x.aa⟩,⟨(.sl 0),x.ai⟩]):=fun S w cs x=>(aD.prod (aD.sl 0) (aD.prod (aD.sl 0) ((aD.sl 0))):aD D ((List Int)×(List Int)×(List Int)) _) S w cs (aab x)
theorem aek:aD D iD (fun x=>[⟨(.int .i64),x.bE.Time⟩,⟨(.sl 1),x.bE.ae.aq⟩,⟨(.sl 10),x.bE.ae.aa⟩,⟨(.sl 0),x.bE.ae.aE⟩,⟨(.sl 11),x.bE.ae.aA⟩,⟨(.sl 12),x.bE.kN⟩,⟨(.sl 13),x.bE.np⟩,⟨(.int .i64),x.ax.ak⟩,⟨(.sl 5),x.ax.ad⟩,⟨(.sl 6),x.ax.aa⟩,⟨(.sl 7),x.ax.ai⟩,⟨(.int .i64),x.ax.aG⟩,⟨(.int .i64),x.ax.aB⟩,⟨(.sl 13),x.events⟩,⟨(.sl 14),x.rJ⟩]):=fun S w cs x=>(aD.prod RY (aD.prod AJ (aD.prod (aD.sl 13) ((aD.sl 14)))):aD D (bE×aj×(List Event)×(List ae)) _) S w cs (Ry x)
theorem aei:aD D kq (fun x=>[⟨(.int .i64),x.ax.ak⟩,⟨(.sl 5),x.ax.ad⟩,⟨(.sl 6),x.ax.aa⟩,⟨(.sl 7),x.ax.ai⟩,⟨(.int .i64),x.ax.aG⟩,⟨(.int .i64),x.ax.aB⟩,⟨(.sl 1),x.aP.aq⟩,⟨(.sl 10),x.aP.aa⟩,⟨(.sl 0),x.aP.aE⟩,⟨(.sl 11),x.aP.aA⟩,⟨(.int .i64),x.time⟩]):=fun S w cs x=>(aD.prod AJ (aD.prod AK (aD.int)):aD D (aj×ae×Int) _) S w cs (QJ x)
theorem aeh:aD D dP (fun x=>[⟨(.int .i64),x.ax.ak⟩,⟨(.sl 5),x.ax.ad⟩,⟨(.sl 6),x.ax.aa⟩,⟨(.sl 7),x.ax.ai⟩,⟨(.int .i64),x.ax.aG⟩,⟨(.int .i64),x.ax.aB⟩,⟨(.sl 1),x.aP.aq⟩,⟨(.sl 10),x.aP.aa⟩,⟨(.sl 0),x.aP.aE⟩,⟨(.sl 11),x.aP.aA⟩,⟨(.sl 16),x.mo⟩]):=fun S w cs x=>(aD.prod AJ (aD.prod AK ((aD.sl 16))):aD D (aj×ae×(List Act)) _) S w cs (RM x)
theorem aee:aD D eO (fun x=>[⟨(.int .i64),x.tI⟩,⟨(.int .i64),x.To⟩]):=fun S w cs x=>(aD.prod aD.int (aD.int):aD D (Int×Int) _) S w cs (aak x)
theorem aef:aD D bm (fun x=>[⟨(.int .i64),x.Kind⟩,⟨(.int .i64),x.nW⟩,⟨(.int .i64),x.Max⟩,⟨(.int .i64),x.qg⟩,⟨(.int .i64),x.cY⟩,⟨(.sl 23),x.km⟩]):=fun S w cs x=>(aD.prod aD.int (aD.prod aD.int (aD.prod aD.int (aD.prod aD.int (aD.prod aD.int ((aD.sl 23)))))):aD D (Int×Int×Int×Int×Int×(List eO)) _) S w cs (ZT x)
theorem aeg:aD D gu (fun x=>[⟨(.int .i64),x.gz⟩,⟨(.int .i64),x.fZ⟩,⟨(.sl 22),x.bN⟩]):=fun S w cs x=>(aD.prod aD.int (aD.prod aD.int ((aD.sl 22))):aD D (Int×Int×(List bm)) _) S w cs (ZY x)
theorem aed:aD D du (fun x=>[⟨(.int .i64),x.X⟩,⟨(.int .i64),x.Y⟩]):=fun S w cs x=>(aD.prod aD.int (aD.int):aD D (Int×Int) _) S w cs (ZU x)
theorem Kq:aD D ja (fun x=>[⟨(.int .i64),x.ms⟩,⟨(.int .i64),x.gz⟩,⟨(.int .i64),x.fZ⟩]):=fun S w cs x=>(aD.prod aD.int (aD.prod aD.int (aD.int)):aD D (Int×Int×Int) _) S w cs (aag x)
theorem aec:aD D zm (fun x=>[⟨(.sl 24),x.Pp⟩,⟨(.int .i64),x.v_.ms⟩,⟨(.int .i64),x.v_.gz⟩,⟨(.int .i64),x.v_.fZ⟩,⟨(.int .i64),x.v9.ms⟩,⟨(.int .i64),x.v9.gz⟩,⟨(.int .i64),x.v9.fZ⟩]):=fun S w cs x=>(aD.prod (aD.sl 24) (aD.prod Kq (Kq)):aD D ((List du)×ja×ja) _) S w cs (aal x)
theorem aeb:aD D kX (fun x=>[⟨(.sl 22),x.qv⟩,⟨(.sl 24),x.last⟩]):=fun S w cs x=>(aD.prod (aD.sl 22) ((aD.sl 24)):aD D ((List bm)×(List du)) _) S w cs (Sy x)
theorem aea:aD D dH (fun x=>[⟨(.int .i64),x.eY⟩,⟨(.int .i64),x.eD⟩,⟨(.int .i64),x.cY⟩]):=fun S w cs x=>(aD.prod aD.int (aD.prod aD.int (aD.int)):aD D (Int×Int×Int) _) S w cs (ZZ x)
theorem ad':aD D xj (fun x=>[⟨(.int .i64),x.ax.ak⟩,⟨(.sl 5),x.ax.ad⟩,⟨(.sl 6),x.ax.aa⟩,⟨(.sl 7),x.ax.ai⟩,⟨(.int .i64),x.ax.aG⟩,⟨(.int .i64),x.ax.aB⟩,⟨(.sl 1),x.aP.aq⟩,⟨(.sl 10),x.aP.aa⟩,⟨(.sl 0),x.aP.aE⟩,⟨(.sl 11),x.aP.aA⟩,⟨(.sl 1),x.Nt⟩,⟨(.sl 16),x.mo⟩]):=fun S w cs x=>(aD.prod AJ (aD.prod AK (aD.prod (aD.sl 1) ((aD.sl 16)))):aD D (aj×ae×(List Bool)×(List Act)) _) S w cs (R8 x)
theorem aej:aD D (List Int) (fun x=>[⟨.sl 0,x⟩]):=aD.sl 0
theorem fD:bQ T where
 sz:=fun n=>match n with
  |0=>rfl
  |1=>rfl
  |2=>rfl
  |3=>rfl
  |4=>rfl
  |5=>rfl
  |6=>rfl
  |7=>rfl
  |8=>rfl
  |9=>rfl
  |10=>rfl
  |11=>rfl
  |12=>rfl
  |13=>rfl
  |14=>rfl
  |15=>rfl
  |16=>rfl
  |17=>rfl
  |18=>rfl
  |19=>rfl
  |20=>rfl
  |21=>rfl
  |22=>rfl
  |23=>rfl
  |24=>rfl
  |25=>rfl
  |26=>rfl
  |27=>rfl
  |28=>rfl
  |29=>rfl
  |_+30=>rfl
 ag:=fun n=>match n with
  |0=>rfl
  |1=>rfl
  |2=>rfl
  |3=>rfl
  |4=>rfl
  |5=>rfl
  |6=>rfl
  |7=>rfl
  |8=>rfl
  |9=>rfl
  |10=>rfl
  |11=>rfl
  |12=>rfl
  |13=>rfl
  |14=>rfl
  |15=>rfl
  |16=>rfl
  |17=>rfl
  |18=>rfl
  |19=>rfl
  |20=>rfl
  |21=>rfl
  |22=>rfl
  |23=>rfl
  |24=>rfl
  |25=>rfl
  |26=>rfl
  |27=>rfl
  |28=>rfl
  |29=>rfl
  |_+30=>rfl
 zc:=fun n=>match n with
  |0=>rfl
  |1=>rfl
  |2=>rfl
  |3=>rfl
  |4=>rfl
  |5=>rfl
  |6=>rfl
  |7=>rfl
  |8=>rfl
  |9=>rfl
  |10=>rfl
  |11=>rfl
  |12=>rfl
  |13=>rfl
  |14=>rfl
  |15=>rfl
  |16=>rfl
  |17=>rfl
  |18=>rfl
  |19=>rfl
  |20=>rfl
  |21=>rfl
  |22=>rfl
  |23=>rfl
  |24=>rfl
  |25=>rfl
  |26=>rfl
  |27=>rfl
  |28=>rfl
  |29=>rfl
  |_+30=>rfl
 zero:=fun n=>match n with
  |0=>rfl
  |1=>rfl
  |2=>rfl
  |3=>rfl
  |4=>rfl
  |5=>rfl
  |6=>rfl
  |7=>rfl
  |8=>rfl
  |9=>rfl
  |10=>rfl
  |11=>rfl
  |12=>rfl
  |13=>rfl
  |14=>rfl
  |15=>rfl
  |16=>rfl
  |17=>rfl
  |18=>rfl
  |19=>rfl
  |20=>rfl
  |21=>rfl
  |22=>rfl
  |23=>rfl
  |24=>rfl
  |25=>rfl
  |26=>rfl
  |27=>rfl
  |28=>rfl
  |29=>rfl
  |_+30=>rfl
 rd:=fun n S w cs x=>match n,x with
  |0,x=>aD.int S w cs x
  |1,x=>aD.bool S w cs x
  |2,x=>aD.str S w cs x
  |3,x=>rd3 S w cs x
  |4,x=>AJ S w cs x
  |5,x=>rd5 S w cs x
  |6,x=>rd6 S w cs x
  |7,x=>rd7 S w cs x
  |8,x=>rd8 S w cs x
  |9,x=>RY S w cs x
  |10,x=>aep S w cs x
  |11,x=>aeo S w cs x
  |12,x=>aen S w cs x
  |13,x=>aem S w cs x
  |14,x=>AK S w cs x
  |15,x=>ael S w cs x
  |16,x=>RZ S w cs x
  |17,x=>aek S w cs x
  |18,x=>aej S w cs x
  |19,x=>aei S w cs x
  |20,x=>aeh S w cs x
  |21,x=>aeg S w cs x
  |22,x=>aef S w cs x
  |23,x=>aee S w cs x
  |24,x=>aed S w cs x
  |25,x=>Kq S w cs x
  |26,x=>aec S w cs x
  |27,x=>aeb S w cs x
  |28,x=>aea S w cs x
  |29,x=>ad' S w cs x
  |_+30,x=>aD.int S w cs x
 oS:=fun n=>match n with
  |0=>by decide
  |1=>by decide
  |2=>by decide
  |3=>by decide
  |4=>by decide
  |5=>by decide
  |6=>by decide
  |7=>by decide
  |8=>by decide
  |9=>by decide
  |10=>by decide
  |11=>by decide
  |12=>by decide
  |13=>by decide
  |14=>by decide
  |15=>by decide
  |16=>by decide
  |17=>by decide
  |18=>by decide
  |19=>by decide
  |20=>by decide
  |21=>by decide
  |22=>by decide
  |23=>by decide
  |24=>by decide
  |25=>by decide
  |26=>by decide
  |27=>by decide
  |28=>by decide
  |29=>by decide
  |_+30=>by show 1≤48;decide
 E_:=fun n h=>match n,h with
  |0,h=>rfl
  |1,h=>rfl
  |2,h=>rfl
  |3,h=>rfl
  |4,h=>rfl
  |5,h=>rfl
  |6,h=>rfl
  |7,h=>rfl
  |8,h=>rfl
  |9,h=>rfl
  |10,h=>rfl
  |11,h=>rfl
  |12,h=>rfl
  |13,h=>rfl
  |14,h=>rfl
  |15,h=>rfl
  |16,h=>rfl
  |17,h=>rfl
  |18,h=>rfl
  |19,h=>rfl
  |20,h=>rfl
  |21,h=>rfl
  |22,h=>rfl
  |23,h=>rfl
  |24,h=>rfl
  |25,h=>rfl
  |26,h=>rfl
  |27,h=>rfl
  |28,h=>rfl
  |29,h=>rfl
  |_+30,h=>rfl
theorem abN:cg Tryz.prog T 3 (.one (.int .i64)):=⟨bt.of Tryz.underlying3 rfl (by kernel_rfl),Tryz.underlying3⟩
theorem abG:cg Tryz.prog T 4 (.one .bool):=⟨bt.of Tryz.underlying4 rfl (by kernel_rfl),Tryz.underlying4⟩
theorem abY:cg Tryz.prog T 22 (.one (.sl 0)):=⟨bt.of Tryz.underlying22 rfl (by kernel_rfl),trivial⟩
theorem abW:cg Tryz.prog T 23 (.ptr):=⟨bt.of Tryz.underlying23 rfl (by kernel_rfl),trivial⟩
theorem abU:cg Tryz.prog T 25 (.one (.sl 5)):=⟨bt.of Tryz.underlying25 rfl (by kernel_rfl),trivial⟩
theorem abT:cg Tryz.prog T 26 (.one (.sl 6)):=⟨bt.of Tryz.underlying26 rfl (by kernel_rfl),trivial⟩
theorem abR:cg Tryz.prog T 27 (.one (.sl 7)):=⟨bt.of Tryz.underlying27 rfl (by kernel_rfl),trivial⟩
theorem abO:cg Tryz.prog T 29 (.st 4):=⟨bt.of Tryz.underlying29 rfl (by kernel_rfl),trivial⟩
theorem abM:cg Tryz.prog T 32 (.st 8):=⟨bt.of Tryz.underlying32 rfl (by kernel_rfl),trivial⟩
theorem abL:cg Tryz.prog T 34 (.one (.sl 1)):=⟨bt.of Tryz.underlying34 rfl (by kernel_rfl),trivial⟩
theorem abK:cg Tryz.prog T 35 (.one (.sl 10)):=⟨bt.of Tryz.underlying35 rfl (by kernel_rfl),trivial⟩
theorem abJ:cg Tryz.prog T 36 (.one (.sl 11)):=⟨bt.of Tryz.underlying36 rfl (by kernel_rfl),trivial⟩
theorem abI:cg Tryz.prog T 38 (.st 14):=⟨bt.of Tryz.underlying38 rfl (by kernel_rfl),trivial⟩
theorem abH:cg Tryz.prog T 39 (.one (.sl 12)):=⟨bt.of Tryz.underlying39 rfl (by kernel_rfl),trivial⟩
theorem abF:cg Tryz.prog T 40 (.one (.sl 13)):=⟨bt.of Tryz.underlying40 rfl (by kernel_rfl),trivial⟩
theorem abE:cg Tryz.prog T 42 (.st 9):=⟨bt.of Tryz.underlying42 rfl (by kernel_rfl),trivial⟩
theorem abD:cg Tryz.prog T 44 (.one (.int .i64)):=⟨bt.of Tryz.underlying44 rfl (by kernel_rfl),Tryz.underlying44⟩
theorem abC:cg Tryz.prog T 47 (.one (.sl 16)):=⟨bt.of Tryz.underlying47 rfl (by kernel_rfl),trivial⟩
theorem abB:cg Tryz.prog T 49 (.one (.sl 22)):=⟨bt.of Tryz.underlying49 rfl (by kernel_rfl),trivial⟩
theorem abA:cg Tryz.prog T 51 (.st 21):=⟨bt.of Tryz.underlying51 rfl (by kernel_rfl),trivial⟩
theorem abz:cg Tryz.prog T 55 (.one (.sl 24)):=⟨bt.of Tryz.underlying55 rfl (by kernel_rfl),trivial⟩
theorem aby:cg Tryz.prog T 57 (.st 25):=⟨bt.of Tryz.underlying57 rfl (by kernel_rfl),trivial⟩
theorem abx:cg Tryz.prog T 59 (.st 26):=⟨bt.of Tryz.underlying59 rfl (by kernel_rfl),trivial⟩
theorem abw:cg Tryz.prog T 64 (.st 24):=⟨bt.of Tryz.underlying64 rfl (by kernel_rfl),trivial⟩
theorem abv:cg Tryz.prog T 67 (.one (.sl 23)):=⟨bt.of Tryz.underlying67 rfl (by kernel_rfl),trivial⟩
theorem abu:cg Tryz.prog T 69 (.st 22):=⟨bt.of Tryz.underlying69 rfl (by kernel_rfl),trivial⟩
theorem abt:cg Tryz.prog T 71 (.st 7):=⟨bt.of Tryz.underlying71 rfl (by kernel_rfl),trivial⟩
theorem abr:cg Tryz.prog T 76 (.st 3):=⟨bt.of Tryz.underlying76 rfl (by kernel_rfl),trivial⟩
theorem abq:cg Tryz.prog T 81 (.st 5):=⟨bt.of Tryz.underlying81 rfl (by kernel_rfl),trivial⟩
theorem abp:cg Tryz.prog T 83 (.st 6):=⟨bt.of Tryz.underlying83 rfl (by kernel_rfl),trivial⟩
theorem abo:cg Tryz.prog T 86 (.st 12):=⟨bt.of Tryz.underlying86 rfl (by kernel_rfl),trivial⟩
theorem abn:cg Tryz.prog T 87 (.ptr):=⟨bt.of Tryz.underlying87 rfl (by kernel_rfl),trivial⟩
theorem abm:cg Tryz.prog T 90 (.one (.sl 14)):=⟨bt.of Tryz.underlying90 rfl (by kernel_rfl),trivial⟩
theorem abl:cg Tryz.prog T 92 (.st 17):=⟨bt.of Tryz.underlying92 rfl (by kernel_rfl),trivial⟩
theorem abk:cg Tryz.prog T 94 (.st 16):=⟨bt.of Tryz.underlying94 rfl (by kernel_rfl),trivial⟩
theorem aca:cg Tryz.prog T 103 (.st 27):=⟨bt.of Tryz.underlying103 rfl (by kernel_rfl),trivial⟩
theorem ab':cg Tryz.prog T 108 (.one (.sl 28)):=⟨bt.of Tryz.underlying108 rfl (by kernel_rfl),trivial⟩
theorem ab_:cg Tryz.prog T 121 (.fn):=⟨bt.of Tryz.underlying121 rfl (by kernel_rfl),trivial⟩
theorem ab9:cg Tryz.prog T 139 (.st 13):=⟨bt.of Tryz.underlying139 rfl (by kernel_rfl),trivial⟩
theorem ab8:cg Tryz.prog T 141 (.st 23):=⟨bt.of Tryz.underlying141 rfl (by kernel_rfl),trivial⟩
theorem ab7:cg Tryz.prog T 148 (.st 10):=⟨bt.of Tryz.underlying148 rfl (by kernel_rfl),trivial⟩
theorem ab6:cg Tryz.prog T 161 (.st 28):=⟨bt.of Tryz.underlying161 rfl (by kernel_rfl),trivial⟩
theorem ab5:cg Tryz.prog T 172 (.st 15):=⟨bt.of Tryz.underlying172 rfl (by kernel_rfl),trivial⟩
theorem ab4:cg Tryz.prog T 177 (.st 11):=⟨bt.of Tryz.underlying177 rfl (by kernel_rfl),trivial⟩
theorem ab3:cg Tryz.prog T 187 (.ptr):=⟨bt.of Tryz.underlying187 rfl (by kernel_rfl),trivial⟩
theorem ab2:cg Tryz.prog T 190 (.st 29):=⟨bt.of Tryz.underlying190 rfl (by kernel_rfl),trivial⟩
theorem ab1:cg Tryz.prog T 194 (.one (.sl 15)):=⟨bt.of Tryz.underlying194 rfl (by kernel_rfl),trivial⟩
theorem ab0:cg Tryz.prog T 206 (.ptr):=⟨bt.of Tryz.underlying206 rfl (by kernel_rfl),trivial⟩
theorem abZ:cg Tryz.prog T 208 (.st 19):=⟨bt.of Tryz.underlying208 rfl (by kernel_rfl),trivial⟩
theorem abX:cg Tryz.prog T 228 (.one (.int .u64)):=⟨bt.of Tryz.underlying228 rfl (by kernel_rfl),Tryz.underlying228⟩
theorem abV:cg Tryz.prog T 232 (.ptr):=⟨bt.of Tryz.underlying232 rfl (by kernel_rfl),trivial⟩
theorem abS:cg Tryz.prog T 266 (.one (.sl 18)):=⟨bt.of Tryz.underlying266 rfl (by kernel_rfl),trivial⟩
theorem abQ:cg Tryz.prog T 274 (.one (.int .u64)):=⟨bt.of Tryz.underlying274 rfl (by kernel_rfl),Tryz.underlying274⟩
theorem abP:cg Tryz.prog T 278 (.st 20):=⟨bt.of Tryz.underlying278 rfl (by kernel_rfl),trivial⟩
theorem zS:Tryz.prog.underlying 22=some (.slice 3)∧bz Tryz.prog 3 (D 0):=⟨Tryz.underlying22,bz.of Tryz.underlying3 rfl (by kernel_rfl)⟩
theorem adl:Tryz.prog.underlying 25=some (.slice 81)∧bz Tryz.prog 81 (D 5):=⟨Tryz.underlying25,bz.of Tryz.underlying81 rfl (by kernel_rfl)⟩
theorem adk:Tryz.prog.underlying 26=some (.slice 83)∧bz Tryz.prog 83 (D 6):=⟨Tryz.underlying26,bz.of Tryz.underlying83 rfl (by kernel_rfl)⟩
theorem adi:Tryz.prog.underlying 27=some (.slice 71)∧bz Tryz.prog 71 (D 7):=⟨Tryz.underlying27,bz.of Tryz.underlying71 rfl (by kernel_rfl)⟩
theorem zR:Tryz.prog.underlying 34=some (.slice 4)∧bz Tryz.prog 4 (D 1):=⟨Tryz.underlying34,bz.of Tryz.underlying4 rfl (by kernel_rfl)⟩
theorem zQ:Tryz.prog.underlying 35=some (.slice 148)∧bz Tryz.prog 148 (D 10):=⟨Tryz.underlying35,bz.of Tryz.underlying148 rfl (by kernel_rfl)⟩
theorem qz:Tryz.prog.underlying 36=some (.slice 177)∧bz Tryz.prog 177 (D 11):=⟨Tryz.underlying36,bz.of Tryz.underlying177 rfl (by kernel_rfl)⟩
theorem zP:Tryz.prog.underlying 39=some (.slice 86)∧bz Tryz.prog 86 (D 12):=⟨Tryz.underlying39,bz.of Tryz.underlying86 rfl (by kernel_rfl)⟩
theorem zO:Tryz.prog.underlying 40=some (.slice 139)∧bz Tryz.prog 139 (D 13):=⟨Tryz.underlying40,bz.of Tryz.underlying139 rfl (by kernel_rfl)⟩
theorem adh:Tryz.prog.underlying 47=some (.slice 94)∧bz Tryz.prog 94 (D 16):=⟨Tryz.underlying47,bz.of Tryz.underlying94 rfl (by kernel_rfl)⟩
theorem adg:Tryz.prog.underlying 49=some (.slice 69)∧bz Tryz.prog 69 (D 22):=⟨Tryz.underlying49,bz.of Tryz.underlying69 rfl (by kernel_rfl)⟩
theorem adf:Tryz.prog.underlying 55=some (.slice 64)∧bz Tryz.prog 64 (D 24):=⟨Tryz.underlying55,bz.of Tryz.underlying64 rfl (by kernel_rfl)⟩
theorem zN:Tryz.prog.underlying 67=some (.slice 141)∧bz Tryz.prog 141 (D 23):=⟨Tryz.underlying67,bz.of Tryz.underlying141 rfl (by kernel_rfl)⟩
theorem ade:Tryz.prog.underlying 90=some (.slice 38)∧bz Tryz.prog 38 (D 14):=⟨Tryz.underlying90,bz.of Tryz.underlying38 rfl (by kernel_rfl)⟩
theorem adn:Tryz.prog.underlying 108=some (.slice 161)∧bz Tryz.prog 161 (D 28):=⟨Tryz.underlying108,bz.of Tryz.underlying161 rfl (by kernel_rfl)⟩
theorem adm:Tryz.prog.underlying 194=some (.slice 172)∧bz Tryz.prog 172 (D 15):=⟨Tryz.underlying194,bz.of Tryz.underlying172 rfl (by kernel_rfl)⟩
theorem adj:Tryz.prog.underlying 266=some (.slice 22)∧bz Tryz.prog 22 (D 18):=⟨Tryz.underlying266,bz.of Tryz.underlying22 rfl (by kernel_rfl)⟩
theorem akc:eV Tryz.prog 29 [(0,1),(1,1),(2,1),(3,1),(4,1),(5,1)]∧∀i off sz,[((0:Nat),(1:Nat)),((1:Nat),(1:Nat)),((2:Nat),(1:Nat)),((3:Nat),(1:Nat)),((4:Nat),(1:Nat)),((5:Nat),(1:Nat))][i]? =some (off,sz)→eZ Tryz.prog 29 i off:=fW ⟨_,Tryz.underlying29,by kernel_rfl⟩ rfl
theorem akb:eV Tryz.prog 32 [(0,1),(1,1),(2,1)]∧∀i off sz,[((0:Nat),(1:Nat)),((1:Nat),(1:Nat)),((2:Nat),(1:Nat))][i]? =some (off,sz)→eZ Tryz.prog 32 i off:=fW ⟨_,Tryz.underlying32,by kernel_rfl⟩ rfl
theorem aka:eV Tryz.prog 38 [(0,1),(1,1),(2,1),(3,1)]∧∀i off sz,[((0:Nat),(1:Nat)),((1:Nat),(1:Nat)),((2:Nat),(1:Nat)),((3:Nat),(1:Nat))][i]? =some (off,sz)→eZ Tryz.prog 38 i off:=fW ⟨_,Tryz.underlying38,by kernel_rfl⟩ rfl
theorem aj':eV Tryz.prog 42 [(0,1),(1,4),(5,1),(6,1)]∧∀i off sz,[((0:Nat),(1:Nat)),((1:Nat),(4:Nat)),((5:Nat),(1:Nat)),((6:Nat),(1:Nat))][i]? =some (off,sz)→eZ Tryz.prog 42 i off:=fW ⟨_,Tryz.underlying42,by kernel_rfl⟩ rfl
theorem aj_:eV Tryz.prog 51 [(0,1),(1,1),(2,1)]∧∀i off sz,[((0:Nat),(1:Nat)),((1:Nat),(1:Nat)),((2:Nat),(1:Nat))][i]? =some (off,sz)→eZ Tryz.prog 51 i off:=fW ⟨_,Tryz.underlying51,by kernel_rfl⟩ rfl
theorem aj9:eV Tryz.prog 57 [(0,1),(1,1),(2,1)]∧∀i off sz,[((0:Nat),(1:Nat)),((1:Nat),(1:Nat)),((2:Nat),(1:Nat))][i]? =some (off,sz)→eZ Tryz.prog 57 i off:=fW ⟨_,Tryz.underlying57,by kernel_rfl⟩ rfl
theorem aj8:eV Tryz.prog 59 [(0,1),(1,3),(4,3)]∧∀i off sz,[((0:Nat),(1:Nat)),((1:Nat),(3:Nat)),((4:Nat),(3:Nat))][i]? =some (off,sz)→eZ Tryz.prog 59 i off:=fW ⟨_,Tryz.underlying59,by kernel_rfl⟩ rfl
theorem aj7:eV Tryz.prog 64 [(0,1),(1,1)]∧∀i off sz,[((0:Nat),(1:Nat)),((1:Nat),(1:Nat))][i]? =some (off,sz)→eZ Tryz.prog 64 i off:=fW ⟨_,Tryz.underlying64,by kernel_rfl⟩ rfl
theorem aj6:eV Tryz.prog 69 [(0,1),(1,1),(2,1),(3,1),(4,1),(5,1)]∧∀i off sz,[((0:Nat),(1:Nat)),((1:Nat),(1:Nat)),((2:Nat),(1:Nat)),((3:Nat),(1:Nat)),((4:Nat),(1:Nat)),((5:Nat),(1:Nat))][i]? =some (off,sz)→eZ Tryz.prog 69 i off:=fW ⟨_,Tryz.underlying69,by kernel_rfl⟩ rfl
theorem aj5:eV Tryz.prog 71 [(0,1),(1,1),(2,1),(3,1),(4,1)]∧∀i off sz,[((0:Nat),(1:Nat)),((1:Nat),(1:Nat)),((2:Nat),(1:Nat)),((3:Nat),(1:Nat)),((4:Nat),(1:Nat))][i]? =some (off,sz)→eZ Tryz.prog 71 i off:=fW ⟨_,Tryz.underlying71,by kernel_rfl⟩ rfl
theorem aj4:eV Tryz.prog 76 [(0,1),(1,1)]∧∀i off sz,[((0:Nat),(1:Nat)),((1:Nat),(1:Nat))][i]? =some (off,sz)→eZ Tryz.prog 76 i off:=fW ⟨_,Tryz.underlying76,by kernel_rfl⟩ rfl
theorem aj3:eV Tryz.prog 81 [(0,1),(1,1),(2,1)]∧∀i off sz,[((0:Nat),(1:Nat)),((1:Nat),(1:Nat)),((2:Nat),(1:Nat))][i]? =some (off,sz)→eZ Tryz.prog 81 i off:=fW ⟨_,Tryz.underlying81,by kernel_rfl⟩ rfl
theorem aj2:eV Tryz.prog 83 [(0,1),(1,1),(2,1)]∧∀i off sz,[((0:Nat),(1:Nat)),((1:Nat),(1:Nat)),((2:Nat),(1:Nat))][i]? =some (off,sz)→eZ Tryz.prog 83 i off:=fW ⟨_,Tryz.underlying83,by kernel_rfl⟩ rfl
theorem aj1:eV Tryz.prog 86 [(0,1),(1,1)]∧∀i off sz,[((0:Nat),(1:Nat)),((1:Nat),(1:Nat))][i]? =some (off,sz)→eZ Tryz.prog 86 i off:=fW ⟨_,Tryz.underlying86,by kernel_rfl⟩ rfl
theorem aj0:eV Tryz.prog 92 [(0,7),(7,6),(13,1),(14,1)]∧∀i off sz,[((0:Nat),(7:Nat)),((7:Nat),(6:Nat)),((13:Nat),(1:Nat)),((14:Nat),(1:Nat))][i]? =some (off,sz)→eZ Tryz.prog 92 i off:=fW ⟨_,Tryz.underlying92,by kernel_rfl⟩ rfl
theorem ajZ:eV Tryz.prog 94 [(0,1),(1,1),(2,1)]∧∀i off sz,[((0:Nat),(1:Nat)),((1:Nat),(1:Nat)),((2:Nat),(1:Nat))][i]? =some (off,sz)→eZ Tryz.prog 94 i off:=fW ⟨_,Tryz.underlying94,by kernel_rfl⟩ rfl
theorem akm:eV Tryz.prog 103 [(0,1),(1,1)]∧∀i off sz,[((0:Nat),(1:Nat)),((1:Nat),(1:Nat))][i]? =some (off,sz)→eZ Tryz.prog 103 i off:=fW ⟨_,Tryz.underlying103,by kernel_rfl⟩ rfl
theorem akl:eV Tryz.prog 139 [(0,1),(1,3),(4,1)]∧∀i off sz,[((0:Nat),(1:Nat)),((1:Nat),(3:Nat)),((4:Nat),(1:Nat))][i]? =some (off,sz)→eZ Tryz.prog 139 i off:=fW ⟨_,Tryz.underlying139,by kernel_rfl⟩ rfl
theorem akk:eV Tryz.prog 141 [(0,1),(1,1)]∧∀i off sz,[((0:Nat),(1:Nat)),((1:Nat),(1:Nat))][i]? =some (off,sz)→eZ Tryz.prog 141 i off:=fW ⟨_,Tryz.underlying141,by kernel_rfl⟩ rfl
theorem akj:eV Tryz.prog 148 [(0,1),(1,1),(2,1),(3,1)]∧∀i off sz,[((0:Nat),(1:Nat)),((1:Nat),(1:Nat)),((2:Nat),(1:Nat)),((3:Nat),(1:Nat))][i]? =some (off,sz)→eZ Tryz.prog 148 i off:=fW ⟨_,Tryz.underlying148,by kernel_rfl⟩ rfl
theorem aki:eV Tryz.prog 161 [(0,1),(1,1),(2,1)]∧∀i off sz,[((0:Nat),(1:Nat)),((1:Nat),(1:Nat)),((2:Nat),(1:Nat))][i]? =some (off,sz)→eZ Tryz.prog 161 i off:=fW ⟨_,Tryz.underlying161,by kernel_rfl⟩ rfl
theorem akh:eV Tryz.prog 172 [(0,1),(1,1),(2,1)]∧∀i off sz,[((0:Nat),(1:Nat)),((1:Nat),(1:Nat)),((2:Nat),(1:Nat))][i]? =some (off,sz)→eZ Tryz.prog 172 i off:=fW ⟨_,Tryz.underlying172,by kernel_rfl⟩ rfl
theorem akg:eV Tryz.prog 177 [(0,1),(1,1)]∧∀i off sz,[((0:Nat),(1:Nat)),((1:Nat),(1:Nat))][i]? =some (off,sz)→eZ Tryz.prog 177 i off:=fW ⟨_,Tryz.underlying177,by kernel_rfl⟩ rfl
theorem akf:eV Tryz.prog 190 [(0,6),(6,4),(10,1),(11,1)]∧∀i off sz,[((0:Nat),(6:Nat)),((6:Nat),(4:Nat)),((10:Nat),(1:Nat)),((11:Nat),(1:Nat))][i]? =some (off,sz)→eZ Tryz.prog 190 i off:=fW ⟨_,Tryz.underlying190,by kernel_rfl⟩ rfl
theorem ake:eV Tryz.prog 208 [(0,6),(6,4),(10,1)]∧∀i off sz,[((0:Nat),(6:Nat)),((6:Nat),(4:Nat)),((10:Nat),(1:Nat))][i]? =some (off,sz)→eZ Tryz.prog 208 i off:=fW ⟨_,Tryz.underlying208,by kernel_rfl⟩ rfl
theorem akd:eV Tryz.prog 278 [(0,6),(6,4),(10,1)]∧∀i off sz,[((0:Nat),(6:Nat)),((6:Nat),(4:Nat)),((10:Nat),(1:Nat))][i]? =some (off,sz)→eZ Tryz.prog 278 i off:=fW ⟨_,Tryz.underlying278,by kernel_rfl⟩ rfl
theorem rc:fB Tryz.prog 3 false [(.int .i64)] 1:=fB.int Tryz.underlying3
theorem akG:fB Tryz.prog 81 true [(.int .i64),(.int .i64),(.int .i64)] 2:=by
 refine fB.struct (k:=1) Tryz.underlying81 (by kernel_rfl) ?_
 exact⟨by simp,rfl,false,[(.int .i64)],[(.int .i64),(.int .i64)],[.int .i64 0],rfl,bt.of Tryz.underlying3 rfl (by kernel_rfl),rfl,fun _=>rfl,rc.up (by decide),⟨by simp,rfl,false,[(.int .i64)],[(.int .i64)],[.int .i64 0],rfl,bt.of Tryz.underlying3 rfl (by kernel_rfl),rfl,fun _=>rfl,rc.up (by decide),⟨by simp,rfl,false,[(.int .i64)],[],[.int .i64 0],rfl,bt.of Tryz.underlying3 rfl (by kernel_rfl),rfl,fun _=>rfl,rc.up (by decide),rfl⟩⟩⟩
theorem akD:zj Tryz.prog 81 [(.int .i64),(.int .i64),(.int .i64)]∧([(.int .i64),(.int .i64),(.int .i64)]:List Lf).all jr=true:=⟨⟨⟨2,by decide,akG⟩,by kernel_rfl⟩,rfl⟩
theorem akI:fB Tryz.prog 148 true [(.int .i64),(.int .i64),(.int .i64),(.int .i64)] 2:=by
 refine fB.struct (k:=1) Tryz.underlying148 (by kernel_rfl) ?_
 exact⟨by simp,rfl,false,[(.int .i64)],[(.int .i64),(.int .i64),(.int .i64)],[.int .i64 0],rfl,bt.of Tryz.underlying3 rfl (by kernel_rfl),rfl,fun _=>rfl,rc.up (by decide),⟨by simp,rfl,false,[(.int .i64)],[(.int .i64),(.int .i64)],[.int .i64 0],rfl,bt.of Tryz.underlying3 rfl (by kernel_rfl),rfl,fun _=>rfl,rc.up (by decide),⟨by simp,rfl,false,[(.int .i64)],[(.int .i64)],[.int .i64 0],rfl,bt.of Tryz.underlying3 rfl (by kernel_rfl),rfl,fun _=>rfl,rc.up (by decide),⟨by simp,rfl,false,[(.int .i64)],[],[.int .i64 0],rfl,bt.of Tryz.underlying3 rfl (by kernel_rfl),rfl,fun _=>rfl,rc.up (by decide),rfl⟩⟩⟩⟩
theorem akF:zj Tryz.prog 148 [(.int .i64),(.int .i64),(.int .i64),(.int .i64)]∧([(.int .i64),(.int .i64),(.int .i64),(.int .i64)]:List Lf).all jr=true:=⟨⟨⟨2,by decide,akI⟩,by kernel_rfl⟩,rfl⟩
theorem akH:fB Tryz.prog 177 true [(.int .i64),(.int .i64)] 2:=by
 refine fB.struct (k:=1) Tryz.underlying177 (by kernel_rfl) ?_
 exact⟨by simp,rfl,false,[(.int .i64)],[(.int .i64)],[.int .i64 0],rfl,bt.of Tryz.underlying3 rfl (by kernel_rfl),rfl,fun _=>rfl,rc.up (by decide),⟨by simp,rfl,false,[(.int .i64)],[],[.int .i64 0],rfl,bt.of Tryz.underlying3 rfl (by kernel_rfl),rfl,fun _=>rfl,rc.up (by decide),rfl⟩⟩
theorem akE:zj Tryz.prog 177 [(.int .i64),(.int .i64)]∧([(.int .i64),(.int .i64)]:List Lf).all jr=true:=⟨⟨⟨2,by decide,akH⟩,by kernel_rfl⟩,rfl⟩
instance:Flat aO:=⟨fun h=>Flat.any (α:=Int×Int×Int) h⟩
instance:Flat Source:=⟨fun h=>Flat.any (α:=Int×Int×Int) h⟩
instance:Flat fL:=⟨fun h=>Flat.any (α:=Int×Int×Int) h⟩
instance:Flat aC:=⟨fun h=>Flat.any (α:=Int×Int×Int×Int) h⟩
instance:Flat Part:=⟨fun h=>Flat.any (α:=Int×Int) h⟩
instance:Flat bf:=⟨fun h=>Flat.any (α:=Int×Int) h⟩
instance:Flat Act:=⟨fun h=>Flat.any (α:=Int×Int×Int) h⟩
instance:Flat Event:=⟨fun h=>Flat.any (α:=Int×Act×Int) h⟩
instance:Flat eO:=⟨fun h=>Flat.any (α:=Int×Int) h⟩
instance:Flat du:=⟨fun h=>Flat.any (α:=Int×Int) h⟩
instance:Flat ja:=⟨fun h=>Flat.any (α:=Int×Int×Int) h⟩
instance:Flat dH:=⟨fun h=>Flat.any (α:=Int×Int×Int) h⟩
theorem aks:Flat (D 0):=(inferInstance:Flat Int)
theorem akr:Flat (D 1):=(inferInstance:Flat Bool)
theorem akq:Flat (D 10):=(inferInstance:Flat aC)
theorem Nz:Flat (D 11):=(inferInstance:Flat Part)
theorem akp:Flat (D 12):=(inferInstance:Flat bf)
theorem ako:Flat (D 13):=(inferInstance:Flat Event)
theorem akn:Flat (D 23):=(inferInstance:Flat eO)
instance:jU aR:=⟨fun h=>jU.loc (α:=(List Int)×(List Int)×(List Int)) h⟩
theorem agb:C3 Tryz.prog D 15 3 0:=⟨(inferInstance:jU aR),(inferInstance:Flat Int),bz.of Tryz.underlying3 rfl (by kernel_rfl),rfl⟩
theorem aga:C3 Tryz.prog D 18 3 0:=⟨(inferInstance:jU (List Int)),(inferInstance:Flat Int),bz.of Tryz.underlying3 rfl (by kernel_rfl),rfl⟩
theorem fN:dh Tryz.prog T:=dh.of (⟨abN,abG,abY,abW,abU,abT,abR,abO,abM,abL,abK,abJ,abI,abH,abF,abE,abD,abC,abB,abA,abz,aby,abx,abw,abv,abu,abt,abr,abq,abp,abo,abn,abm,abl,abk,aca,ab',ab_,ab9,ab8,ab7,ab6,ab5,ab4,ab3,ab2,ab1,ab0,abZ,abX,abV,abS,abQ,abP,trivial⟩) (⟨zS,adl,adk,adi,zR,zQ,qz,zP,zO,adh,adg,adf,zN,ade,adn,adm,adj,trivial⟩) (⟨akc,akb,aka,aj',aj_,aj9,aj8,aj7,aj6,aj5,aj4,aj3,aj2,aj1,aj0,ajZ,akm,akl,akk,akj,aki,akh,akg,akf,ake,akd,trivial⟩) (⟨akD,akF,akE,trivial⟩) (⟨agb,aga,trivial⟩) (trivial) (trivial)
theorem fj:Tryz.prog.follows .mixedOrders=true:=by kernel_rfl
def gL(f:Func):Code:=match f.body with
 |some c=>c
 |none=> .skip
end Rx
end Go.Proofs.YtncbfgppjfcijaaGreat
