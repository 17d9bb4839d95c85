import Derived.Test.YtaneejpkncdodaaGreatRp
import Derived.Test.YtaneejpkncdodaaGreatProg
import Derived.KernelRfl
set_option linter.unusedVariables false
namespace Go.Proofs.YtaneejpkncdodaaGreat
open Go Go.RowKit Dp
namespace Rx
structure Src where
 L:(List Int)
 At:Int
def XK(x:Src):(List Int)×Int:=(x.L,x.At)
instance:ad Src:=ad.via XK ⟨ad.zero,ad.zero⟩ rfl
structure aI where
 Kind:Int
 A:Int
 B:Int
def X2(x:aI):Int×Int×Int:=(x.Kind,x.A,x.B)
instance:ad aI:=ad.via X2 ⟨ad.zero,ad.zero,ad.zero⟩ rfl
structure Source where
 df:Int
 cF:Int
 Start:Int
def XL(x:Source):Int×Int×Int:=(x.df,x.cF,x.Start)
instance:ad Source:=ad.via XL ⟨ad.zero,ad.zero,ad.zero⟩ rfl
structure Consumer where
 cX:Int
 cF:Int
 ij:Int
 j7:Int
 bK:(List Int)
def X0(x:Consumer):Int×Int×Int×Int×(List Int):=(x.cX,x.cF,x.ij,x.j7,x.bK)
instance:ad Consumer:=ad.via X0 ⟨ad.zero,ad.zero,ad.zero,ad.zero,ad.zero⟩ rfl
structure ak where
 ai:Int
 ab:(List aI)
 aa:(List Source)
 ae:(List Consumer)
 aG:Int
 aB:Int
def X3(x:ak):Int×(List aI)×(List Source)×(List Consumer)×Int×Int:=(x.ai,x.ab,x.aa,x.ae,x.aG,x.aB)
instance:ad ak:=ad.via X3 ⟨ad.zero,ad.zero,ad.zero,ad.zero,ad.zero,ad.zero⟩ rfl
structure e_ where
 Start:Int
 Stop:Int
 lC:Int
def XJ(x:e_):Int×Int×Int:=(x.Start,x.Stop,x.lC)
instance:ad e_:=ad.via XJ ⟨ad.zero,ad.zero,ad.zero⟩ rfl
structure az where
 State:Int
 eD:Int
 aB:Int
 aG:Int
def XM(x:az):Int×Int×Int×Int:=(x.State,x.eD,x.aB,x.aG)
instance:ad az:=ad.via XM ⟨ad.zero,ad.zero,ad.zero,ad.zero⟩ rfl
structure Part where
 Kind:Int
 Number:Int
def XR(x:Part):Int×Int:=(x.Kind,x.Number)
instance:ad Part:=ad.via XR ⟨ad.zero,ad.zero⟩ rfl
structure ah where
 al:(List Bool)
 aa:(List az)
 ar:(List Int)
 ax:(List Part)
def XP(x:ah):(List Bool)×(List az)×(List Int)×(List Part):=(x.al,x.aa,x.ar,x.ax)
instance:ad ah:=ad.via XP ⟨ad.zero,ad.zero,ad.zero,ad.zero⟩ rfl
structure bi where
 nO:Int
 nN:Int
def XN(x:bi):Int×Int:=(x.nO,x.nN)
instance:ad bi:=ad.via XN ⟨ad.zero,ad.zero⟩ rfl
structure Act where
 Kind:Int
 Unit:Int
 Value:Int
def X4(x:Act):Int×Int×Int:=(x.Kind,x.Unit,x.Value)
instance:ad Act:=ad.via X4 ⟨ad.zero,ad.zero,ad.zero⟩ rfl
structure Event where
 Time:Int
 Act:Act
 HU:Int
def XY(x:Event):Int×Act×Int:=(x.Time,x.Act,x.HU)
instance:ad Event:=ad.via XY ⟨ad.zero,ad.zero,ad.zero⟩ rfl
structure bt where
 Time:Int
 ah:ah
 lA:(List bi)
 lB:(List Event)
def XQ(x:bt):Int×ah×(List bi)×(List Event):=(x.Time,x.ah,x.lA,x.lB)
instance:ad bt:=ad.via XQ ⟨ad.zero,ad.zero,ad.zero,ad.zero⟩ rfl
structure aP where
 ai:(List Int)
 aa:(List Int)
 ae:(List Int)
def XW(x:aP):(List Int)×(List Int)×(List Int):=(x.ai,x.aa,x.ae)
instance:ad aP:=ad.via XW ⟨ad.zero,ad.zero,ad.zero⟩ rfl
structure ia where
 bt:bt
 aA:ak
 events:(List Event)
 rq:(List ah)
def PT(x:ia):bt×ak×(List Event)×(List ah):=(x.bt,x.aA,x.events,x.rq)
instance:ad ia:=ad.via PT ⟨ad.zero,ad.zero,ad.zero,ad.zero⟩ rfl
structure ka where
 aA:ak
 aS:ah
 time:Int
def O7(x:ka):ak×ah×Int:=(x.aA,x.aS,x.time)
instance:ad ka:=ad.via O7 ⟨ad.zero,ad.zero,ad.zero⟩ rfl
structure dA where
 aA:ak
 aS:ah
 ml:(List Act)
def P9(x:dA):ak×ah×(List Act):=(x.aA,x.aS,x.ml)
instance:ad dA:=ad.via P9 ⟨ad.zero,ad.zero,ad.zero⟩ rfl
structure wS where
 aA:ak
 aS:ah
 Mi:(List Bool)
 ml:(List Act)
def Qv(x:wS):ak×ah×(List Bool)×(List Act):=(x.aA,x.aS,x.Mi,x.ml)
instance:ad wS:=ad.via Qv ⟨ad.zero,ad.zero,ad.zero,ad.zero⟩ rfl
@[reducible] def D (n:Nat):Type:=match n with
  |0=>Int
  |1=>Bool
  |2=>ByteArray
  |3=>Src
  |4=>ak
  |5=>aI
  |6=>Source
  |7=>Consumer
  |8=>e_
  |9=>bt
  |10=>az
  |11=>Part
  |12=>bi
  |13=>Event
  |14=>ah
  |15=>aP
  |16=>Act
  |17=>ia
  |18=>(List Int)
  |19=>ka
  |20=>dA
  |21=>wS
  |_=>Int
instance alQ(n:Nat):ad (D n):=match n with
 |0=>inferInstanceAs (ad Int)
 |1=>inferInstanceAs (ad Bool)
 |2=>inferInstanceAs (ad ByteArray)
 |3=>inferInstanceAs (ad Src)
 |4=>inferInstanceAs (ad ak)
 |5=>inferInstanceAs (ad aI)
 |6=>inferInstanceAs (ad Source)
 |7=>inferInstanceAs (ad Consumer)
 |8=>inferInstanceAs (ad e_)
 |9=>inferInstanceAs (ad bt)
 |10=>inferInstanceAs (ad az)
 |11=>inferInstanceAs (ad Part)
 |12=>inferInstanceAs (ad bi)
 |13=>inferInstanceAs (ad Event)
 |14=>inferInstanceAs (ad ah)
 |15=>inferInstanceAs (ad aP)
 |16=>inferInstanceAs (ad Act)
 |17=>inferInstanceAs (ad ia)
 |18=>inferInstanceAs (ad (List Int))
 |19=>inferInstanceAs (ad ka)
 |20=>inferInstanceAs (ad dA)
 |21=>inferInstanceAs (ad wS)
 |_+22=>inferInstanceAs (ad Int)
def Iu(n:Nat):List Lf:=match n with
 |0=>[(.int .i64)]
 |1=>[.bool]
 |2=>[.str]
 |3=>[(.sl 0),(.int .i64)]
 |4=>[(.int .i64),(.sl 5),(.sl 6),(.sl 7),(.int .i64),(.int .i64)]
 |5=>[(.int .i64),(.int .i64),(.int .i64)]
 |6=>[(.int .i64),(.int .i64),(.int .i64)]
 |7=>[(.int .i64),(.int .i64),(.int .i64),(.int .i64),(.sl 0)]
 |8=>[(.int .i64),(.int .i64),(.int .i64)]
 |9=>[(.int .i64),(.sl 1),(.sl 10),(.sl 0),(.sl 11),(.sl 12),(.sl 13)]
 |10=>[(.int .i64),(.int .i64),(.int .i64),(.int .i64)]
 |11=>[(.int .i64),(.int .i64)]
 |12=>[(.int .i64),(.int .i64)]
 |13=>[(.int .i64),(.int .i64),(.int .i64),(.int .i64),(.int .i64)]
 |14=>[(.sl 1),(.sl 10),(.sl 0),(.sl 11)]
 |15=>[(.sl 0),(.sl 0),(.sl 0)]
 |16=>[(.int .i64),(.int .i64),(.int .i64)]
 |17=>[(.int .i64),(.sl 1),(.sl 10),(.sl 0),(.sl 11),(.sl 12),(.sl 13),(.int .i64),(.sl 5),(.sl 6),(.sl 7),(.int .i64),(.int .i64),(.sl 13),(.sl 14)]
 |18=>[(.sl 0)]
 |19=>[(.int .i64),(.sl 5),(.sl 6),(.sl 7),(.int .i64),(.int .i64),(.sl 1),(.sl 10),(.sl 0),(.sl 11),(.int .i64)]
 |20=>[(.int .i64),(.sl 5),(.sl 6),(.sl 7),(.int .i64),(.int .i64),(.sl 1),(.sl 10),(.sl 0),(.sl 11),(.sl 16)]
 |21=>[(.int .i64),(.sl 5),(.sl 6),(.sl 7),(.int .i64),(.int .i64),(.sl 1),(.sl 10),(.sl 0),(.sl 11),(.sl 1),(.sl 16)]
 |_=>[.int .i64]
def ZV(n:Nat):Bool:=match n with
 |0=>false
 |1=>false
 |2=>false
 |3=>true
 |4=>true
 |5=>true
 |6=>true
 |7=>true
 |8=>true
 |9=>true
 |10=>true
 |11=>true
 |12=>true
 |13=>true
 |14=>true
 |15=>true
 |16=>true
 |17=>true
 |18=>false
 |19=>true
 |20=>true
 |21=>true
 |_=>false
def ZT:∀n:Nat,D n→HL D (Iu n)
 |0=>fun x=>x
 |1=>fun x=>x
 |2=>fun x=>x
 |3=>fun x=>(x.L,x.At)
 |4=>fun x=>(x.ai,x.ab,x.aa,x.ae,x.aG,x.aB)
 |5=>fun x=>(x.Kind,x.A,x.B)
 |6=>fun x=>(x.df,x.cF,x.Start)
 |7=>fun x=>(x.cX,x.cF,x.ij,x.j7,x.bK)
 |8=>fun x=>(x.Start,x.Stop,x.lC)
 |9=>fun x=>(x.Time,x.ah.al,x.ah.aa,x.ah.ar,x.ah.ax,x.lA,x.lB)
 |10=>fun x=>(x.State,x.eD,x.aB,x.aG)
 |11=>fun x=>(x.Kind,x.Number)
 |12=>fun x=>(x.nO,x.nN)
 |13=>fun x=>(x.Time,x.Act.Kind,x.Act.Unit,x.Act.Value,x.HU)
 |14=>fun x=>(x.al,x.aa,x.ar,x.ax)
 |15=>fun x=>(x.ai,x.aa,x.ae)
 |16=>fun x=>(x.Kind,x.Unit,x.Value)
 |17=>fun x=>(x.bt.Time,x.bt.ah.al,x.bt.ah.aa,x.bt.ah.ar,x.bt.ah.ax,x.bt.lA,x.bt.lB,x.aA.ai,x.aA.ab,x.aA.aa,x.aA.ae,x.aA.aG,x.aA.aB,x.events,x.rq)
 |18=>fun x=>x
 |19=>fun x=>(x.aA.ai,x.aA.ab,x.aA.aa,x.aA.ae,x.aA.aG,x.aA.aB,x.aS.al,x.aS.aa,x.aS.ar,x.aS.ax,x.time)
 |20=>fun x=>(x.aA.ai,x.aA.ab,x.aA.aa,x.aA.ae,x.aA.aG,x.aA.aB,x.aS.al,x.aS.aa,x.aS.ar,x.aS.ax,x.ml)
 |21=>fun x=>(x.aA.ai,x.aA.ab,x.aA.aa,x.aA.ae,x.aA.aG,x.aA.aB,x.aS.al,x.aS.aa,x.aS.ar,x.aS.ax,x.Mi,x.ml)
 |_+22=>fun x=>x
def ZU:∀n:Nat,HL D (Iu n)→D n
 |0=>fun h=>h
 |1=>fun h=>h
 |2=>fun h=>h
 |3=>fun h=>⟨h.1,h.2⟩
 |4=>fun h=>⟨h.1,h.2.1,h.2.2.1,h.2.2.2.1,h.2.2.2.2.1,h.2.2.2.2.2⟩
 |5=>fun h=>⟨h.1,h.2.1,h.2.2⟩
 |6=>fun h=>⟨h.1,h.2.1,h.2.2⟩
 |7=>fun h=>⟨h.1,h.2.1,h.2.2.1,h.2.2.2.1,h.2.2.2.2⟩
 |8=>fun h=>⟨h.1,h.2.1,h.2.2⟩
 |9=>fun h=>⟨h.1,⟨h.2.1,h.2.2.1,h.2.2.2.1,h.2.2.2.2.1⟩,h.2.2.2.2.2.1,h.2.2.2.2.2.2⟩
 |10=>fun h=>⟨h.1,h.2.1,h.2.2.1,h.2.2.2⟩
 |11=>fun h=>⟨h.1,h.2⟩
 |12=>fun h=>⟨h.1,h.2⟩
 |13=>fun h=>⟨h.1,⟨h.2.1,h.2.2.1,h.2.2.2.1⟩,h.2.2.2.2⟩
 |14=>fun h=>⟨h.1,h.2.1,h.2.2.1,h.2.2.2⟩
 |15=>fun h=>⟨h.1,h.2.1,h.2.2⟩
 |16=>fun h=>⟨h.1,h.2.1,h.2.2⟩
 |17=>fun h=>⟨⟨h.1,⟨h.2.1,h.2.2.1,h.2.2.2.1,h.2.2.2.2.1⟩,h.2.2.2.2.2.1,h.2.2.2.2.2.2.1⟩,⟨h.2.2.2.2.2.2.2.1,h.2.2.2.2.2.2.2.2.1,h.2.2.2.2.2.2.2.2.2.1,h.2.2.2.2.2.2.2.2.2.2.1,h.2.2.2.2.2.2.2.2.2.2.2.1,h.2.2.2.2.2.2.2.2.2.2.2.2.1⟩,h.2.2.2.2.2.2.2.2.2.2.2.2.2.1,h.2.2.2.2.2.2.2.2.2.2.2.2.2.2⟩
 |18=>fun h=>h
 |19=>fun h=>⟨⟨h.1,h.2.1,h.2.2.1,h.2.2.2.1,h.2.2.2.2.1,h.2.2.2.2.2.1⟩,⟨h.2.2.2.2.2.2.1,h.2.2.2.2.2.2.2.1,h.2.2.2.2.2.2.2.2.1,h.2.2.2.2.2.2.2.2.2.1⟩,h.2.2.2.2.2.2.2.2.2.2⟩
 |20=>fun h=>⟨⟨h.1,h.2.1,h.2.2.1,h.2.2.2.1,h.2.2.2.2.1,h.2.2.2.2.2.1⟩,⟨h.2.2.2.2.2.2.1,h.2.2.2.2.2.2.2.1,h.2.2.2.2.2.2.2.2.1,h.2.2.2.2.2.2.2.2.2.1⟩,h.2.2.2.2.2.2.2.2.2.2⟩
 |21=>fun h=>⟨⟨h.1,h.2.1,h.2.2.1,h.2.2.2.1,h.2.2.2.2.1,h.2.2.2.2.2.1⟩,⟨h.2.2.2.2.2.2.1,h.2.2.2.2.2.2.2.1,h.2.2.2.2.2.2.2.2.1,h.2.2.2.2.2.2.2.2.2.1⟩,h.2.2.2.2.2.2.2.2.2.2.1,h.2.2.2.2.2.2.2.2.2.2.2⟩
 |_+22=>fun h=>h
def ZS:∀n:Nat,D n
 |0=>(0:Int)
 |1=>false
 |2=>ByteArray.empty
 |3=>(⟨[],(0:Int)⟩:Src)
 |4=>(⟨(0:Int),[],[],[],(0:Int),(0:Int)⟩:ak)
 |5=>(⟨(0:Int),(0:Int),(0:Int)⟩:aI)
 |6=>(⟨(0:Int),(0:Int),(0:Int)⟩:Source)
 |7=>(⟨(0:Int),(0:Int),(0:Int),(0:Int),[]⟩:Consumer)
 |8=>(⟨(0:Int),(0:Int),(0:Int)⟩:e_)
 |9=>(⟨(0:Int),⟨[],[],[],[]⟩,[],[]⟩:bt)
 |10=>(⟨(0:Int),(0:Int),(0:Int),(0:Int)⟩:az)
 |11=>(⟨(0:Int),(0:Int)⟩:Part)
 |12=>(⟨(0:Int),(0:Int)⟩:bi)
 |13=>(⟨(0:Int),⟨(0:Int),(0:Int),(0:Int)⟩,(0:Int)⟩:Event)
 |14=>(⟨[],[],[],[]⟩:ah)
 |15=>(⟨[],[],[]⟩:aP)
 |16=>(⟨(0:Int),(0:Int),(0:Int)⟩:Act)
 |17=>(⟨⟨(0:Int),⟨[],[],[],[]⟩,[],[]⟩,⟨(0:Int),[],[],[],(0:Int),(0:Int)⟩,[],[]⟩:ia)
 |18=>([]:(List Int))
 |19=>(⟨⟨(0:Int),[],[],[],(0:Int),(0:Int)⟩,⟨[],[],[],[]⟩,(0:Int)⟩:ka)
 |20=>(⟨⟨(0:Int),[],[],[],(0:Int),(0:Int)⟩,⟨[],[],[],[]⟩,[]⟩:dA)
 |21=>(⟨⟨(0:Int),[],[],[],(0:Int),(0:Int)⟩,⟨[],[],[],[]⟩,[],[]⟩:wS)
 |_+22=>(0:Int)
def T:aV D where
 lv:=Iu
 ag:=ZV
 wV:=ZT
 tS:=ZU
 zero:=ZS
 ty:=[(3,.one (.int .i64)),(4,.one .bool),(5,.one (.int .u8)),(22,.one (.sl 0)),(23,.ptr),(25,.one (.sl 5)),(26,.one (.sl 6)),(27,.one (.sl 7)),(29,.st 4),(32,.st 8),(34,.one (.sl 1)),(35,.one (.sl 10)),(36,.one (.sl 11)),(38,.st 14),(39,.one (.sl 12)),(40,.one (.sl 13)),(42,.st 9),(45,.one (.int .i64)),(48,.one (.sl 16)),(51,.st 16),(52,.one (.sl 14)),(56,.st 13),(61,.one (.sl 15)),(64,.st 15),(69,.st 3),(73,.st 5),(75,.st 6),(77,.st 7),(80,.st 12),(81,.ptr),(85,.st 17),(103,.fn),(112,.st 11),(127,.st 10),(137,.ptr),(139,.st 21),(145,.ptr),(166,.ptr),(168,.st 19),(180,.one (.int .u64)),(189,.st 20),(206,.one (.sl 18)),(213,.one (.int .u64))]
 oJ:=[(29,[(0,1),(1,1),(2,1),(3,1),(4,1),(5,1)]),(32,[(0,1),(1,1),(2,1)]),(38,[(0,1),(1,1),(2,1),(3,1)]),(42,[(0,1),(1,4),(5,1),(6,1)]),(51,[(0,1),(1,1),(2,1)]),(56,[(0,1),(1,3),(4,1)]),(64,[(0,1),(1,1),(2,1)]),(69,[(0,1),(1,1)]),(73,[(0,1),(1,1),(2,1)]),(75,[(0,1),(1,1),(2,1)]),(77,[(0,1),(1,1),(2,1),(3,1),(4,1)]),(80,[(0,1),(1,1)]),(85,[(0,7),(7,6),(13,1),(14,1)]),(112,[(0,1),(1,1)]),(127,[(0,1),(1,1),(2,1),(3,1)]),(139,[(0,6),(6,4),(10,1),(11,1)]),(168,[(0,6),(6,4),(10,1)]),(189,[(0,6),(6,4),(10,1)])]
 bV:=[(22,3,0),(25,73,5),(26,75,6),(27,77,7),(34,4,1),(35,127,10),(36,112,11),(39,80,12),(40,56,13),(48,51,16),(52,38,14),(61,64,15),(206,22,18)]
 uZ:=[(73,[(.int .i64),(.int .i64),(.int .i64)]),(112,[(.int .i64),(.int .i64)]),(127,[(.int .i64),(.int .i64),(.int .i64),(.int .i64)])]
 kd:=[(15,3,0),(18,3,0)]
 mi:=[]
 pre:=[143402,159786,196650]
 oe:=[]
theorem rd3:aK D Src (fun x=>[⟨(.sl 0),x.L⟩,⟨(.int .i64),x.At⟩]):=fun S w cs x=>(aK.prod (aK.sl 0) (aK.int):aK D ((List Int)×Int) _) S w cs (XK x)
theorem rd5:aK D aI (fun x=>[⟨(.int .i64),x.Kind⟩,⟨(.int .i64),x.A⟩,⟨(.int .i64),x.B⟩]):=fun S w cs x=>(aK.prod aK.int (aK.prod aK.int (aK.int)):aK D (Int×Int×Int) _) S w cs (X2 x)
theorem rd6:aK D Source (fun x=>[⟨(.int .i64),x.df⟩,⟨(.int .i64),x.cF⟩,⟨(.int .i64),x.Start⟩]):=fun S w cs x=>(aK.prod aK.int (aK.prod aK.int (aK.int)):aK D (Int×Int×Int) _) S w cs (XL x)
theorem rd7:aK D Consumer (fun x=>[⟨(.int .i64),x.cX⟩,⟨(.int .i64),x.cF⟩,⟨(.int .i64),x.ij⟩,⟨(.int .i64),x.j7⟩,⟨(.sl 0),x.bK⟩]):=fun S w cs x=>(aK.prod aK.int (aK.prod aK.int (aK.prod aK.int (aK.prod aK.int ((aK.sl 0))))):aK D (Int×Int×Int×Int×(List Int)) _) S w cs (X0 x)
theorem Ai:aK D ak (fun x=>[⟨(.int .i64),x.ai⟩,⟨(.sl 5),x.ab⟩,⟨(.sl 6),x.aa⟩,⟨(.sl 7),x.ae⟩,⟨(.int .i64),x.aG⟩,⟨(.int .i64),x.aB⟩]):=fun S w cs x=>(aK.prod aK.int (aK.prod (aK.sl 5) (aK.prod (aK.sl 6) (aK.prod (aK.sl 7) (aK.prod aK.int (aK.int))))):aK D (Int×(List aI)×(List Source)×(List Consumer)×Int×Int) _) S w cs (X3 x)
theorem rd8:aK D e_ (fun x=>[⟨(.int .i64),x.Start⟩,⟨(.int .i64),x.Stop⟩,⟨(.int .i64),x.lC⟩]):=fun S w cs x=>(aK.prod aK.int (aK.prod aK.int (aK.int)):aK D (Int×Int×Int) _) S w cs (XJ x)
theorem abx:aK D az (fun x=>[⟨(.int .i64),x.State⟩,⟨(.int .i64),x.eD⟩,⟨(.int .i64),x.aB⟩,⟨(.int .i64),x.aG⟩]):=fun S w cs x=>(aK.prod aK.int (aK.prod aK.int (aK.prod aK.int (aK.int))):aK D (Int×Int×Int×Int) _) S w cs (XM x)
theorem abw:aK D Part (fun x=>[⟨(.int .i64),x.Kind⟩,⟨(.int .i64),x.Number⟩]):=fun S w cs x=>(aK.prod aK.int (aK.int):aK D (Int×Int) _) S w cs (XR x)
theorem Aj:aK D ah (fun x=>[⟨(.sl 1),x.al⟩,⟨(.sl 10),x.aa⟩,⟨(.sl 0),x.ar⟩,⟨(.sl 11),x.ax⟩]):=fun S w cs x=>(aK.prod (aK.sl 1) (aK.prod (aK.sl 10) (aK.prod (aK.sl 0) ((aK.sl 11)))):aK D ((List Bool)×(List az)×(List Int)×(List Part)) _) S w cs (XP x)
theorem abv:aK D bi (fun x=>[⟨(.int .i64),x.nO⟩,⟨(.int .i64),x.nN⟩]):=fun S w cs x=>(aK.prod aK.int (aK.int):aK D (Int×Int) _) S w cs (XN x)
theorem Qj:aK D Act (fun x=>[⟨(.int .i64),x.Kind⟩,⟨(.int .i64),x.Unit⟩,⟨(.int .i64),x.Value⟩]):=fun S w cs x=>(aK.prod aK.int (aK.prod aK.int (aK.int)):aK D (Int×Int×Int) _) S w cs (X4 x)
theorem abu:aK D Event (fun x=>[⟨(.int .i64),x.Time⟩,⟨(.int .i64),x.Act.Kind⟩,⟨(.int .i64),x.Act.Unit⟩,⟨(.int .i64),x.Act.Value⟩,⟨(.int .i64),x.HU⟩]):=fun S w cs x=>(aK.prod aK.int (aK.prod Qj (aK.int)):aK D (Int×Act×Int) _) S w cs (XY x)
theorem Qi:aK D bt (fun x=>[⟨(.int .i64),x.Time⟩,⟨(.sl 1),x.ah.al⟩,⟨(.sl 10),x.ah.aa⟩,⟨(.sl 0),x.ah.ar⟩,⟨(.sl 11),x.ah.ax⟩,⟨(.sl 12),x.lA⟩,⟨(.sl 13),x.lB⟩]):=fun S w cs x=>(aK.prod aK.int (aK.prod Aj (aK.prod (aK.sl 12) ((aK.sl 13)))):aK D (Int×ah×(List bi)×(List Event)) _) S w cs (XQ x)
theorem abt:aK D aP (fun x=>[⟨(.sl 0),x.ai⟩,⟨(.sl 0),x.aa⟩,⟨(.sl 0),x.ae⟩]):=fun S w cs x=>(aK.prod (aK.sl 0) (aK.prod (aK.sl 0) ((aK.sl 0))):aK D ((List Int)×(List Int)×(List Int)) _) S w cs (XW x)
theorem abr:aK D ia (fun x=>[⟨(.int .i64),x.bt.Time⟩,⟨(.sl 1),x.bt.ah.al⟩,⟨(.sl 10),x.bt.ah.aa⟩,⟨(.sl 0),x.bt.ah.ar⟩,⟨(.sl 11),x.bt.ah.ax⟩,⟨(.sl 12),x.bt.lA⟩,⟨(.sl 13),x.bt.lB⟩,⟨(.int .i64),x.aA.ai⟩,⟨(.sl 5),x.aA.ab⟩,⟨(.sl 6),x.aA.aa⟩,⟨(.sl 7),x.aA.ae⟩,⟨(.int .i64),x.aA.aG⟩,⟨(.int .i64),x.aA.aB⟩,⟨(.sl 13),x.events⟩,⟨(.sl 14),x.rq⟩]):=fun S w cs x=>(aK.prod Qi (aK.prod Ai (aK.prod (aK.sl 13) ((aK.sl 14)))):aK D (bt×ak×(List Event)×(List ah)) _) S w cs (PT x)
theorem abp:aK D ka (fun x=>[⟨(.int .i64),x.aA.ai⟩,⟨(.sl 5),x.aA.ab⟩,⟨(.sl 6),x.aA.aa⟩,⟨(.sl 7),x.aA.ae⟩,⟨(.int .i64),x.aA.aG⟩,⟨(.int .i64),x.aA.aB⟩,⟨(.sl 1),x.aS.al⟩,⟨(.sl 10),x.aS.aa⟩,⟨(.sl 0),x.aS.ar⟩,⟨(.sl 11),x.aS.ax⟩,⟨(.int .i64),x.time⟩]):=fun S w cs x=>(aK.prod Ai (aK.prod Aj (aK.int)):aK D (ak×ah×Int) _) S w cs (O7 x)
theorem abo:aK D dA (fun x=>[⟨(.int .i64),x.aA.ai⟩,⟨(.sl 5),x.aA.ab⟩,⟨(.sl 6),x.aA.aa⟩,⟨(.sl 7),x.aA.ae⟩,⟨(.int .i64),x.aA.aG⟩,⟨(.int .i64),x.aA.aB⟩,⟨(.sl 1),x.aS.al⟩,⟨(.sl 10),x.aS.aa⟩,⟨(.sl 0),x.aS.ar⟩,⟨(.sl 11),x.aS.ax⟩,⟨(.sl 16),x.ml⟩]):=fun S w cs x=>(aK.prod Ai (aK.prod Aj ((aK.sl 16))):aK D (ak×ah×(List Act)) _) S w cs (P9 x)
theorem abn:aK D wS (fun x=>[⟨(.int .i64),x.aA.ai⟩,⟨(.sl 5),x.aA.ab⟩,⟨(.sl 6),x.aA.aa⟩,⟨(.sl 7),x.aA.ae⟩,⟨(.int .i64),x.aA.aG⟩,⟨(.int .i64),x.aA.aB⟩,⟨(.sl 1),x.aS.al⟩,⟨(.sl 10),x.aS.aa⟩,⟨(.sl 0),x.aS.ar⟩,⟨(.sl 11),x.aS.ax⟩,⟨(.sl 1),x.Mi⟩,⟨(.sl 16),x.ml⟩]):=fun S w cs x=>(aK.prod Ai (aK.prod Aj (aK.prod (aK.sl 1) ((aK.sl 16)))):aK D (ak×ah×(List Bool)×(List Act)) _) S w cs (Qv x)
theorem abq:aK D (List Int) (fun x=>[⟨.sl 0,x⟩]):=aK.sl 0
theorem fD:bR T where
 sz:=fun n=>match n with
  |0=>rfl
  |1=>rfl
  |2=>rfl
  |3=>rfl
  |4=>rfl
  |5=>rfl
  |6=>rfl
  |7=>rfl
  |8=>rfl
  |9=>rfl
  |10=>rfl
  |11=>rfl
  |12=>rfl
  |13=>rfl
  |14=>rfl
  |15=>rfl
  |16=>rfl
  |17=>rfl
  |18=>rfl
  |19=>rfl
  |20=>rfl
  |21=>rfl
  |_+22=>rfl
 ag:=fun n=>match n with
  |0=>rfl
  |1=>rfl
  |2=>rfl
  |3=>rfl
  |4=>rfl
  |5=>rfl
  |6=>rfl
  |7=>rfl
  |8=>rfl
  |9=>rfl
  |10=>rfl
  |11=>rfl
  |12=>rfl
  |13=>rfl
  |14=>rfl
  |15=>rfl
  |16=>rfl
  |17=>rfl
  |18=>rfl
  |19=>rfl
  |20=>rfl
  |21=>rfl
  |_+22=>rfl
 zc:=fun n=>match n with
  |0=>rfl
  |1=>rfl
  |2=>rfl
  |3=>rfl
  |4=>rfl
  |5=>rfl
  |6=>rfl
  |7=>rfl
  |8=>rfl
  |9=>rfl
  |10=>rfl
  |11=>rfl
  |12=>rfl
  |13=>rfl
  |14=>rfl
  |15=>rfl
  |16=>rfl
  |17=>rfl
  |18=>rfl
  |19=>rfl
  |20=>rfl
  |21=>rfl
  |_+22=>rfl
 zero:=fun n=>match n with
  |0=>rfl
  |1=>rfl
  |2=>rfl
  |3=>rfl
  |4=>rfl
  |5=>rfl
  |6=>rfl
  |7=>rfl
  |8=>rfl
  |9=>rfl
  |10=>rfl
  |11=>rfl
  |12=>rfl
  |13=>rfl
  |14=>rfl
  |15=>rfl
  |16=>rfl
  |17=>rfl
  |18=>rfl
  |19=>rfl
  |20=>rfl
  |21=>rfl
  |_+22=>rfl
 rd:=fun n S w cs x=>match n,x with
  |0,x=>aK.int S w cs x
  |1,x=>aK.bool S w cs x
  |2,x=>aK.str S w cs x
  |3,x=>rd3 S w cs x
  |4,x=>Ai S w cs x
  |5,x=>rd5 S w cs x
  |6,x=>rd6 S w cs x
  |7,x=>rd7 S w cs x
  |8,x=>rd8 S w cs x
  |9,x=>Qi S w cs x
  |10,x=>abx S w cs x
  |11,x=>abw S w cs x
  |12,x=>abv S w cs x
  |13,x=>abu S w cs x
  |14,x=>Aj S w cs x
  |15,x=>abt S w cs x
  |16,x=>Qj S w cs x
  |17,x=>abr S w cs x
  |18,x=>abq S w cs x
  |19,x=>abp S w cs x
  |20,x=>abo S w cs x
  |21,x=>abn S w cs x
  |_+22,x=>aK.int S w cs x
 oK:=fun n=>match n with
  |0=>by decide
  |1=>by decide
  |2=>by decide
  |3=>by decide
  |4=>by decide
  |5=>by decide
  |6=>by decide
  |7=>by decide
  |8=>by decide
  |9=>by decide
  |10=>by decide
  |11=>by decide
  |12=>by decide
  |13=>by decide
  |14=>by decide
  |15=>by decide
  |16=>by decide
  |17=>by decide
  |18=>by decide
  |19=>by decide
  |20=>by decide
  |21=>by decide
  |_+22=>by show 1≤48;decide
 EE:=fun n h=>match n,h with
  |0,h=>rfl
  |1,h=>rfl
  |2,h=>rfl
  |3,h=>rfl
  |4,h=>rfl
  |5,h=>rfl
  |6,h=>rfl
  |7,h=>rfl
  |8,h=>rfl
  |9,h=>rfl
  |10,h=>rfl
  |11,h=>rfl
  |12,h=>rfl
  |13,h=>rfl
  |14,h=>rfl
  |15,h=>rfl
  |16,h=>rfl
  |17,h=>rfl
  |18,h=>rfl
  |19,h=>rfl
  |20,h=>rfl
  |21,h=>rfl
  |_+22,h=>rfl
theorem Y':da Tryz.prog T 3 (.one (.int .i64)):=⟨bH.of Tryz.underlying3 rfl (by kernel_rfl),Tryz.underlying3⟩
theorem Y4:da Tryz.prog T 4 (.one .bool):=⟨bH.of Tryz.underlying4 rfl (by kernel_rfl),Tryz.underlying4⟩
theorem YZ:da Tryz.prog T 5 (.one (.int .u8)):=⟨bH.of Tryz.underlying5 rfl (by kernel_rfl),Tryz.underlying5⟩
theorem Zf:da Tryz.prog T 22 (.one (.sl 0)):=⟨bH.of Tryz.underlying22 rfl (by kernel_rfl),trivial⟩
theorem Ze:da Tryz.prog T 23 (.ptr):=⟨bH.of Tryz.underlying23 rfl (by kernel_rfl),trivial⟩
theorem Zd:da Tryz.prog T 25 (.one (.sl 5)):=⟨bH.of Tryz.underlying25 rfl (by kernel_rfl),trivial⟩
theorem Zc:da Tryz.prog T 26 (.one (.sl 6)):=⟨bH.of Tryz.underlying26 rfl (by kernel_rfl),trivial⟩
theorem Zb:da Tryz.prog T 27 (.one (.sl 7)):=⟨bH.of Tryz.underlying27 rfl (by kernel_rfl),trivial⟩
theorem Za:da Tryz.prog T 29 (.st 4):=⟨bH.of Tryz.underlying29 rfl (by kernel_rfl),trivial⟩
theorem Y_:da Tryz.prog T 32 (.st 8):=⟨bH.of Tryz.underlying32 rfl (by kernel_rfl),trivial⟩
theorem Y9:da Tryz.prog T 34 (.one (.sl 1)):=⟨bH.of Tryz.underlying34 rfl (by kernel_rfl),trivial⟩
theorem Y8:da Tryz.prog T 35 (.one (.sl 10)):=⟨bH.of Tryz.underlying35 rfl (by kernel_rfl),trivial⟩
theorem Y7:da Tryz.prog T 36 (.one (.sl 11)):=⟨bH.of Tryz.underlying36 rfl (by kernel_rfl),trivial⟩
theorem Y6:da Tryz.prog T 38 (.st 14):=⟨bH.of Tryz.underlying38 rfl (by kernel_rfl),trivial⟩
theorem Y5:da Tryz.prog T 39 (.one (.sl 12)):=⟨bH.of Tryz.underlying39 rfl (by kernel_rfl),trivial⟩
theorem Y3:da Tryz.prog T 40 (.one (.sl 13)):=⟨bH.of Tryz.underlying40 rfl (by kernel_rfl),trivial⟩
theorem Y2:da Tryz.prog T 42 (.st 9):=⟨bH.of Tryz.underlying42 rfl (by kernel_rfl),trivial⟩
theorem Y1:da Tryz.prog T 45 (.one (.int .i64)):=⟨bH.of Tryz.underlying45 rfl (by kernel_rfl),Tryz.underlying45⟩
theorem Y0:da Tryz.prog T 48 (.one (.sl 16)):=⟨bH.of Tryz.underlying48 rfl (by kernel_rfl),trivial⟩
theorem YY:da Tryz.prog T 51 (.st 16):=⟨bH.of Tryz.underlying51 rfl (by kernel_rfl),trivial⟩
theorem YX:da Tryz.prog T 52 (.one (.sl 14)):=⟨bH.of Tryz.underlying52 rfl (by kernel_rfl),trivial⟩
theorem YW:da Tryz.prog T 56 (.st 13):=⟨bH.of Tryz.underlying56 rfl (by kernel_rfl),trivial⟩
theorem YV:da Tryz.prog T 61 (.one (.sl 15)):=⟨bH.of Tryz.underlying61 rfl (by kernel_rfl),trivial⟩
theorem YU:da Tryz.prog T 64 (.st 15):=⟨bH.of Tryz.underlying64 rfl (by kernel_rfl),trivial⟩
theorem YT:da Tryz.prog T 69 (.st 3):=⟨bH.of Tryz.underlying69 rfl (by kernel_rfl),trivial⟩
theorem YS:da Tryz.prog T 73 (.st 5):=⟨bH.of Tryz.underlying73 rfl (by kernel_rfl),trivial⟩
theorem YR:da Tryz.prog T 75 (.st 6):=⟨bH.of Tryz.underlying75 rfl (by kernel_rfl),trivial⟩
theorem YQ:da Tryz.prog T 77 (.st 7):=⟨bH.of Tryz.underlying77 rfl (by kernel_rfl),trivial⟩
theorem YP:da Tryz.prog T 80 (.st 12):=⟨bH.of Tryz.underlying80 rfl (by kernel_rfl),trivial⟩
theorem YO:da Tryz.prog T 81 (.ptr):=⟨bH.of Tryz.underlying81 rfl (by kernel_rfl),trivial⟩
theorem YN:da Tryz.prog T 85 (.st 17):=⟨bH.of Tryz.underlying85 rfl (by kernel_rfl),trivial⟩
theorem Zr:da Tryz.prog T 103 (.fn):=⟨bH.of Tryz.underlying103 rfl (by kernel_rfl),trivial⟩
theorem Zq:da Tryz.prog T 112 (.st 11):=⟨bH.of Tryz.underlying112 rfl (by kernel_rfl),trivial⟩
theorem Zp:da Tryz.prog T 127 (.st 10):=⟨bH.of Tryz.underlying127 rfl (by kernel_rfl),trivial⟩
theorem Zo:da Tryz.prog T 137 (.ptr):=⟨bH.of Tryz.underlying137 rfl (by kernel_rfl),trivial⟩
theorem Zn:da Tryz.prog T 139 (.st 21):=⟨bH.of Tryz.underlying139 rfl (by kernel_rfl),trivial⟩
theorem Zm:da Tryz.prog T 145 (.ptr):=⟨bH.of Tryz.underlying145 rfl (by kernel_rfl),trivial⟩
theorem Zl:da Tryz.prog T 166 (.ptr):=⟨bH.of Tryz.underlying166 rfl (by kernel_rfl),trivial⟩
theorem Zk:da Tryz.prog T 168 (.st 19):=⟨bH.of Tryz.underlying168 rfl (by kernel_rfl),trivial⟩
theorem Zj:da Tryz.prog T 180 (.one (.int .u64)):=⟨bH.of Tryz.underlying180 rfl (by kernel_rfl),Tryz.underlying180⟩
theorem Zi:da Tryz.prog T 189 (.st 20):=⟨bH.of Tryz.underlying189 rfl (by kernel_rfl),trivial⟩
theorem Zh:da Tryz.prog T 206 (.one (.sl 18)):=⟨bH.of Tryz.underlying206 rfl (by kernel_rfl),trivial⟩
theorem Zg:da Tryz.prog T 213 (.one (.int .u64)):=⟨bH.of Tryz.underlying213 rfl (by kernel_rfl),Tryz.underlying213⟩
theorem zy:Tryz.prog.underlying 22=some (.slice 3)∧bJ Tryz.prog 3 (D 0):=⟨Tryz.underlying22,bJ.of Tryz.underlying3 rfl (by kernel_rfl)⟩
theorem aaz:Tryz.prog.underlying 25=some (.slice 73)∧bJ Tryz.prog 73 (D 5):=⟨Tryz.underlying25,bJ.of Tryz.underlying73 rfl (by kernel_rfl)⟩
theorem aay:Tryz.prog.underlying 26=some (.slice 75)∧bJ Tryz.prog 75 (D 6):=⟨Tryz.underlying26,bJ.of Tryz.underlying75 rfl (by kernel_rfl)⟩
theorem aax:Tryz.prog.underlying 27=some (.slice 77)∧bJ Tryz.prog 77 (D 7):=⟨Tryz.underlying27,bJ.of Tryz.underlying77 rfl (by kernel_rfl)⟩
theorem zx:Tryz.prog.underlying 34=some (.slice 4)∧bJ Tryz.prog 4 (D 1):=⟨Tryz.underlying34,bJ.of Tryz.underlying4 rfl (by kernel_rfl)⟩
theorem zw:Tryz.prog.underlying 35=some (.slice 127)∧bJ Tryz.prog 127 (D 10):=⟨Tryz.underlying35,bJ.of Tryz.underlying127 rfl (by kernel_rfl)⟩
theorem qt:Tryz.prog.underlying 36=some (.slice 112)∧bJ Tryz.prog 112 (D 11):=⟨Tryz.underlying36,bJ.of Tryz.underlying112 rfl (by kernel_rfl)⟩
theorem zv:Tryz.prog.underlying 39=some (.slice 80)∧bJ Tryz.prog 80 (D 12):=⟨Tryz.underlying39,bJ.of Tryz.underlying80 rfl (by kernel_rfl)⟩
theorem zu:Tryz.prog.underlying 40=some (.slice 56)∧bJ Tryz.prog 56 (D 13):=⟨Tryz.underlying40,bJ.of Tryz.underlying56 rfl (by kernel_rfl)⟩
theorem aaw:Tryz.prog.underlying 48=some (.slice 51)∧bJ Tryz.prog 51 (D 16):=⟨Tryz.underlying48,bJ.of Tryz.underlying51 rfl (by kernel_rfl)⟩
theorem aav:Tryz.prog.underlying 52=some (.slice 38)∧bJ Tryz.prog 38 (D 14):=⟨Tryz.underlying52,bJ.of Tryz.underlying38 rfl (by kernel_rfl)⟩
theorem aau:Tryz.prog.underlying 61=some (.slice 64)∧bJ Tryz.prog 64 (D 15):=⟨Tryz.underlying61,bJ.of Tryz.underlying64 rfl (by kernel_rfl)⟩
theorem aaA:Tryz.prog.underlying 206=some (.slice 22)∧bJ Tryz.prog 22 (D 18):=⟨Tryz.underlying206,bJ.of Tryz.underlying22 rfl (by kernel_rfl)⟩
theorem ahn:gZ Tryz.prog 29 [(0,1),(1,1),(2,1),(3,1),(4,1),(5,1)]∧∀i off sz,[((0:Nat),(1:Nat)),((1:Nat),(1:Nat)),((2:Nat),(1:Nat)),((3:Nat),(1:Nat)),((4:Nat),(1:Nat)),((5:Nat),(1:Nat))][i]? =some (off,sz)→g9 Tryz.prog 29 i off:=jA ⟨_,Tryz.underlying29,by kernel_rfl⟩ rfl
theorem ahm:gZ Tryz.prog 32 [(0,1),(1,1),(2,1)]∧∀i off sz,[((0:Nat),(1:Nat)),((1:Nat),(1:Nat)),((2:Nat),(1:Nat))][i]? =some (off,sz)→g9 Tryz.prog 32 i off:=jA ⟨_,Tryz.underlying32,by kernel_rfl⟩ rfl
theorem ahl:gZ Tryz.prog 38 [(0,1),(1,1),(2,1),(3,1)]∧∀i off sz,[((0:Nat),(1:Nat)),((1:Nat),(1:Nat)),((2:Nat),(1:Nat)),((3:Nat),(1:Nat))][i]? =some (off,sz)→g9 Tryz.prog 38 i off:=jA ⟨_,Tryz.underlying38,by kernel_rfl⟩ rfl
theorem ahk:gZ Tryz.prog 42 [(0,1),(1,4),(5,1),(6,1)]∧∀i off sz,[((0:Nat),(1:Nat)),((1:Nat),(4:Nat)),((5:Nat),(1:Nat)),((6:Nat),(1:Nat))][i]? =some (off,sz)→g9 Tryz.prog 42 i off:=jA ⟨_,Tryz.underlying42,by kernel_rfl⟩ rfl
theorem ahj:gZ Tryz.prog 51 [(0,1),(1,1),(2,1)]∧∀i off sz,[((0:Nat),(1:Nat)),((1:Nat),(1:Nat)),((2:Nat),(1:Nat))][i]? =some (off,sz)→g9 Tryz.prog 51 i off:=jA ⟨_,Tryz.underlying51,by kernel_rfl⟩ rfl
theorem ahi:gZ Tryz.prog 56 [(0,1),(1,3),(4,1)]∧∀i off sz,[((0:Nat),(1:Nat)),((1:Nat),(3:Nat)),((4:Nat),(1:Nat))][i]? =some (off,sz)→g9 Tryz.prog 56 i off:=jA ⟨_,Tryz.underlying56,by kernel_rfl⟩ rfl
theorem ahh:gZ Tryz.prog 64 [(0,1),(1,1),(2,1)]∧∀i off sz,[((0:Nat),(1:Nat)),((1:Nat),(1:Nat)),((2:Nat),(1:Nat))][i]? =some (off,sz)→g9 Tryz.prog 64 i off:=jA ⟨_,Tryz.underlying64,by kernel_rfl⟩ rfl
theorem ahg:gZ Tryz.prog 69 [(0,1),(1,1)]∧∀i off sz,[((0:Nat),(1:Nat)),((1:Nat),(1:Nat))][i]? =some (off,sz)→g9 Tryz.prog 69 i off:=jA ⟨_,Tryz.underlying69,by kernel_rfl⟩ rfl
theorem ahf:gZ Tryz.prog 73 [(0,1),(1,1),(2,1)]∧∀i off sz,[((0:Nat),(1:Nat)),((1:Nat),(1:Nat)),((2:Nat),(1:Nat))][i]? =some (off,sz)→g9 Tryz.prog 73 i off:=jA ⟨_,Tryz.underlying73,by kernel_rfl⟩ rfl
theorem ahe:gZ Tryz.prog 75 [(0,1),(1,1),(2,1)]∧∀i off sz,[((0:Nat),(1:Nat)),((1:Nat),(1:Nat)),((2:Nat),(1:Nat))][i]? =some (off,sz)→g9 Tryz.prog 75 i off:=jA ⟨_,Tryz.underlying75,by kernel_rfl⟩ rfl
theorem ahd:gZ Tryz.prog 77 [(0,1),(1,1),(2,1),(3,1),(4,1)]∧∀i off sz,[((0:Nat),(1:Nat)),((1:Nat),(1:Nat)),((2:Nat),(1:Nat)),((3:Nat),(1:Nat)),((4:Nat),(1:Nat))][i]? =some (off,sz)→g9 Tryz.prog 77 i off:=jA ⟨_,Tryz.underlying77,by kernel_rfl⟩ rfl
theorem ahc:gZ Tryz.prog 80 [(0,1),(1,1)]∧∀i off sz,[((0:Nat),(1:Nat)),((1:Nat),(1:Nat))][i]? =some (off,sz)→g9 Tryz.prog 80 i off:=jA ⟨_,Tryz.underlying80,by kernel_rfl⟩ rfl
theorem ahb:gZ Tryz.prog 85 [(0,7),(7,6),(13,1),(14,1)]∧∀i off sz,[((0:Nat),(7:Nat)),((7:Nat),(6:Nat)),((13:Nat),(1:Nat)),((14:Nat),(1:Nat))][i]? =some (off,sz)→g9 Tryz.prog 85 i off:=jA ⟨_,Tryz.underlying85,by kernel_rfl⟩ rfl
theorem ahs:gZ Tryz.prog 112 [(0,1),(1,1)]∧∀i off sz,[((0:Nat),(1:Nat)),((1:Nat),(1:Nat))][i]? =some (off,sz)→g9 Tryz.prog 112 i off:=jA ⟨_,Tryz.underlying112,by kernel_rfl⟩ rfl
theorem ahr:gZ Tryz.prog 127 [(0,1),(1,1),(2,1),(3,1)]∧∀i off sz,[((0:Nat),(1:Nat)),((1:Nat),(1:Nat)),((2:Nat),(1:Nat)),((3:Nat),(1:Nat))][i]? =some (off,sz)→g9 Tryz.prog 127 i off:=jA ⟨_,Tryz.underlying127,by kernel_rfl⟩ rfl
theorem ahq:gZ Tryz.prog 139 [(0,6),(6,4),(10,1),(11,1)]∧∀i off sz,[((0:Nat),(6:Nat)),((6:Nat),(4:Nat)),((10:Nat),(1:Nat)),((11:Nat),(1:Nat))][i]? =some (off,sz)→g9 Tryz.prog 139 i off:=jA ⟨_,Tryz.underlying139,by kernel_rfl⟩ rfl
theorem ahp:gZ Tryz.prog 168 [(0,6),(6,4),(10,1)]∧∀i off sz,[((0:Nat),(6:Nat)),((6:Nat),(4:Nat)),((10:Nat),(1:Nat))][i]? =some (off,sz)→g9 Tryz.prog 168 i off:=jA ⟨_,Tryz.underlying168,by kernel_rfl⟩ rfl
theorem aho:gZ Tryz.prog 189 [(0,6),(6,4),(10,1)]∧∀i off sz,[((0:Nat),(6:Nat)),((6:Nat),(4:Nat)),((10:Nat),(1:Nat))][i]? =some (off,sz)→g9 Tryz.prog 189 i off:=jA ⟨_,Tryz.underlying189,by kernel_rfl⟩ rfl
theorem qY:fy Tryz.prog 3 false [(.int .i64)] 1:=fy.int Tryz.underlying3
theorem ahK:fy Tryz.prog 73 true [(.int .i64),(.int .i64),(.int .i64)] 2:=by
 refine fy.struct (k:=1) Tryz.underlying73 (by kernel_rfl) ?_
 exact⟨by simp,rfl,false,[(.int .i64)],[(.int .i64),(.int .i64)],[.int .i64 0],rfl,bH.of Tryz.underlying3 rfl (by kernel_rfl),rfl,fun _=>rfl,qY.up (by decide),⟨by simp,rfl,false,[(.int .i64)],[(.int .i64)],[.int .i64 0],rfl,bH.of Tryz.underlying3 rfl (by kernel_rfl),rfl,fun _=>rfl,qY.up (by decide),⟨by simp,rfl,false,[(.int .i64)],[],[.int .i64 0],rfl,bH.of Tryz.underlying3 rfl (by kernel_rfl),rfl,fun _=>rfl,qY.up (by decide),rfl⟩⟩⟩
theorem ahH:yS Tryz.prog 73 [(.int .i64),(.int .i64),(.int .i64)]∧([(.int .i64),(.int .i64),(.int .i64)]:List Lf).all ji=true:=⟨⟨⟨2,by decide,ahK⟩,by kernel_rfl⟩,rfl⟩
theorem ahM:fy Tryz.prog 112 true [(.int .i64),(.int .i64)] 2:=by
 refine fy.struct (k:=1) Tryz.underlying112 (by kernel_rfl) ?_
 exact⟨by simp,rfl,false,[(.int .i64)],[(.int .i64)],[.int .i64 0],rfl,bH.of Tryz.underlying3 rfl (by kernel_rfl),rfl,fun _=>rfl,qY.up (by decide),⟨by simp,rfl,false,[(.int .i64)],[],[.int .i64 0],rfl,bH.of Tryz.underlying3 rfl (by kernel_rfl),rfl,fun _=>rfl,qY.up (by decide),rfl⟩⟩
theorem ahJ:yS Tryz.prog 112 [(.int .i64),(.int .i64)]∧([(.int .i64),(.int .i64)]:List Lf).all ji=true:=⟨⟨⟨2,by decide,ahM⟩,by kernel_rfl⟩,rfl⟩
theorem ahL:fy Tryz.prog 127 true [(.int .i64),(.int .i64),(.int .i64),(.int .i64)] 2:=by
 refine fy.struct (k:=1) Tryz.underlying127 (by kernel_rfl) ?_
 exact⟨by simp,rfl,false,[(.int .i64)],[(.int .i64),(.int .i64),(.int .i64)],[.int .i64 0],rfl,bH.of Tryz.underlying3 rfl (by kernel_rfl),rfl,fun _=>rfl,qY.up (by decide),⟨by simp,rfl,false,[(.int .i64)],[(.int .i64),(.int .i64)],[.int .i64 0],rfl,bH.of Tryz.underlying3 rfl (by kernel_rfl),rfl,fun _=>rfl,qY.up (by decide),⟨by simp,rfl,false,[(.int .i64)],[(.int .i64)],[.int .i64 0],rfl,bH.of Tryz.underlying3 rfl (by kernel_rfl),rfl,fun _=>rfl,qY.up (by decide),⟨by simp,rfl,false,[(.int .i64)],[],[.int .i64 0],rfl,bH.of Tryz.underlying3 rfl (by kernel_rfl),rfl,fun _=>rfl,qY.up (by decide),rfl⟩⟩⟩⟩
theorem ahI:yS Tryz.prog 127 [(.int .i64),(.int .i64),(.int .i64),(.int .i64)]∧([(.int .i64),(.int .i64),(.int .i64),(.int .i64)]:List Lf).all ji=true:=⟨⟨⟨2,by decide,ahL⟩,by kernel_rfl⟩,rfl⟩
instance:Flat aI:=⟨fun h=>Flat.any (α:=Int×Int×Int) h⟩
instance:Flat Source:=⟨fun h=>Flat.any (α:=Int×Int×Int) h⟩
instance:Flat e_:=⟨fun h=>Flat.any (α:=Int×Int×Int) h⟩
instance:Flat az:=⟨fun h=>Flat.any (α:=Int×Int×Int×Int) h⟩
instance:Flat Part:=⟨fun h=>Flat.any (α:=Int×Int) h⟩
instance:Flat bi:=⟨fun h=>Flat.any (α:=Int×Int) h⟩
instance:Flat Act:=⟨fun h=>Flat.any (α:=Int×Int×Int) h⟩
instance:Flat Event:=⟨fun h=>Flat.any (α:=Int×Act×Int) h⟩
theorem ahx:Flat (D 0):=(inferInstance:Flat Int)
theorem ahw:Flat (D 1):=(inferInstance:Flat Bool)
theorem ahv:Flat (D 10):=(inferInstance:Flat az)
theorem Mo:Flat (D 11):=(inferInstance:Flat Part)
theorem ahu:Flat (D 12):=(inferInstance:Flat bi)
theorem aht:Flat (D 13):=(inferInstance:Flat Event)
instance:jK aP:=⟨fun h=>jK.loc (α:=(List Int)×(List Int)×(List Int)) h⟩
theorem adm:CD Tryz.prog D 15 3 0:=⟨(inferInstance:jK aP),(inferInstance:Flat Int),bJ.of Tryz.underlying3 rfl (by kernel_rfl),rfl⟩
theorem adl:CD Tryz.prog D 18 3 0:=⟨(inferInstance:jK (List Int)),(inferInstance:Flat Int),bJ.of Tryz.underlying3 rfl (by kernel_rfl),rfl⟩
theorem fN:dg Tryz.prog T:=dg.of (⟨Y',Y4,YZ,Zf,Ze,Zd,Zc,Zb,Za,Y_,Y9,Y8,Y7,Y6,Y5,Y3,Y2,Y1,Y0,YY,YX,YW,YV,YU,YT,YS,YR,YQ,YP,YO,YN,Zr,Zq,Zp,Zo,Zn,Zm,Zl,Zk,Zj,Zi,Zh,Zg,trivial⟩) (⟨zy,aaz,aay,aax,zx,zw,qt,zv,zu,aaw,aav,aau,aaA,trivial⟩) (⟨ahn,ahm,ahl,ahk,ahj,ahi,ahh,ahg,ahf,ahe,ahd,ahc,ahb,ahs,ahr,ahq,ahp,aho,trivial⟩) (⟨ahH,ahJ,ahI,trivial⟩) (⟨adm,adl,trivial⟩) (trivial) (trivial)
theorem fg:Tryz.prog.follows .mixedOrders=true:=by kernel_rfl
def gG(f:Func):Code:=match f.body with
 |some c=>c
 |none=> .skip
end Rx
end Go.Proofs.YtaneejpkncdodaaGreat
