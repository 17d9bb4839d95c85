import Derived.Test.YtgaghlbepnjhiaaGreatRt
import Derived.Test.YtgaghlbepnjhiaaGreatHc
set_option maxRecDepth 100000
set_option linter.all false
open Bool renaming false->ae,true->ab
open Decidable renaming decide->ak
open Nat renaming ble->eN
open Option renaming some->aa
open Sum renaming elim->cQ
noncomputable section
namespace Go.Proofs.YtgaghlbepnjhiaaGreat
open Go Go.RowKit Dp
namespace Rx
open Tryz
abbrev jV:=Int×List cL×List Source×List Consumer×Int×Int×List Bool×List bu×List Int×List Part×List Act
abbrev wC:=Int×Int×Int×Int×Int×Int×Int×Int×Int×Int×Int×Int×Int×Int×Int×Int×Int×Int×Int×Int×Int×Int×Int×Int×Int×ByteArray×Int×Int×Int×Int×Int×Int×List Int×Int×List Int×List Int×List Int×List Int×List Int×List Int×List Int×List Int×List Int×List b9×List cL×List Source×List Consumer×List Part×List fI×List jt×List ld×List nC
abbrev rc:=Int×List Bool×List bu×List Int×List Part×List eH×List Event
abbrev ov:=List Bool×List bu×List Int×List Part
abbrev Rk:=List Int×Int×Int×Int×Int×Int×Int×Int×Int×Int×Int×Int×Int×Int×Int×Int×Int×Int×Int×Int×Int×Int×Int×Int×Int×Int×Int×ByteArray×Int×Int×Int×Int×Int×Int×Int×Int×Int×List b9×List cL×List Consumer
abbrev Rj:=Int×List Bool×List bu×List Int×List Part×Int×List cL×List Source×List Consumer×Int×Int×List eH×List Event×List Bool×List bu×List Int×List Part×List Event×List aw
abbrev Gm:=Int×List Int×Int×List cL×List Source×List Consumer×List Bool×List bu×List Int×List Part×List eH
abbrev gR:=Int×Int×Int
abbrev Gl:=Int×Int×List cL×List Source×List Consumer×Int×Int×Int×ov
abbrev CZ:=List Int×Int×Int×Int×Int×List cL×List Source
abbrev Kq:=List Bool×List bu×List Int×List Part×List Act
abbrev uX:=List Int×Int×List Int
abbrev sq:=Int×Int×List Int
abbrev Ro:=Int×List cL×List Source×List Consumer×Int×Int×List Int×List Act
abbrev uW:=Int×List Int×Int
abbrev Rn:=Int×Int×Int×List Int×Int×List cL×List Source×List Consumer
abbrev aad:=Int×List cL×List Source×List Consumer×Int×Int×List Bool×List bu×List Int×List Part×List Int×List Act
abbrev Ko:=Int×Int×Int×Int×Int×Int×List fZ
abbrev C0:=List fI×List Int×Int
abbrev Rm:=List Int×Int×Int×Int×Int×List cL×List Consumer
abbrev aac:=Int×List cL×List Source×List Consumer×Int×Int×List Bool×List bu×List Int×List Part×Kq
abbrev Km:=List Int×List Int×List Int×Bool
abbrev Kl:=Int×Int×Int×Int×Int×List iP
abbrev aab:=Int×Int×List Bool×List bu×List Int×List Part×List eH×List Event×List Int
abbrev xU:=Int×Int×Bool
abbrev Rl:=List Int×Int×Int×Int×Int×List cL
abbrev Kk:=List Int×Int×List Consumer
abbrev qB(k n:Nat):J:=⟨[.lf .bool],[(k,.one (.h 0 []))],[],[],n⟩
abbrev qr(j:J):An:= .r (aa (ab,[(.normal,j)])) .nil
abbrev qp(j:J)(x y:An):An:= .n (aa (ab,[(.normal,j)])) x y
abbrev qt(k n:Nat):An:=qr (qB k n)
abbrev qu(k n:Nat)(x y:An):An:=qp (qB k n) x y
abbrev qn(x:An):An:= .n none .o x
abbrev qm(x y:An):An:= .n none x y
abbrev qi:Ht:= .lf (.int .i64)
abbrev aL:Ht:= .lf (.sl 0)
abbrev cq:Ht:= .lf (.sl 1)
abbrev bh:Ht:= .lf (.sl 10)
abbrev fN:Ht:= .lf (.sl 11)
abbrev gj:Ht:= .lf (.sl 12)
abbrev Ag:Ht:= .lf (.sl 13)
abbrev wO:Ht:= .lf (.sl 14)
abbrev jy:Ht:= .lf (.sl 16)
abbrev sy:Ht:= .lf (.sl 17)
abbrev kQ:Ht:= .lf (.sl 19)
abbrev mW:Ht:= .lf (.sl 20)
abbrev Af:Ht:= .lf (.sl 21)
abbrev Ae:Ht:= .lf (.sl 22)
abbrev oA:Ht:= .lf (.sl 29)
abbrev rl:Ht:= .lf (.sl 33)
abbrev vj:Ht:= .lf (.sl 37)
abbrev DE:Ht:= .lf (.sl 38)
abbrev db:Ht:= .lf (.sl 4)
abbrev DD:Ht:= .lf (.sl 48)
abbrev dN:Ht:= .lf (.sl 5)
abbrev dz:Ht:= .lf (.sl 6)
abbrev cN:Ht:= .lf (.sl 9)
abbrev aN:PC:= .one (.h 0 [])
abbrev dE:PC:= .one (.h 1 [])
abbrev Ai:PC:= .one (.h 11 [])
abbrev lB:PC:= .one (.h 2 [])
abbrev sC:PC:= .one (.h 3 [])
abbrev DF:PC:= .one (.h 4 [])
abbrev Ah:PC:= .one (.h 6 [])
abbrev bB:P1:= .h 0 []
abbrev bp:P1:= .h 1 []
abbrev kS:P1:= .h 10 []
abbrev nK:P1:= .h 11 []
abbrev mY:P1:= .h 12 []
abbrev rn:P1:= .h 13 []
abbrev yp:P1:= .h 14 []
abbrev wP:P1:= .h 16 []
abbrev cf:P1:= .h 2 []
abbrev As:P1:= .h 20 []
abbrev Ar:P1:= .h 21 []
abbrev Aq:P1:= .h 22 []
abbrev Ap:P1:= .h 23 []
abbrev Ao:P1:= .h 24 []
abbrev Am:P1:= .h 29 []
abbrev dm:P1:= .h 3 []
abbrev Al:P1:= .h 30 []
abbrev Ak:P1:= .h 31 []
abbrev yo:P1:= .h 33 []
abbrev cr:P1:= .h 4 []
abbrev bQ:P1:= .h 5 []
abbrev ep:P1:= .h 6 []
abbrev ib:P1:= .h 7 []
abbrev tN:P1:= .h 8 []
abbrev qj:P1:= .h 9 []
abbrev bS:P1:= .h 0 [0]
abbrev bR:P1:= .h 1 [0]
abbrev Aj:P1:= .h 10 [0]
abbrev bI:P1:= .h 2 [0]
abbrev bU:P1:= .h 3 [0]
abbrev ei:P1:= .h 4 [0]
abbrev kR:P1:= .h 5 [0]
abbrev jL:P1:= .h 6 [0]
abbrev km:P1:= .h 7 [0]
abbrev mX:P1:= .h 8 [0]
abbrev rm:P1:= .h 9 [0]
abbrev qa:PC:= .one (.any)
abbrev qw(x y:An):An:=qn (qm x y)
abbrev qv(x:An):An:=qn (qn x)
abbrev qb{β:Type}(h:Int×List cL×List Source×List Consumer×Int×Int×β):au:=⟨h.1,h.2.1,h.2.2.1,h.2.2.2.1,h.2.2.2.2.1,h.2.2.2.2.2.1⟩
abbrev z0:List Ht:=[aL,aL,aL,aL,aL,aL,aL,aL,qi,qi,qi,qi,qi,qi,jy,qi,db,dN,dz,qi,qi,qi,qi,qi,bh,kQ,mW,Af,qi,qi,qi,qi,qi,qi,qi,qi,qi,qi,qi,qi,qi,.lf .str,qi,qi,qi,qi,qi,qi,Ae,qi,cq,cN,aL,bh,fN,gj,bh,qi,qi,qi]
abbrev z1:List Ht:=[qi,db,dN,dz,qi,qi,cq,cN,aL,bh,qi]
abbrev z2:List PC:=[.agg [bS,bR,bI,bU,ei,kR,jL,km,mX,qj,kS,nK,mY,rn,yp,.h 15 [0],wP,.h 17 [0],.h 18 [0],.h 19 [0],As,Ar,Aq,Ap,Ao,.h 25 [0],.h 26 [0],.h 27 [0],.h 28 [0],Am,Al,Ak,.h 32 [],yo,.h 34 [],.h 35 [],.h 36 [],.h 37 [],.h 38 [],.h 39 [],.h 40 [],.h 41 [],.h 42 [],.h 43 [],.h 44 [],.h 45 [],.h 46 [],.h 47 [],.h 48 [],.h 49 [0]],.agg [.h 50 [],.h 51 [0],.h 52 [0],.h 53 [0],.h 54 [0],.h 55 [0],.h 56 [0]],.one (.h 57 [0]),.agg [.h 58 [],.h 59 [],.h 60 []]]
abbrev z3:An:=(qn (qm (qn (qm (.loop ⟨[qi],[(8,aN)],[],[],2576⟩ ae [(.exit 0,⟨[],[],[],[],2576⟩)] .o) .o)) .o))
abbrev z4:List PC:=[.agg [bB,bR,bI,bU,cr,bQ],.agg [jL,km,mX,rm],.one (kS)]
abbrev z5:List PC:=[aN]
abbrev z6:List Ht:=[qi,db,dN,dz,qi,qi,cq,cN,aL,bh,oA]
abbrev z7:List Ht:=[qi,qi,db,dN,dz,qi,qi,qi,cq,cN,aL,bh]
abbrev z8:List Ht:=[qi]
abbrev z9:List Ht:=[qi,qi]
abbrev ZO:An:=(qn (qm (qn (qm (.loop ⟨[qi,aL],[(4,.one (.own 3024)),(15,aN)],[(3024,.sl 0 3 1 [])],[],3088⟩ ab [(.exit 0,⟨[aL],[(4,.one (.own 3024))],[(3024,.sl 0 3 0 [])],[],3088⟩)] (qn (qn (qm (qm (qn (qm (qr ⟨[.lf .bool],[(29,qa),(30,qa),(31,qa),(32,aN)],[],[],4050⟩) (qp ⟨[aL],[(4,.one (.own 4051))],[(4051,.sl 0 3 0 [])],[3024],4115⟩ .o .o))) .o) .o)))) .o)) (qn (qm (.loop ⟨[qi,qi,db,dN,dz,qi,qi,cq,cN,aL,bh,oA],[(40,aN)],[(1000,.box [bp,bI,bU,ei,bQ,ep,.own 1001,.own 1002,.own 1003,.own 1004,.own 3473]),(1001,.sl 1 4 7 []),(1002,.sl 9 163 8 []),(1003,.sl 0 3 9 []),(1004,.sl 10 80 10 []),(3473,.sl 29 135 11 [])],[1000,1001,1002,1003,1004,1005],3537⟩ ab [(.exit 2,⟨z6,[],[(1000,.box [bB,bR,bI,bU,cr,bQ,.own 1001,.own 1002,.own 1003,.own 1004,.own 3473]),(1001,.sl 1 4 6 []),(1002,.sl 9 163 7 []),(1003,.sl 0 3 8 []),(1004,.sl 10 80 9 []),(3473,.sl 29 135 10 [])],[1000,1001,1002,1003,1004,1005],3537⟩)] .o) .o))))
abbrev tB:List Ht:=[qi,db,dN,dz,qi,qi,cq,cN,aL,bh]
abbrev Cw:List (Nat×PO):=[(1000,.box [bB,bR,bI,bU,cr,bQ,.own 1001,.own 1002,.own 1003,.own 1004,kS]),(1001,.sl 1 4 6 []),(1002,.sl 9 163 7 []),(1003,.sl 0 3 8 []),(1004,.sl 10 80 9 [])]
abbrev fB:List PC:=[aN,dE]
abbrev Gf:List (Nat×PO):=[(1000,.box [bB,bR,bI,bU,cr,bQ,.own 1001,.own 1002,.own 1003,.own 1004,.own 1005]),(1001,.sl 1 4 6 []),(1002,.sl 9 163 7 []),(1003,.sl 0 3 8 []),(1004,.sl 10 80 9 []),(1005,.sl 29 135 10 [])]
abbrev uS:List PC:=[.agg [bB,bR,bI,bU,cr,bQ],.agg [jL,km,mX,rm]]
abbrev pj:List Ht:=[qi,qi,qi,qi]
abbrev mw:List Ht:=[qi,qi,qi]
abbrev Zu:List Ht:=[qi,qi,qi,qi,qi,qi,qi,qi,qi,qi,qi,qi,qi,qi,qi,qi,qi,qi,qi,qi,qi,qi,qi,qi,qi,.lf .str,qi,qi,qi,qi,qi,qi,aL,qi,aL,aL,aL,aL,aL,aL,aL,aL,aL,jy,db,dN,dz,bh,kQ,mW,Af,Ae]
abbrev kM:List (Nat×PO):=[(1000,.box [bS,bp])]
abbrev Cu:List (Nat×PO):=[(1000,.box [.fn 82 [.ptr 1001 0]]),(1001,.box [bp,bI,bU,ei,kR,jL,km])]
abbrev kL:List Ht:=[qi,aL]
abbrev zN:List (Nat×PO):=[(1000,.sl 1 4 1 []),(1001,.sl 9 163 2 []),(1002,.sl 0 3 3 []),(1003,.sl 10 80 4 [])]
abbrev J':List Ht:=[qi,db,dN,dz,qi,qi,cq,cN,aL,bh,qi,qi]
abbrev zM:List Ht:=[qi,db,dN,dz,qi,qi]
abbrev Zt:List PC:=[.agg [.own 1001,.own 1002,.own 1003,.own 1004,.own 1005,.own 1006,.own 1007,.own 1008,.own 1009,bB,bp,cf,dm,cr,bQ,.own 1010,ep,.own 1011,.own 1012,.own 1013,ib,tN,qj,kS,nK,.own 1014,.own 1015,.own 1016,.own 1017,mY,rn,yp,.h 15 [],wP,.h 17 [],.h 18 [],.h 19 [],As,Ar,Aq,Ap,Ao,.h 25 [],.h 26 [],.h 27 [],.h 28 [],Am,Al,Ak,.own 1018]]
abbrev lU:List Ht:=[aL,qi]
abbrev J_:An:=(qn (qn (qm (qn (qm (.loop ⟨z8,[(13,aN)],[],[],3216⟩ ae [(.exit 0,⟨[],[],[],[],3216⟩)] .o) .o)) .o)))
abbrev Q2:List (Nat×PO):=[(1000,.box [bB,bR,bI,bU,cr,bQ,.own 1001,.own 1002,.own 1003,.own 1004,.own 1006]),(1001,.sl 1 4 6 []),(1002,.sl 9 163 7 []),(1003,.sl 0 3 8 []),(1004,.sl 10 80 9 []),(1006,.sl 29 135 10 [])]
abbrev Q1:List (Nat×PO):=[(1000,.box [bp,bI,bU,ei,bQ,ep,.own 1001,.own 1002,.own 1003,.own 1004,ib]),(1001,.sl 1 4 8 []),(1002,.sl 9 163 9 []),(1003,.sl 0 3 10 []),(1004,.sl 10 80 11 [])]
abbrev Ge:List Ht:=[.lf .bool,qi,cq,cN,aL,bh,fN,gj]
abbrev zL:List Ht:=[qi,cq,cN,aL,bh]
abbrev iS:List PC:=[.one (.own 1000)]
abbrev zK:List PC:=[.agg [.own 1000,.own 1001,.own 1002,.own 1003],aN]
abbrev zJ:List PC:=[.agg [bB,bR,bI,bU,cr,bQ]]
abbrev mu:List (Nat×PO):=[(1000,.sl 10 80 0 [])]
abbrev fm:List Ht:=[aL]
abbrev Q0:List Ht:=[qi,qi,db,dN,dz,qi,qi,cq,cN,aL,bh,oA]
abbrev Zs:List (Nat×PO):=[(1000,.box [bB,bR,bI,bU,cr,bQ,.own 1006,.own 1007,.own 1008,.own 1009,.own 1010]),(1001,.sl 1 4 6 []),(1002,.sl 9 163 7 []),(1003,.sl 0 3 8 []),(1004,.sl 10 80 9 []),(1006,.sl 1 4 10 []),(1007,.sl 9 163 11 []),(1008,.sl 0 3 12 []),(1009,.sl 10 80 13 []),(1010,.sl 29 135 14 [])]
abbrev kK:List PC:=[.one (.ptr 1000 0)]
abbrev QZ:List Ht:=[qi,db,dN,dz,qi,qi,cq,cN,aL,bh,aL,oA]
abbrev gF:List Ht:=[bh]
abbrev Zr:An:=(qn (qn (qm (qm (.loop ⟨z8,[(2,aN)],[],[],2704⟩ ab [(.exit 0,⟨z8,[(2,aN)],[],[],2704⟩)] .o) .o) (qm (qm (.loop ⟨z8,[(3,aN)],[],[],2769⟩ ab [(.exit 2,⟨z8,[(3,aN)],[],[],2769⟩)] .o) .o) .o))))
abbrev Zq:An:=(qm (qm (qr ⟨[.lf .bool],[(22,qa),(23,qa),(24,qa),(25,qa),(26,qa),(27,qa),(28,qa),(29,qa),(30,qa),(31,qa),(32,qa),(33,qa),(34,aN)],[],[],3220⟩) .o) .o)
abbrev xO:List Ht:=[bh,qi,qi]
abbrev tA:List PC:=[.agg [bB,bp,cf]]
abbrev QY:An:=(qn (qm (qn (qm (.loop ⟨z8,[(8,aN)],[],[],2704⟩ ae [(.exit 0,⟨[],[],[],[],2704⟩)] .o) .o)) .o))
abbrev J9:List Ht:=[qi,qi,qi,qi,qi,sy]
abbrev Zp:List (Nat×PO):=[(1000,.box [bB,bR,bI,bU,ei,.own 1001,.own 1002,ib,mX,rm,Aj,nK,mY,.own 1003,.own 1004]),(1001,.sl 11 117 5 []),(1002,.sl 12 202 6 []),(1003,.sl 12 202 13 []),(1004,.sl 14 65 14 [0])]
abbrev Zo:List Ht:=[qi,cq,cN,aL,bh,qi,db,dN,dz,qi,qi,fN,gj,cq,cN,aL,bh,gj,wO]
abbrev Zl:List (Nat×PO):=[(1000,.box [bB,bR,bI,bU,cr,bQ,.own 1001,.own 1002,.own 1003,.own 1004,.own 1007]),(1001,.sl 1 4 6 []),(1002,.sl 9 163 7 []),(1003,.sl 0 3 8 []),(1004,.sl 10 80 9 []),(1006,.sl 0 3 10 []),(1007,.sl 29 135 11 [])]
abbrev Zk:List (Nat×PO):=[(1000,.box [bB,bR,bI,bU,cr,bQ,.own 1001,.own 1002,.own 1003,.own 1004,.own 1005]),(1001,.sl 1 4 6 []),(1002,.sl 9 163 7 []),(1003,.sl 0 3 8 []),(1004,.sl 10 80 9 []),(1005,.sl 29 135 10 []),(1006,.sl 0 3 11 [])]
abbrev pi:List (Nat×PC):=[(5,aN)]
abbrev pg:List (Nat×PO):=[(1000,.sl 0 3 0 [])]
abbrev QX:List Ht:=[qi,db,dN,dz,qi,qi,qi,qi]
abbrev QW:List Ht:=[aL,qi,qi,db,dN,dz,qi,qi]
abbrev Ct:List PC:=[.agg [bB,bp,cf],sC]
abbrev QV:List Ht:=[qi,qi,qi,qi,qi,sy,qi]
abbrev Zj:List (Nat×PC):=[(22,qa),(23,qa),(24,qa),(25,qa),(26,qa),(27,qa),(28,qa),(29,qa),(30,qa),(31,qa),(32,qa),(33,qa)]
abbrev QU:List Ht:=[qi,qi,cq,cN,aL,bh,fN,gj]
abbrev Cs:List PC:=[aN,dE,lB]
abbrev uR:List Ht:=[qi,.lf .bool]
abbrev wq:List Ht:=[qi,bh]
abbrev Cr:List Ht:=[qi,qi,aL]
abbrev xN:List (Nat×PO):=[(1000,.box [bR,cf])]
abbrev Zh:List Ht:=[qi,db,dN,dz,qi,qi,cq,cN,aL,bh,qi,qi,qi,qi]
abbrev Zg:List Ht:=[qi,db,dN,dz,qi,qi,cq,cN,aL,bh,cq,cN,aL,bh,oA]
abbrev QT:List (Nat×PO):=[(1000,.box [bS,bp]),(1001,.sl 4 101 3 []),(1002,.sl 5 104 4 []),(1003,.sl 6 106 5 [0])]
abbrev Gc:List Ht:=[cq,cN,aL,bh]
abbrev Zf:List (Nat×PO):=[(1000,.box [bS,bp]),(1001,.sl 4 101 2 []),(1002,.sl 5 104 3 []),(1003,.sl 6 106 4 [0]),(1004,.sl 1 4 5 []),(1005,.sl 9 163 6 []),(1006,.sl 0 3 7 []),(1007,.sl 10 80 8 [])]
abbrev Ze:List Ht:=[qi,db,dN,dz,qi,qi,cq,cN,aL,bh,qi,qi,qi]
abbrev QS:List Ht:=[qi,cq,cN,aL,bh,fN,gj]
abbrev QR:List Ht:=[qi,qi,qi,qi,aL,qi]
abbrev sn:List (Nat×PC):=[(4,aN)]
abbrev Zd:List Ht:=[qi,db,dN,dz,qi,qi,cq,cN,aL,bh,oA,aL,qi]
abbrev pf:List PC:=[.one (bS)]
abbrev QQ:List (Nat×PO):=[(1000,.sl 1 4 0 []),(1001,.sl 9 163 1 []),(1002,.sl 0 3 2 []),(1003,.sl 10 80 3 [])]
abbrev zI:List PC:=[.one (bS),dE]
abbrev Zc:List Ht:=[qi,db,dN,dz,qi,qi,cq,cN,aL,bh,oA,qi]
abbrev Zb:List Ht:=[qi,db,dN,dz,qi,qi,cq,cN,aL,bh,qi,oA]
abbrev wo:List PC:=[.agg [bB,bp]]
abbrev QP:List PC:=[.one (.ptr 1000 0),.agg [cf,.own 1001,.own 1002,.own 1003,ep,ib]]
abbrev Cq:An:=(qn (qm (qt 2 2320) .o))
abbrev Za:List Ht:=[.lf .bool,qi,db,dN,dz,qi,qi,cq,cN,aL,bh,oA]
abbrev Gb:List Ht:=[aL,qi,aL]
abbrev zH:List Ht:=[qi,cN]
abbrev nG:List Ht:=[cN]
abbrev uQ:List (Nat×PC):=[(9,aN)]
abbrev uP:List (Nat×PC):=[(7,aN)]
abbrev Cp:List PC:=[.one (bS),.one (bR)]
abbrev Ga:List Ht:=[.lf .bool,aL,qi]
abbrev QO:List PC:=[.agg [bB,bp,cf,dm,cr,kR],Ah]
abbrev Y':List PC:=[.agg [bB,bR,bI,bU,cr,bQ],.agg [jL,km,mX,rm],.one (kS),Ai]
abbrev J8:List PC:=[.agg [bB,bp],.agg [cf,dm]]
abbrev Y_:An:=(qn (qn (qm (qm (qn (qn (qp ⟨nG,[],[(3417,.sl 9 163 0 [])],[3417],5714⟩ .o .o))) .o) .o)))
abbrev Y9:List Ht:=[qi,db,dN,dz,qi,qi,qi,qi,qi]
abbrev Co:List Ht:=[qi,.lf (.sl 24)]
abbrev Y8:An:=(qn (qm (qn (qm (.loop ⟨z8,pi,[],[],2320⟩ ae [(.exit 0,⟨[],[],[],[],2320⟩)] .o) .o)) .o))
abbrev Y7:J:=⟨[qi,qi,.lf .bool],[],[(2384,.box [bB,bp]),(2512,.box [cf])],[2384,2512],3344⟩
abbrev J7:List Ht:=[aL,qi,qi]
abbrev ZN:List Ht:=[qi,qi,qi,qi,qi,sy,qi,qi]
abbrev ZM:List Ht:=[qi,qi,qi,qi,qi,qi,qi,rl]
abbrev ZL:An:=(qn (qn (qm (qn (qp ⟨z9,[(2,aN),(3,dE)],[],[],3728⟩ .o .o)) .o)))
abbrev ZK:List Ht:=[aL,qi,qi,cq,cN,aL,bh,fN,gj]
abbrev ZJ:List Ht:=[qi,qi,jy,aL,rl,qi,qi,qi]
abbrev Kg:List Ht:=[aL,qi,bh]
abbrev ZI:List Ht:=[qi,aL,qi,qi,qi,qi,db,dN]
abbrev xP:List (Nat×PC):=[(8,aN)]
abbrev ZH:List Ht:=[aL,qi,db,dN,dz,cq,cN,aL,bh]
abbrev ZG:J:=⟨[qi,vj],[(5,.one (.own 2896)),(13,aN)],[(2896,.sl 37 338 1 [])],[],2960⟩
abbrev Kf:List PC:=[.agg [bB,bp,cf,dm]]
abbrev Q8:List PC:=[.agg [bB,bp,cf,dm,cr,kR]]
abbrev Ke:List PC:=[.one (bS),.agg [bp,cf]]
abbrev ZF:List Ht:=[qi,db,dN,dz,qi,qi,aL,oA]
abbrev ZE:List (Nat×PO):=[(1000,.sl 1 4 1 []),(1001,.sl 9 163 2 []),(1002,.sl 0 3 3 []),(1003,.sl 10 80 4 []),(1004,.sl 29 135 5 [])]
abbrev wu:List PC:=[.one (.own 1001)]
abbrev Q7:List Ht:=[qi,aL,qi,aL]
abbrev Cy:J:=⟨[],[],[],[],2832⟩
abbrev so:List Ht:=[.lf (.sl 24)]
abbrev ZD:List Ht:=[fN,qi,cq,cN,aL,bh,fN,gj]
abbrev ZC:List Ht:=[qi,qi,jy,aL,qi,qi,qi]
abbrev Q6:List Ht:=[qi,qi,qi,.el 0]
abbrev zP:List (Nat×PO):=[(1000,.sl 0 3 1 [])]
abbrev zO:List (Nat×PC):=[(10,aN)]
abbrev Q5:List (Nat×PO):=[(1000,.box [bS,bp]),(1001,.sl 0 3 2 [])]
abbrev ZB:List Ht:=[aL,qi,qi,qi,qi,db,dN]
abbrev Zz:List Ht:=[qi,db,dN,dz,qi,qi,qi]
abbrev Kd:List PC:=[.one (.ptr 1000 0),.one (.own 1001)]
abbrev Cv:List (Nat×PO):=[(1000,.sl 10 80 1 [])]
abbrev Zy:List PC:=[.agg [bB,bp,bI],.one (bU),.one (ei),.agg [bQ,ep,ib]]
abbrev Kc:List PC:=[.agg [bS,bR,bI]]
abbrev Zx:List Ht:=[qi,qi,qi,qi,qi,qi]
abbrev Zw:List Ht:=[qi,qi,jy,qi,qi,qi]
abbrev Q4:List PC:=[.agg [.own 1000,.own 1001,.own 1002,.own 1003]]
abbrev Zv:List PC:=[.agg [bB,bR,bI,bU,cr,bQ],.agg [ep,ib,tN]]
abbrev Q3:An:=(qn (qm (qm (qt 21 2320) .o) .o))
abbrev CK(c:az D):=gz prog T c
def q0:True:=trivial
def azC{f:Nat}{fn:Func}{code:Code}(hf:prog.funcs[f]? =aa fn)(hb:fn.body=aa code)(hn:ak (fn.name= "runtime.NumGoroutine")=ae)(args:Array Value)(w:World):(callFunc f args).run prog w= .ok (.enter f args) w:=by have hn:=mR hn;unfold callFunc;simp[hf,hn,hb]
def fo(Φ:List (az D))(rs:List ResultVar)(an:An)(cU:jI prog T Φ){c:az D}{fn:Func}{code:Code}(hf:prog.funcs[c.f]? =aa fn)(hb:fn.body=aa code:=by rfl)(l8:fn.results=rs.toArray:=by rfl)(hn:ak (fn.name= "runtime.NumGoroutine")=ae:=by kernel_rfl)(b6:((writes code).all (λt=>Nat.blt t fn.ntmps)&&eN c.args.length fn.ntmps&&tU c.kl c.cn&&mZ (c.cn.map Prod.fst)&&c.cn.all (λp=>eN 1000 p.1)&&eN c.cn.length 40)=ab:=by kernel_rfl)(rJ:∀h,LH T Φ c rs code an h=c.fn h:=by intro h;kernel_rfl):CK c:=afk sD rk (jI.mem cU) pK (azC hf hb hn) hf hb l8 b6 rJ
def jQ(a0:Int)(a1:Int)(a2:Int):Option (Bool):=(if ak (a0>=a1)=ab then aa (ak (a0<=a2))else aa ae).bind aa
def xz:az D:=⟨109,mw,[.lf .bool],Cs,[],z5,[],λh=>jQ h.1 h.2.1 h.2.2⟩
def zk:CK xz:=fo [] [.tmp 6] (qw (qt 6 2192) .o) trivial func109
def C9(a0:List Int)(a1:Int):Int->Option (Int⊕Unit⊕Int):=λx1=>if ak (x1<len a0)=ab then(idx a0 x1).bind λx2=>if(a1==x2)=ab then aa (.inr (.inr x1))else aa (.inl (W (x1+1)))else aa (.inr (.inl ()))
def KK(a0:List Int)(a1:Int):Option (Int):=(aG (C9 a0 a1) 0).bind λx3=>cQ (λx4=>aa (-1)) (aa) x3
def aiy:az D:=⟨234,lU,z8,zI,[],z5,[],λh=>KK h.1 h.2⟩
def aBI:CK aiy:=fo [] [.tmp 4] z3 trivial func234
def yc(a0:List Int)(a1:Int):Option (Bool):=(KK a0 a1).bind λx1=>aa (ak (x1>=0))
def Jf:az D:=⟨180,lU,[.lf .bool],zI,[],z5,[],λh=>yc h.1 h.2⟩
def Pv:CK Jf:=fo [aiy] [.tmp 4] .o ⟨aBI,q0⟩ func180
def PK(a0:List Int):Option (Bool):=aa (len a0==0)
def aji:az D:=⟨182,fm,[.lf .bool],pf,[],z5,[],λh=>PK h⟩
def aCm:CK aji:=fo [] [.tmp 2] .o trivial func182
def Da(a0:List (List Int)):Int->Option (Int⊕Unit⊕Int):=λx1=>if ak (x1<len a0)=ab then(idx a0 x1).bind λx2=>(PK x2).bind λx3=>if x3=ab then aa (.inr (.inr x1))else aa (.inl (W (x1+1)))else aa (.inr (.inl ()))
def RU(a0:(List (List Int))):Option (Int):=(aG (Da a0) 0).bind λx4=>cQ (λx5=>aa (-1)) (aa) x4
def aix:az D:=⟨235,[Ag],z8,[.one (bS),.one (.fn 182 [])],[],z5,[],λh=>RU h⟩
def aBH:CK aix:=fo [aji] [.tmp 4] z3 ⟨aCm,q0⟩ func235
def Ld(a0:(List (List Int))):Option (Bool):=(RU a0).bind λx1=>aa (ak (x1>=0))
def ajj:az D:=⟨181,[Ag],[.lf .bool],[.one (bS),.one (.fn 182 [])],[],z5,[],λh=>Ld h⟩
def aCn:CK ajj:=fo [aix] [.tmp 4] .o ⟨aBH,q0⟩ func181
def B3(a0:au):Int×List Int×List (List Int)->Option (Int×List Int×List (List Int)⊕List Int×List (List Int)⊕Bool):=λx3=>if ak (x3.1<len a0.ah)=ab then(idx a0.ah x3.1).bind λx4=>(jQ x4.A 0 (W (a0.aA-1))).bind λx5=>if(!x5)=ab then aa (.inr (.inr ae))else(if(x4.Kind==1)=ab then(jQ x4.B (W (x4.A+1)) (W (a0.aA-1))).bind aa else aa ae).bind λx7=>(if x7=ab then aa (.inl x3.2)else(if(x4.Kind==2)=ab then(jQ x4.B 0 (W (len x3.2.1-1))).bind λx8=>if x8=ab then(idx x3.2.1 x4.B).bind λx9=>aa (x9==0)else aa ae else aa ae).bind λbb=>(if bb=ab then(idx x3.2.1 x4.B).bind λkN=>(idx x3.2.1 x4.B).bind λfC=>(idx x3.2.1 x4.B).bind λlV=>(dq x3.2.1 x4.B (W (kN+1))).bind λkj=>aa (.inl (kj,x3.2.2))else(if(x4.Kind==3)=ab then(jQ x4.B 0 (W (len x3.2.2-1))).bind λbi=>if bi=ab then(idx x3.2.2 x4.B).bind λbF=>(idx x3.2.2 x4.B).bind λbY=>(yc bY x4.A).bind λcF=>aa (!cF,x3.2.2)else aa (ae,x3.2.2)else aa (ae,x3.2.2)).bind λb7=>if b7.1=ab then(idx b7.2 x4.B).bind λcM=>(idx b7.2 x4.B).bind λdx=>(idx b7.2 x4.B).bind λcZ=>(bD cZ [x4.A]).bind λdQ=>(dq b7.2 x4.B dQ).bind λfh=>(idx fh x4.B).bind λfL=>(y7 x4.B x4.B).bind λiU=>aa (.inl (x3.2.1,fh))else aa (.inr (.inr (.inr (.inr ae))))).bind λg_=>cQ (λiT=>aa (.inl iT)) (aa) g_).bind λlm=>cQ (λmx=>aa (.inl (W (x3.1+1),mx))) (aa) lm else aa (.inr (.inl x3.2))
def PL(a0:au):Option (Bool):=(mE 0 (len a0.aj)).bind λx1=>(mE [] (len a0.ay)).bind λx2=>(aG (B3 a0) (0,x1,x2)).bind λra=>cQ (λqe=>((yc qe.1 0).bind λqd=>if(!qd)=ab then(Ld qe.2).bind λqc=>aa !qc else aa ae).bind aa) (aa) ra
def aki:az D:=⟨110,zM,[.lf .bool],zJ,[],z5,[],λh=>PL ⟨h.1,h.2.1,h.2.2.1,h.2.2.2.1,h.2.2.2.2.1,h.2.2.2.2.2⟩⟩
def aDe:CK aki:=fo [xz,Jf,ajj] [.tmp 2] (qn (qw (qw (.loop ⟨[qi,aL,Ag],[(18,aN)],[(2640,.sl 0 3 1 []),(3152,.df 13 22 3 0 2)],[2640,3152],4112⟩ ae [(.exit 0,⟨[aL,Ag],[],[(2640,.sl 0 3 0 []),(3152,.df 13 22 3 0 1)],[2640,3152],4112⟩)] (qn (qw (qm (qn (qw (qm (qr ⟨[.lf .bool],[(29,aN),(34,qa),(35,qa),(36,qa),(37,qa),(38,qa),(39,qa),(40,qa),(41,qa),(42,qa)],[],[],5715⟩) (.n (aa (ae,[(.normal,⟨[aL,Ag],[],[(2640,.sl 0 3 0 []),(3152,.df 13 22 3 0 1)],[2640,3152],5780⟩)])) .o (qm (qr ⟨[.lf .bool],[(44,aN),(49,qa),(50,qa),(51,qa),(52,qa),(53,qa),(54,qa),(57,qa),(58,qa),(59,qa),(60,qa),(61,qa),(62,qa)],[],[],5780⟩) (.n (aa (ae,[(.normal,⟨[aL,Ag],[],[(2640,.sl 0 3 0 []),(3152,.df 13 22 3 0 1)],[2640,3152],5845⟩)])) .o (qm (qr ⟨[.lf .bool,Ag],[(71,aN),(76,qa),(77,qa),(78,qa),(79,qa),(80,qa),(81,qa),(84,qa),(85,qa),(86,qa),(87,qa),(88,qa),(89,qa),(90,qa),(91,qa),(92,qa)],[(3152,.df 13 22 3 0 1)],[3152],5845⟩) .o))))) .o)) .o) .o))) .o) (qm (qt 2 4178) .o))) ⟨zk,Pv,aCn,q0⟩ func110
def Jl(a0:Source):Option (Bool):=((jQ a0.iE 1 50000).bind λx1=>if x1=ab then(jQ a0.fa 0 a0.iE).bind λx2=>if x2=ab then(jQ a0.Start 0 600).bind aa else aa ae else aa ae).bind aa
def akh:az D:=⟨111,mw,[.lf .bool],tA,[],z5,[],λh=>Jl ⟨h.1,h.2.1,h.2.2⟩⟩
def aDd:CK akh:=fo [xz] [.tmp 2] Cq ⟨zk,q0⟩ func111
def Fi(a0:Consumer)(a1:Int):Int->Option (Int⊕Unit⊕Bool):=λx1=>if ak (x1<len a0.ci)=ab then(idx a0.ci x1).bind λx2=>((jQ x2 0 (W (a1-1))).bind λx3=>if(!x3)=ab then aa ab else if ak (x1>0)=ab then(idx a0.ci (W (x1-1))).bind λx4=>aa (ak (x4>=x2))else aa ae).bind λx5=>if x5=ab then aa (.inr (.inr ae))else aa (.inl (W (x1+1)))else aa (.inr (.inl ()))
def PH(a0:Consumer)(a1:Int):Option (Bool):=(aG (Fi a0 a1) 0).bind λx6=>cQ (λx7=>((jQ a0.e_ 0 50000).bind λx8=>if x8=ab then(jQ a0.fa 0 a0.e_).bind λx9=>if x9=ab then(jQ a0.kE 0 15).bind λbb=>if bb=ab then(jQ a0.b9 (-1) 7).bind λbi=>if bi=ab then aa (ak (len a0.ci<=4))else aa ae else aa ae else aa ae else aa ae).bind aa) (aa) x6
def akg:az D:=⟨112,QR,[.lf .bool],[.agg [bB,bp,cf,dm,ei],.one (bQ)],[],z5,[],λh=>PH ⟨h.1,h.2.1,h.2.2.1,h.2.2.2.1,h.2.2.2.2.1⟩ h.2.2.2.2.2⟩
def aDc:CK akg:=fo [xz] [.tmp 4] (qw (qw (.loop ⟨z8,zO,[],[],2832⟩ ae [(.exit 0,Cy)] (qn (qw (qm (qw (qr ⟨[.lf .bool],[(21,qa),(22,qa),(23,qa),(24,qa),(25,qa),(26,qa),(27,qa),(28,qa),(29,qa),(30,qa),(31,qa),(32,qa),(33,aN)],[],[],3665⟩) .o) .o) .o))) .o) (qm (qt 4 2896) .o)) ⟨zk,q0⟩ func112
def Fo(a0:au):Bool×Int->Option (Bool×Int⊕Bool):=λx7=>if ak (x7.2<len a0.aj)=ab then(idx a0.aj x7.2).bind λx8=>(if x7.1=ab then(Jl x8).bind aa else aa ae).bind λbb=>aa (.inl (bb,W (x7.2+1)))else aa (.inr x7.1)
def Fm(a0:au):Bool×Int->Option (Bool×Int⊕Bool):=λbF=>if ak (bF.2<len a0.ay)=ab then(idx a0.ay bF.2).bind λbY=>(if bF.1=ab then(PH bY bF.2).bind aa else aa ae).bind λb7=>aa (.inl (b7,W (bF.2+1)))else aa (.inr bF.1)
def JA(a0:au):Option (Int):=((jQ a0.aA 1 6).bind λx1=>if(!x1)=ab then aa ab else if ak (len a0.ah>24)=ab then aa ab else if ak (len a0.aj>8)=ab then aa ab else aa (ak (len a0.ay>16))).bind λx2=>if x2=ab then aa 2 else((PL a0).bind λx3=>if x3=ab then(jQ a0.bn 0 1800).bind λx4=>if x4=ab then(jQ a0.a_ 0 6000).bind aa else aa ae else aa ae).bind λx6=>(aG (Fo a0) (x6,0)).bind λbi=>(aG (Fm a0) (bi,0)).bind λcM=>if(!cM)=ab then aa 14 else aa 0
def E_:az D:=⟨54,zM,z8,zJ,[],z5,[],λh=>JA ⟨h.1,h.2.1,h.2.2.1,h.2.2.2.1,h.2.2.2.2.1,h.2.2.2.2.2⟩⟩
def Xj:CK E_:=fo [xz,aki,akh,akg] [.tmp 2] (qw (qm (qt 29 2320) .o) (qm (qt 3 2385) (qm (qw (.loop ⟨[.lf .bool,qi],[(3,aN),(45,dE)],[],[],2962⟩ ab [(.exit 0,qB 3 2962)] (qn (qw (qm (qn (qr ⟨[.lf .bool],[(3,aN),(51,qa),(52,qa)],[],[],3668⟩)) .o) .o))) .o) (qm (qw (.loop ⟨[.lf .bool,qi],[(3,aN),(58,dE)],[],[],3539⟩ ab [(.exit 2,qB 3 3539)] (qn (qw (qm (qn (qr ⟨[.lf .bool],[(3,aN),(65,qa),(66,qa),(67,qa)],[],[],4501⟩)) .o) .o))) .o) .o)))) ⟨zk,aDe,aDd,aDc,q0⟩ func54
def LR(a0:gL):Option (Bool):=(if ak (a0.Stop>=1)=ab then if ak (a0.Stop<=99)=ab then if ak (a0.Start>a0.Stop)=ab then if ak (a0.Start<=100)=ab then if ak (a0.oc>=0)=ab then aa (ak (a0.oc<=600))else aa ae else aa ae else aa ae else aa ae else aa ae).bind aa
def I':az D:=⟨55,mw,[.lf .bool],tA,[],z5,[],λh=>LR ⟨h.1,h.2.1,h.2.2⟩⟩
def agS:CK I':=fo [] [.tmp 2] Cq trivial func55
def Pu:az D:=wK T [] ⟨184,[.lf (.int .u64),.lf (.int .u64)],[.lf (.int .u64),.lf (.int .u64)],fB,[],fB,[],λ_=>none⟩ [.tmp 4,.tmp 5] (uC f184) .o
def aCl:CK Pu:=z_ (Φ:=[]) sD rk (jI.mem (l:=[]) trivial) pK call184 func184 rfl rfl (by kernel_rfl)
def B0:az D:=wK T [Pu] ⟨114,[.lf (.int .u64),.lf (.int .u64)],[.lf (.int .u64),.lf (.int .u64)],fB,[],fB,[],λ_=>none⟩ [.tmp 4,.tmp 5] (uC f114) .o
def akf:CK B0:=z_ (Φ:=[Pu]) sD rk (jI.mem (⟨aCl,q0⟩:jI _ _ [Pu])) pK call114 func114 rfl rfl (by kernel_rfl)
def PA:az D:=wK T [B0] ⟨113,[fN,qi],[fN],zI,[],iS,[(1000,.sl 11 117 0 [])],λ_=>none⟩ [.tmp 4] (uC f113) (qn (qn (qn (qm (qm (qt 26 3856) .o) (qn (qn (qm (qm (.loop ⟨[qi,fN],xP,[(4113,.sl 11 117 1 [])],[4113],4945⟩ ab [(.exit 0,⟨[fN],[],[(4113,.sl 11 117 0 [])],[4113],4945⟩)] .o) .o) .o)))))))
def aDb:CK PA:=z_ (Φ:=[B0]) sD rk (jI.mem (⟨akf,q0⟩:jI _ _ [B0])) pK call113 func113 rfl rfl (by kernel_rfl)
def Pg:az D:=wK T [PA] ⟨56,z8,[fN],z5,[],iS,[(1000,.sl 11 117 0 [])],λ_=>none⟩ [.tmp 2] (uC f56) .o
def aAe:CK Pg:=z_ (Φ:=[PA]) sD rk (jI.mem (⟨aDb,q0⟩:jI _ _ [PA])) pK call56 func56 rfl rfl (by kernel_rfl)
def Pf:az D:=wK T [B0] ⟨57,[cN,qi],nG,zI,[],iS,[(1000,.sl 9 163 0 [])],λ_=>none⟩ [.tmp 4] (uC f57) (qn (qn (qn (qm (qm (qt 26 3856) .o) (qn (qn (qm (qm (.loop ⟨zH,xP,[(4113,.sl 9 163 1 [])],[4113],4945⟩ ab [(.exit 0,⟨nG,[],[(4113,.sl 9 163 0 [])],[4113],4945⟩)] .o) .o) .o)))))))
def aAd:CK Pf:=z_ (Φ:=[B0]) sD rk (jI.mem (⟨akf,q0⟩:jI _ _ [B0])) pK call57 func57 rfl rfl (by kernel_rfl)
def Pr:az D:=wK T [E_,I',Pg,Pf] ⟨21,Y9,[qi,qi,cq,cN,aL,fN],Zv,[],[.agg [bB,.own 1000,.own 1001,.own 1002,.bH,.own 1003,.bH],dE],[(1000,.sl 1 4 2 []),(1001,.sl 9 163 3 []),(1002,.sl 0 3 4 []),(1003,.sl 11 117 5 [])],λ_=>none⟩ [.cell 4 69,.tmp 5] (uC f21) (qn (qn (qn (qn (qn (qm (qn (qm (.loop ⟨Cr,[(43,aN)],[(4304,.box [bp,.own 4944,.own 6104,.own 7120,.bH,.own 4056,.bH]),(7120,.sl 0 3 2 [])],[4304],7184⟩ ab [(.exit 1,⟨kL,[],[(4304,.box [bB,.own 4944,.own 6104,.own 7120,.bH,.own 4056,.bH]),(7120,.sl 0 3 1 [])],[4304],7184⟩)] .o) .o)) .o))))))
def aBS:CK Pr:=z_ (Φ:=[E_,I',Pg,Pf]) sD rk (jI.mem (⟨Xj,agS,aAe,aAd,q0⟩:jI _ _ [E_,I',Pg,Pf])) pK call21 func21 rfl rfl (by kernel_rfl)
def PE(a0:au)(a1:Int):Option (Int):=if(a1==1)=ab then aa (len a0.aj)else if(a1==2)=ab then aa (len a0.ah)else if(a1==3)=ab then aa a0.aA else if(a1==4)=ab then aa (len a0.ay)else aa 0
def ai6:az D:=⟨199,Zz,z8,[.agg [bB,bR,bI,bU,cr,bQ],Ah],[],z5,[],λh=>PE (qb h) h.2.2.2.2.2.2⟩
def aCb:CK ai6:=fo [] [.tmp 4] .o trivial func199
def I4(a0:Int):Option (Bool):=aa (a0 !=a0)
def ajk:az D:=⟨179,z8,[.lf .bool],z5,[],z5,[],λh=>I4 h⟩
def aCp:CK ajk:=fo [] [.tmp 2] .o trivial func179
def vZ(a0:Int)(a1:Int):Option (Int):=(I4 a0).bind λx1=>(I4 a1).bind λx2=>if x1=ab then if x2=ab then aa 0 else aa (-1)else if x2=ab then aa 1 else if ak (a0<a1)=ab then aa (-1)else if ak (a0>a1)=ab then aa 1 else aa 0
def PB:az D:=⟨107,z9,z8,fB,[],z5,[],λh=>vZ h.1 h.2⟩
def XT:CK PB:=fo [ajk] [.tmp 4] .o ⟨aCp,q0⟩ func107
def uB(a0:List Int):Int->Option (Int⊕Unit⊕Int):=λx1=>if ak (x1<len a0)=ab then(idx a0 x1).bind λx2=>if(x2 !=0)=ab then aa (.inr (.inr x2))else aa (.inl (W (x1+1)))else aa (.inr (.inl ()))
def E0(a0:List Int):Option (Int):=(aG (uB a0) 0).bind λx3=>cQ (λx4=>aa 0) (aa) x3
def PD:az D:=⟨106,fm,z8,pf,[],z5,[],λh=>E0 h⟩
def XU:CK PD:=fo [] [.tmp 2] (.n none .o QY) trivial func106
def Fj(a0:au)(a1:List Part):Int->Option (Int⊕Unit⊕Bool):=λx1=>if ak (x1<len a1)=ab then(idx a1 x1).bind λx2=>((PE a0 x2.Kind).bind λx3=>(jQ x2.Number 0 (W (x3-1))).bind λx4=>if(!x4)=ab then aa ab else if ak (x1>0)=ab then(idx a1 (W (x1-1))).bind λx5=>(vZ x5.Kind x2.Kind).bind λx6=>(idx a1 (W (x1-1))).bind λx7=>(vZ x7.Number x2.Number).bind λx8=>(E0 [x6,x8]).bind λx9=>aa (ak (x9>=0))else aa ae).bind λbb=>if bb=ab then aa (.inr (.inr ae))else aa (.inl (W (x1+1)))else aa (.inr (.inl ()))
def PJ(a0:au)(a1:List Part):Option (Bool):=(aG (Fj a0 a1) 0).bind λbi=>cQ (λbF=>aa (ak (len a1<=32))) (aa) bi
def ajO:az D:=⟨142,[qi,db,dN,dz,qi,qi,bh],[.lf .bool],[.agg [bB,bR,bI,bU,cr,bQ],.one (jL)],[],z5,[],λh=>PJ (qb h) h.2.2.2.2.2.2⟩
def aCQ:CK ajO:=fo [PD,PB,xz,ai6] [.tmp 4] (qw (qw (.loop ⟨z8,uQ,[],[],2704⟩ ae [(.exit 0,⟨[],[],[],[],2704⟩)] (qn (qw (qm (qw (qr ⟨[.lf .bool],[(24,qa),(25,qa),(26,qa),(27,qa),(28,qa),(29,qa),(30,qa),(31,qa),(32,qa),(33,qa),(34,qa),(35,qa),(36,qa),(37,qa),(38,qa),(39,qa),(40,qa),(41,qa),(42,qa),(43,qa),(44,qa),(45,qa),(46,qa),(47,qa),(48,qa),(49,aN)],[],[],3665⟩) .o) .o) .o))) .o) .o) ⟨XU,XT,zk,aCb,q0⟩ func142
def PF(a0:bu):Option (Bool):=((jQ a0.State 0 3).bind λx1=>if x1=ab then(jQ a0.gX 0 2147483648).bind λx2=>if x2=ab then(jQ a0.a_ 0 6000).bind λx3=>if x3=ab then(jQ a0.bn 0 3599).bind aa else aa ae else aa ae else aa ae).bind aa
def ajL:az D:=⟨145,pj,[.lf .bool],Kf,[],z5,[],λh=>PF ⟨h.1,h.2.1,h.2.2.1,h.2.2.2⟩⟩
def aCN:CK ajL:=fo [xz] [.tmp 2] Cq ⟨zk,q0⟩ func145
def PM(a0:bu):Option (Bool):=(PF a0).bind λx1=>aa !x1
def ajM:az D:=⟨144,pj,[.lf .bool],Kf,[],z5,[],λh=>PM ⟨h.1,h.2.1,h.2.2.1,h.2.2.2⟩⟩
def aCO:CK ajM:=fo [ajL] [.tmp 2] .o ⟨aCN,q0⟩ func144
def Db(a0:List bu):Int->Option (Int⊕Unit⊕Int):=λx1=>if ak (x1<len a0)=ab then(idx a0 x1).bind λx2=>(PM x2).bind λx3=>if x3=ab then aa (.inr (.inr x1))else aa (.inl (W (x1+1)))else aa (.inr (.inl ()))
def RW(a0:List bu):Option (Int):=(aG (Db a0) 0).bind λx4=>cQ (λx5=>aa (-1)) (aa) x4
def ai4:az D:=⟨200,nG,z8,[.one (bS),.one (.fn 144 [])],[],z5,[],λh=>RW h⟩
def aB':CK ai4:=fo [ajM] [.tmp 4] z3 ⟨aCO,q0⟩ func200
def Lh(a0:List bu):Option (Bool):=(RW a0).bind λx1=>aa (ak (x1>=0))
def ajN:az D:=⟨143,nG,[.lf .bool],[.one (bS),.one (.fn 144 [])],[],z5,[],λh=>Lh h⟩
def aCP:CK ajN:=fo [ai4] [.tmp 4] .o ⟨aB',q0⟩ func143
def Jt(a0:au)(a1:aw)(a2:Int):Int×Int->Option (Int×Int⊕Int):=λx1=>if ak (x1.2<len a0.ah)=ab then(idx a0.ah x1.2).bind λx2=>(if(x2.Kind==3)=ab then if(x2.B==a2)=ab then(idx a1.aE x1.2).bind aa else aa ae else aa ae).bind λx4=>(if x4=ab then aa (W (x1.1+1))else aa x1.1).bind λx5=>aa (.inl (x5,W (x1.2+1)))else aa (.inr x1.1)
def PI(a0:au)(a1:aw)(a2:Int):Option (Int):=(aG (Jt a0 a1 a2) (0,0)).bind aa
def ajK:az D:=⟨146,z1,z8,z4,[],z5,[],λh=>let g:=h.2.2.2.2.2.2;PI (qb h) ⟨g.1,g.2.1,g.2.2.1,g.2.2.2.1⟩ g.2.2.2.2⟩
def aCM:CK ajK:=fo [] [.tmp 6] (qn (qw (qw (.loop ⟨z9,[(7,aN),(13,dE)],[],[],3088⟩ ab [(.exit 0,⟨z8,uP,[],[],3088⟩)] (qn (qw (qm (qw (qr ⟨[.lf .bool],[(22,qa),(23,qa),(24,qa),(25,qa),(28,qa),(29,qa),(30,qa),(31,qa),(32,qa),(33,aN)],[],[],4050⟩) (qp ⟨z8,uP,[],[],4115⟩ .o .o)) .o) .o))) .o) .o)) trivial func146
def Fk(a0:au)(a1:aw):Bool×Int->Option (Bool×Int⊕Bool):=λx6=>if ak (x6.2<len a1.aT)=ab then(idx a1.aT x6.2).bind λx7=>(if x6.1=ab then(idx a0.ay x6.2).bind λx8=>(jQ x7 0 x8.e_).bind λx9=>if x9=ab then(PI a0 a1 x6.2).bind λbb=>aa (ak (bb<=1))else aa ae else aa ae).bind λbi=>aa (.inl (bi,W (x6.2+1)))else aa (.inr x6.1)
def pS(a0:au)(a1:aw):Option (Int):=(JA a0).bind λx1=>if(x1 !=0)=ab then aa x1 else(if(len a1.aE !=len a0.ah)=ab then aa ab else if(len a1.aj !=len a0.aj)=ab then aa ab else aa (len a1.aT !=len a0.ay)).bind λx2=>if x2=ab then aa 8 else((PJ a0 a1.aP).bind λx3=>if x3=ab then(Lh a1.aj).bind λx4=>aa !x4 else aa ae).bind λx5=>(aG (Fk a0 a1) (x5,0)).bind λbF=>if(!bF)=ab then aa 11 else aa 0
def rU:az D:=⟨87,tB,z8,uS,[],z5,[],λh=>let g:=h.2.2.2.2.2.2;pS (qb h) ⟨g.1,g.2.1,g.2.2.1,g.2.2.2⟩⟩
def tq:CK rU:=fo [E_,xz,ajO,ajN,ajK] [.tmp 4] (qn (qw (qm (qt 38 3088) .o) (qm (qt 6 3153) (qm (qw (.loop ⟨[.lf .bool,qi],[(6,aN),(52,dE)],[],[],3730⟩ ab [(.exit 0,qB 6 3730)] (qn (qw (qm (qn (qr ⟨[.lf .bool],[(6,aN),(59,qa),(60,qa),(61,qa),(62,qa),(63,qa),(64,qa),(65,qa),(66,qa),(69,qa),(70,qa),(71,qa),(72,qa),(73,qa)],[],[],4564⟩)) .o) .o))) .o) .o)))) ⟨Xj,zk,aCQ,aCP,aCM,q0⟩ func87
def GN(a0:List Bool):Option (List Bool):=bD [] a0
def Xc:az D:=⟨97,[cq],[cq],pf,[],iS,[(1000,.sl 1 4 0 [])],λh=>GN h⟩
def agb:CK Xc:=by
 refine⟨call97,rfl,rfl,rfl,rfl,λoo r0 mH fp eU has nP γ w vs hv _=>?_⟩;cases has;match vs,hv with
 |[],hv=>exact hv.elim
 |_::_::_,hv=>exact hv.2.elim
 |[v],hv=>
 obtain⟨xs,eJ⟩:∃xs:List (D 1),xs=oo:=⟨_,rfl⟩;obtain⟨r,jA⟩:∃r:List (D 1),r=r0:=⟨_,rfl⟩;have g0:Rv (In γ.o [0]) w v xs:=by rw[eJ];exact hv.1.1
 have hr:bD ([]:List (D 1)) xs=aa r:=by rw[eJ,jA];exact mH
 subst jA;have hT:=GA.2;refine enter (l:=[v]) func97 rfl ntmps97 rfl ?_;refine CW.sub (L':=[(0,v)]) ⟨rfl,trivial⟩ ?_;refine CW.sr λK1 ir=>?_;refine WL.p (.slice none 0 0) rfl rfl ?_;refine WL.nx ir ?_;refine CW.seq λK2 iL=>?_;refine CW.sr λK3 mc=>?_;refine WL.p v rfl rfl ?_;obtain⟨a,m,q,rfl,hn⟩:=Ab g0;refine WL.lW (OW.isNil GA.1 rfl) rfl ?_;refine WL.nx mc ?_;cases a with
 |none=>refine CW.cond (b:=ab) rfl (λ_=>?_) (λh=>nomatch h);refine CW.sr λK4 nW=>?_;refine WL.p (.slice none 0 0) rfl rfl ?_;refine WL.nx nW ?_;rw[hn rfl]at hr;obtain rfl:=B9 hr;exact CW.mA (vs:=[.slice none 0 0]) results97 ⟨rfl,trivial⟩ ⟨_,rfl,qQ (n:=1) (e:=4) (q:=1000) (K:=[]) (M:=[]) (N:=[]) rfl rfl rfl (by simp) (by simp) (bJ.refl _ _ γ.o w) (Ow.nil _ _ _ _ _) (λx hx=>by simp at hx<;>omega)⟩ (λ_ _ h=>h)
 |some a=>refine CW.cond (b:=ae) rfl (λh=>nomatch h) (λ_=>?_);refine CW.skip ?_;refine iL _ _ ?_;refine CW.sr λK5 lJ=>?_;refine WL.step (OW.buildSlice (o:=γ.o) (k:=1000) (K:=[]) (xs:=([]:List (D 1))) GA.1 hT rfl trivial rfl rfl) rfl ?_;rintro v1 w1 ⟨o1,kC,h1⟩;have g0:=g0.rQ kC rfl;refine WL.p (.slice (aa a) m q) rfl rfl ?_;refine WL.step (OW.append (K:=[]) GA.1 hT rfl rfl h1 (@fJ.flat (D 1) _ ayh _ _ _ _ _ g0.dp) hr rfl) rfl ?_;rintro v2 w2 ⟨o2,mL,h2⟩;refine WL.p v2 rfl rfl ?_;refine WL.nx lJ ?_;exact CW.mA (vs:=[v2]) results97 ⟨rfl,trivial⟩ ⟨_,rfl,qQ (n:=1) (e:=4) (q:=1000) (K:=[]) (M:=[1000]) (N:=[1000]) rfl rfl rfl (by simp) (by simp) ((kC.weaken (by simp) (by simp)).trans mL) h2 (λx hx=>by simp at hx<;>omega)⟩ (λ_ _ h=>h)
def GO(a0:List bu):Option (List bu):=bD [] a0
def Xb:az D:=⟨98,nG,nG,pf,[],iS,[(1000,.sl 9 163 0 [])],λh=>GO h⟩
def aga:CK Xb:=by
 refine⟨call98,rfl,rfl,rfl,rfl,λoo r0 mH fp eU has nP γ w vs hv _=>?_⟩;cases has;match vs,hv with
 |[],hv=>exact hv.elim
 |_::_::_,hv=>exact hv.2.elim
 |[v],hv=>
 obtain⟨xs,eJ⟩:∃xs:List (D 9),xs=oo:=⟨_,rfl⟩;obtain⟨r,jA⟩:∃r:List (D 9),r=r0:=⟨_,rfl⟩;have g0:Rv (In γ.o [0]) w v xs:=by rw[eJ];exact hv.1.1
 have hr:bD ([]:List (D 9)) xs=aa r:=by rw[eJ,jA];exact mH
 subst jA;have hT:=Gz.2;refine enter (l:=[v]) func98 rfl ntmps98 rfl ?_;refine CW.sub (L':=[(0,v)]) ⟨rfl,trivial⟩ ?_;refine CW.sr λK1 ir=>?_;refine WL.p (.slice none 0 0) rfl rfl ?_;refine WL.nx ir ?_;refine CW.seq λK2 iL=>?_;refine CW.sr λK3 mc=>?_;refine WL.p v rfl rfl ?_;obtain⟨a,m,q,rfl,hn⟩:=Ab g0;refine WL.lW (OW.isNil Gz.1 rfl) rfl ?_;refine WL.nx mc ?_;cases a with
 |none=>refine CW.cond (b:=ab) rfl (λ_=>?_) (λh=>nomatch h);refine CW.sr λK4 nW=>?_;refine WL.p (.slice none 0 0) rfl rfl ?_;refine WL.nx nW ?_;rw[hn rfl]at hr;obtain rfl:=B9 hr;exact CW.mA (vs:=[.slice none 0 0]) results98 ⟨rfl,trivial⟩ ⟨_,rfl,qQ (n:=9) (e:=163) (q:=1000) (K:=[]) (M:=[]) (N:=[]) rfl rfl rfl (by simp) (by simp) (bJ.refl _ _ γ.o w) (Ow.nil _ _ _ _ _) (λx hx=>by simp at hx<;>omega)⟩ (λ_ _ h=>h)
 |some a=>refine CW.cond (b:=ae) rfl (λh=>nomatch h) (λ_=>?_);refine CW.skip ?_;refine iL _ _ ?_;refine CW.sr λK5 lJ=>?_;refine WL.step (OW.buildSlice (o:=γ.o) (k:=1000) (K:=[]) (xs:=([]:List (D 9))) Gz.1 hT rfl trivial rfl rfl) rfl ?_;rintro v1 w1 ⟨o1,kC,h1⟩;have g0:=g0.rQ kC rfl;refine WL.p (.slice (aa a) m q) rfl rfl ?_;refine WL.step (OW.append (K:=[]) Gz.1 hT rfl rfl h1 (@fJ.flat (D 9) _ ayd _ _ _ _ _ g0.dp) hr rfl) rfl ?_;rintro v2 w2 ⟨o2,mL,h2⟩;refine WL.p v2 rfl rfl ?_;refine WL.nx lJ ?_;exact CW.mA (vs:=[v2]) results98 ⟨rfl,trivial⟩ ⟨_,rfl,qQ (n:=9) (e:=163) (q:=1000) (K:=[]) (M:=[1000]) (N:=[1000]) rfl rfl rfl (by simp) (by simp) ((kC.weaken (by simp) (by simp)).trans mL) h2 (λx hx=>by simp at hx<;>omega)⟩ (λ_ _ h=>h)
def u6(a0:List Int):Option (List Int):=bD [] a0
def I9:az D:=⟨99,fm,fm,pf,[],iS,pg,λh=>u6 h⟩
def Pb:CK I9:=by
 refine⟨call99,rfl,rfl,rfl,rfl,λoo r0 mH fp eU has nP γ w vs hv _=>?_⟩;cases has;match vs,hv with
 |[],hv=>exact hv.elim
 |_::_::_,hv=>exact hv.2.elim
 |[v],hv=>
 obtain⟨xs,eJ⟩:∃xs:List (D 0),xs=oo:=⟨_,rfl⟩;obtain⟨r,jA⟩:∃r:List (D 0),r=r0:=⟨_,rfl⟩;have g0:Rv (In γ.o [0]) w v xs:=by rw[eJ];exact hv.1.1
 have hr:bD ([]:List (D 0)) xs=aa r:=by rw[eJ,jA];exact mH
 subst jA;have hT:=GB.2;refine enter (l:=[v]) func99 rfl ntmps99 rfl ?_;refine CW.sub (L':=[(0,v)]) ⟨rfl,trivial⟩ ?_;refine CW.sr λK1 ir=>?_;refine WL.p (.slice none 0 0) rfl rfl ?_;refine WL.nx ir ?_;refine CW.seq λK2 iL=>?_;refine CW.sr λK3 mc=>?_;refine WL.p v rfl rfl ?_;obtain⟨a,m,q,rfl,hn⟩:=Ab g0;refine WL.lW (OW.isNil GB.1 rfl) rfl ?_;refine WL.nx mc ?_;cases a with
 |none=>refine CW.cond (b:=ab) rfl (λ_=>?_) (λh=>nomatch h);refine CW.sr λK4 nW=>?_;refine WL.p (.slice none 0 0) rfl rfl ?_;refine WL.nx nW ?_;rw[hn rfl]at hr;obtain rfl:=B9 hr;exact CW.mA (vs:=[.slice none 0 0]) results99 ⟨rfl,trivial⟩ ⟨_,rfl,qQ (n:=0) (e:=3) (q:=1000) (K:=[]) (M:=[]) (N:=[]) rfl rfl rfl (by simp) (by simp) (bJ.refl _ _ γ.o w) (Ow.nil _ _ _ _ _) (λx hx=>by simp at hx<;>omega)⟩ (λ_ _ h=>h)
 |some a=>refine CW.cond (b:=ae) rfl (λh=>nomatch h) (λ_=>?_);refine CW.skip ?_;refine iL _ _ ?_;refine CW.sr λK5 lJ=>?_;refine WL.step (OW.buildSlice (o:=γ.o) (k:=1000) (K:=[]) (xs:=([]:List (D 0))) GB.1 hT rfl trivial rfl rfl) rfl ?_;rintro v1 w1 ⟨o1,kC,h1⟩;have g0:=g0.rQ kC rfl;refine WL.p (.slice (aa a) m q) rfl rfl ?_;refine WL.step (OW.append (K:=[]) GB.1 hT rfl rfl h1 (@fJ.flat (D 0) _ ayi _ _ _ _ _ g0.dp) hr rfl) rfl ?_;rintro v2 w2 ⟨o2,mL,h2⟩;refine WL.p v2 rfl rfl ?_;refine WL.nx lJ ?_;exact CW.mA (vs:=[v2]) results99 ⟨rfl,trivial⟩ ⟨_,rfl,qQ (n:=0) (e:=3) (q:=1000) (K:=[]) (M:=[1000]) (N:=[1000]) rfl rfl rfl (by simp) (by simp) ((kC.weaken (by simp) (by simp)).trans mL) h2 (λx hx=>by simp at hx<;>omega)⟩ (λ_ _ h=>h)
def zY(a0:List Part):Option (List Part):=bD [] a0
def Ja:az D:=⟨49,gF,gF,pf,[],iS,mu,λh=>zY h⟩
def Xl:CK Ja:=by
 refine⟨call49,rfl,rfl,rfl,rfl,λoo r0 mH fp eU has nP γ w vs hv _=>?_⟩;cases has;match vs,hv with
 |[],hv=>exact hv.elim
 |_::_::_,hv=>exact hv.2.elim
 |[v],hv=>
 obtain⟨xs,eJ⟩:∃xs:List (D 10),xs=oo:=⟨_,rfl⟩;obtain⟨r,jA⟩:∃r:List (D 10),r=r0:=⟨_,rfl⟩;have g0:Rv (In γ.o [0]) w v xs:=by rw[eJ];exact hv.1.1
 have hr:bD ([]:List (D 10)) xs=aa r:=by rw[eJ,jA];exact mH
 subst jA;have hT:=wG.2;refine enter (l:=[v]) func49 rfl ntmps49 rfl ?_;refine CW.sub (L':=[(0,v)]) ⟨rfl,trivial⟩ ?_;refine CW.sr λK1 ir=>?_;refine WL.p (.slice none 0 0) rfl rfl ?_;refine WL.nx ir ?_;refine CW.seq λK2 iL=>?_;refine CW.sr λK3 mc=>?_;refine WL.p v rfl rfl ?_;obtain⟨a,m,q,rfl,hn⟩:=Ab g0;refine WL.lW (OW.isNil wG.1 rfl) rfl ?_;refine WL.nx mc ?_;cases a with
 |none=>refine CW.cond (b:=ab) rfl (λ_=>?_) (λh=>nomatch h);refine CW.sr λK4 nW=>?_;refine WL.p (.slice none 0 0) rfl rfl ?_;refine WL.nx nW ?_;rw[hn rfl]at hr;obtain rfl:=B9 hr;exact CW.mA (vs:=[.slice none 0 0]) results49 ⟨rfl,trivial⟩ ⟨_,rfl,qQ (n:=10) (e:=80) (q:=1000) (K:=[]) (M:=[]) (N:=[]) rfl rfl rfl (by simp) (by simp) (bJ.refl _ _ γ.o w) (Ow.nil _ _ _ _ _) (λx hx=>by simp at hx<;>omega)⟩ (λ_ _ h=>h)
 |some a=>refine CW.cond (b:=ae) rfl (λh=>nomatch h) (λ_=>?_);refine CW.skip ?_;refine iL _ _ ?_;refine CW.sr λK5 lJ=>?_;refine WL.step (OW.buildSlice (o:=γ.o) (k:=1000) (K:=[]) (xs:=([]:List (D 10))) wG.1 hT rfl trivial rfl rfl) rfl ?_;rintro v1 w1 ⟨o1,kC,h1⟩;have g0:=g0.rQ kC rfl;refine WL.p (.slice (aa a) m q) rfl rfl ?_;refine WL.step (OW.append (K:=[]) wG.1 hT rfl rfl h1 (@fJ.flat (D 10) _ VZ _ _ _ _ _ g0.dp) hr rfl) rfl ?_;rintro v2 w2 ⟨o2,mL,h2⟩;refine WL.p v2 rfl rfl ?_;refine WL.nx lJ ?_;exact CW.mA (vs:=[v2]) results49 ⟨rfl,trivial⟩ ⟨_,rfl,qQ (n:=10) (e:=80) (q:=1000) (K:=[]) (M:=[1000]) (N:=[1000]) rfl rfl rfl (by simp) (by simp) ((kC.weaken (by simp) (by simp)).trans mL) h2 (λx hx=>by simp at hx<;>omega)⟩ (λ_ _ h=>h)
def rh(a0:aw):Option (ov):=(GN a0.aE).bind λx1=>(GO a0.aj).bind λx2=>(u6 a0.aT).bind λx3=>(zY a0.aP).bind λx4=>aa (x1,x2,x3,x4)
def v5:az D:=⟨134,Gc,Gc,[.agg [bS,bR,bI,bU]],[],Q4,QQ,λh=>rh ⟨h.1,h.2.1,h.2.2.1,h.2.2.2⟩⟩
def xy:CK v5:=fo [Ja,Xc,Xb,I9] [.cell 2 65] .o ⟨Xl,agb,aga,Pb,q0⟩ func134
def Jq(x1:List Int):Int×List Int->Option (Int×List Int⊕List Int):=λx2=>if ak (x2.1<len x1)=ab then(idx x2.2 x2.1).bind λx3=>(idx x2.2 x2.1).bind λx4=>(dq x2.2 x2.1 x2.1).bind λx5=>aa (.inl (W (x2.1+1),x5))else aa (.inr x2.2)
def Jo(a0:au)(a1:aw):Int×List Int->Option (Int×List Int⊕List Int):=λx8=>if ak (x8.1<len a0.ah)=ab then(idx a0.ah x8.1).bind λx9=>(if(x9.Kind==1)=ab then(idx a1.aE x8.1).bind aa else aa ae).bind λbi=>(if bi=ab then(idx x8.2 x9.A).bind λbF=>(idx x8.2 x9.B).bind λbY=>(idx x8.2 x9.A).bind λcF=>(idx x8.2 x9.A).bind λb7=>(dq x8.2 x9.A (eD bF bY)).bind λcM=>(idx cM x9.B).bind λdx=>(idx cM x9.B).bind λcZ=>(dq cM x9.B (eD bF bY)).bind aa else aa x8.2).bind λfh=>aa (.inl (W (x8.1+1),fh))else aa (.inr x8.2)
def Jp(a0:au)(a1:aw)(x6:List Int):Int×List Int->Option (Int×List Int⊕List Int):=λx7=>if ak (x7.1<len x6)=ab then(aG (Jo a0 a1) (0,x7.2)).bind λfL=>aa (.inl (W (x7.1+1),fL))else aa (.inr x7.2)
def PG(a0:au)(a1:aw):Option (List Int):=(mE 0 a0.aA).bind λx1=>(aG (Jq x1) (0,x1)).bind λx6=>(aG (Jp a0 a1 x6) (0,x6)).bind aa
def ai':az D:=⟨194,tB,fm,uS,[],iS,pg,λh=>let g:=h.2.2.2.2.2.2;PG (qb h) ⟨g.1,g.2.1,g.2.2.1,g.2.2.2⟩⟩
def aCd:CK ai':=fo [] [.tmp 4] (qn (qw (qw (.loop ⟨kL,[(15,aN)],[(2640,.sl 0 3 1 [])],[2640],3344⟩ ab [(.exit 0,⟨fm,[],[(2640,.sl 0 3 0 [])],[2640],3344⟩)] .o) .o) (qm (qw (.loop ⟨kL,[(25,aN)],[(2640,.sl 0 3 1 [])],[2640],3793⟩ ab [(.exit 2,⟨fm,[],[(2640,.sl 0 3 0 [])],[2640],3793⟩)] (qn (qw (qm (qw (.loop ⟨kL,[(30,aN)],[(2640,.sl 0 3 1 [])],[2640],4499⟩ ab [(.exit 4,⟨fm,[],[(2640,.sl 0 3 0 [])],[2640],4499⟩)] (qn (qw (qm (qw (qr ⟨[.lf .bool],[(39,qa),(40,qa),(41,qa),(42,qa),(43,qa),(44,aN)],[],[],5461⟩) (qp ⟨fm,[],[(2640,.sl 0 3 0 [])],[2640],5526⟩ .o .o)) .o) .o))) .o) .o) .o))) .o) .o))) trivial func194
def Fh(a0:au)(a1:aw)(a2:Int)(a3:Int):Int->Option (Int⊕Unit⊕Int×Bool):=λx1=>if ak (x1<len a0.ah)=ab then(idx a0.ah x1).bind λx2=>(if(x2.Kind==a2)=ab then if(x2.B==a3)=ab then(idx a1.aE x1).bind aa else aa ae else aa ae).bind λx4=>if x4=ab then aa (.inr (.inr (x2.A,ab)))else aa (.inl (W (x1+1)))else aa (.inr (.inl ()))
def Jn(a0:au)(a1:aw)(a2:Int)(a3:Int):Option (Int×Bool):=(aG (Fh a0 a1 a2 a3) 0).bind λx5=>cQ (λx6=>aa (0,ae)) (aa) x5
def XB:az D:=⟨240,J',uR,Y',[],fB,[],λh=>let g:=h.2.2.2.2.2.2;Jn (qb h) ⟨g.1,g.2.1,g.2.2.1,g.2.2.2.1⟩ g.2.2.2.2.1 g.2.2.2.2.2⟩
def ais:CK XB:=fo [] [.tmp 8,.tmp 9] (qw (qw (.loop ⟨z8,[(15,aN)],[],[],3088⟩ ae [(.exit 0,⟨[],[],[],[],3088⟩)] (qn (qw (qm (qw (qr ⟨[.lf .bool],[(25,qa),(26,qa),(27,qa),(28,qa),(31,qa),(32,qa),(33,qa),(34,qa),(35,qa),(36,aN)],[],[],4049⟩) .o) .o) .o))) .o) .o) trivial func240
def Js(a0:au)(a1:aw)(a2:Int):Option (Int×Bool):=((jQ a2 0 (W (len a1.aj-1))).bind λx1=>if(!x1)=ab then aa ab else(idx a1.aj a2).bind λx2=>aa (x2.State !=2)).bind λx3=>if x3=ab then aa (0,ae)else(Jn a0 a1 2 a2).bind aa
def XK:az D:=⟨195,z1,uR,z4,[],fB,[],λh=>let g:=h.2.2.2.2.2.2;Js (qb h) ⟨g.1,g.2.1,g.2.2.1,g.2.2.2.1⟩ g.2.2.2.2⟩
def ai_:CK XK:=fo [xz,XB] [.tmp 6,.tmp 7] (qw (qm (qt 23 2576) .o) .o) ⟨zk,ais,q0⟩ func195
def Jr(a0:au)(a1:aw)(a2:Int):Option (Int×Bool):=(Jn a0 a1 3 a2).bind aa
def XJ:az D:=⟨196,z1,uR,z4,[],fB,[],λh=>let g:=h.2.2.2.2.2.2;Jr (qb h) ⟨g.1,g.2.1,g.2.2.1,g.2.2.2.1⟩ g.2.2.2.2⟩
def ai9:CK XJ:=fo [XB] [.tmp 6,.tmp 7] .o ⟨ais,q0⟩ func196
def Jy(a0:bz):Option (Bool):=aa (len a0.aA==0)
def XI:az D:=⟨198,[aL,aL,aL],[.lf .bool],Kc,[],z5,[],λh=>Jy ⟨h.1,h.2.1,h.2.2⟩⟩
def ai7:CK XI:=fo [] [.tmp 2] .o trivial func198
def Dc(a0:List bz):Int->Option (Int⊕Unit⊕Int):=λx1=>if ak (x1<len a0)=ab then(idx a0 x1).bind λx2=>(Jy x2).bind λx3=>if x3=ab then aa (.inr (.inr x1))else aa (.inl (W (x1+1)))else aa (.inr (.inl ()))
def R4(a0:List bz):Option (Int):=(aG (Dc a0) 0).bind λx4=>cQ (λx5=>aa (-1)) (aa) x4
def air:az D:=⟨241,so,z8,[.one (bS),.one (.fn 198 [])],[],z5,[],λh=>R4 h⟩
def aBC:CK air:=fo [XI] [.tmp 4] z3 ⟨ai7,q0⟩ func241
