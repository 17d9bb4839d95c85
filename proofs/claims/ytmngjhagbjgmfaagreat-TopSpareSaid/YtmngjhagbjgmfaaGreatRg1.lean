import Derived.Test.YtmngjhagbjgmfaaGreatRt
import Derived.Test.YtmngjhagbjgmfaaGreatHc
set_option maxRecDepth 100000
set_option linter.all false
open Bool renaming false->ai,true->ab
open Decidable renaming decide->al
open Nat renaming ble->eh
open Option renaming none->ak,some->aa
open Sum renaming elim->dn
noncomputable section
namespace Go.Proofs.YtmngjhagbjgmfaaGreat
open Go Go.RowKit Dp
namespace Rx
open Tryz
abbrev jT:=Int×List cH×List Source×List Consumer×Int×Int×List Bool×List bo×List Int×List Part×List Act
abbrev ra:=Int×List Bool×List bo×List Int×List Part×List eO×List Event
abbrev oj:=List Bool×List bo×List Int×List Part
abbrev Qz:=Int×Int×Int×Int×Int×Int×Int×Int×Int×Int×Int×Int×Int×Int×Int×Int×Int×Int×Int×Int×Int×Int×Int×Int×Int×ByteArray×Int×Int×Int×Int×Int×Int×List Int×Int×List Int×List Int×List Int×List Int×List Int×List Int×List Int×List Int×List Int×List b9×List cH×List Source×List Consumer×List Part×List jN×List jk×List k_×List ns
abbrev Qy:=List Int×Int×Int×Int×Int×Int×Int×Int×Int×Int×Int×Int×Int×Int×Int×Int×Int×Int×Int×Int×Int×Int×Int×Int×Int×Int×Int×ByteArray×Int×Int×Int×Int×Int×Int×Int×Int×Int×List b9×List cH×List Consumer
abbrev Qw:=Int×List Bool×List bo×List Int×List Part×Int×List cH×List Source×List Consumer×Int×Int×List eO×List Event×List Bool×List bo×List Int×List Part×List Event×List ax
abbrev FQ:=Int×Int×List cH×List Source×List Consumer×Int×Int×Int×oj
abbrev Cy:=List Int×Int×Int×Int×Int×List cH×List Source
abbrev JI:=List Bool×List bo×List Int×List Part×List Act
abbrev uT:=List Int×Int×List Int
abbrev mR:=Int×Int×Int
abbrev sn:=Int×Int×List Int
abbrev tI:=Int×List Int×Int
abbrev QD:=Int×List cH×List Source×List Consumer×Int×Int×List Int×List Act
abbrev QC:=Int×Int×Int×List Int×Int×List cH×List Source×List Consumer
abbrev Zk:=Int×List cH×List Source×List Consumer×Int×Int×List Bool×List bo×List Int×List Part×List Int×List Act
abbrev Zj:=Int×List Int×Int×List cH×List Source×List Consumer×List Bool×List bo×List Int×List Part×List eO
abbrev JM:=Int×Int×Int×Int×Int×Int×List fU
abbrev Cz:=List jN×List Int×Int
abbrev QB:=List Int×Int×Int×Int×Int×List cH×List Consumer
abbrev Zh:=Int×List cH×List Source×List Consumer×Int×Int×List Bool×List bo×List Int×List Part×JI
abbrev JL:=List Int×List Int×List Int×Bool
abbrev JK:=Int×Int×Int×Int×Int×List iG
abbrev Zg:=Int×Int×List Bool×List bo×List Int×List Part×List eO×List Event×List Int
abbrev QA:=List Int×Int×Int×Int×Int×List cH
abbrev JJ:=List Int×Int×List Consumer
abbrev qB(k n:Nat):J:=⟨[.lf .bool],[(k,.one (.h 0 []))],[],[],n⟩
abbrev qr(j:J):An:= .r (aa (ab,[(.normal,j)])) .nil
abbrev qp(j:J)(x y:An):An:= .n (aa (ab,[(.normal,j)])) x y
abbrev qt(k n:Nat):An:=qr (qB k n)
abbrev qu(k n:Nat)(x y:An):An:=qp (qB k n) x y
abbrev qn(x:An):An:= .n ak .o x
abbrev qm(x y:An):An:= .n ak x y
abbrev qi:Ht:= .lf (.int .i64)
abbrev aM:Ht:= .lf (.sl 0)
abbrev cm:Ht:= .lf (.sl 1)
abbrev bz:Ht:= .lf (.sl 10)
abbrev fG:Ht:= .lf (.sl 11)
abbrev gf:Ht:= .lf (.sl 12)
abbrev zR:Ht:= .lf (.sl 13)
abbrev wJ:Ht:= .lf (.sl 14)
abbrev jq:Ht:= .lf (.sl 16)
abbrev sv:Ht:= .lf (.sl 17)
abbrev ot:Ht:= .lf (.sl 19)
abbrev p9:Ht:= .lf (.sl 20)
abbrev zQ:Ht:= .lf (.sl 21)
abbrev zP:Ht:= .lf (.sl 22)
abbrev oo:Ht:= .lf (.sl 29)
abbrev rj:Ht:= .lf (.sl 33)
abbrev u_:Ht:= .lf (.sl 37)
abbrev Da:Ht:= .lf (.sl 38)
abbrev cX:Ht:= .lf (.sl 4)
abbrev dL:Ht:= .lf (.sl 5)
abbrev dq:Ht:= .lf (.sl 6)
abbrev cI:Ht:= .lf (.sl 9)
abbrev aO:PC:= .one (.h 0 [])
abbrev du:PC:= .one (.h 1 [])
abbrev zT:PC:= .one (.h 11 [])
abbrev lu:PC:= .one (.h 2 [])
abbrev tP:PC:= .one (.h 3 [])
abbrev GP:PC:= .one (.h 4 [])
abbrev zS:PC:= .one (.h 6 [])
abbrev bE:P1:= .h 0 []
abbrev bn:P1:= .h 1 []
abbrev kQ:P1:= .h 10 []
abbrev nC:P1:= .h 11 []
abbrev mV:P1:= .h 12 []
abbrev rl:P1:= .h 13 []
abbrev xY:P1:= .h 14 []
abbrev wK:P1:= .h 16 []
abbrev cg:P1:= .h 2 []
abbrev Ab:P1:= .h 20 []
abbrev Aa:P1:= .h 21 []
abbrev z_:P1:= .h 22 []
abbrev zZ:P1:= .h 23 []
abbrev zY:P1:= .h 24 []
abbrev zX:P1:= .h 29 []
abbrev dA:P1:= .h 3 []
abbrev zW:P1:= .h 30 []
abbrev zV:P1:= .h 31 []
abbrev xX:P1:= .h 33 []
abbrev cD:P1:= .h 4 []
abbrev bQ:P1:= .h 5 []
abbrev eG:P1:= .h 6 []
abbrev gQ:P1:= .h 7 []
abbrev tQ:P1:= .h 8 []
abbrev p_:P1:= .h 9 []
abbrev b6:P1:= .h 0 [0]
abbrev bU:P1:= .h 1 [0]
abbrev zU:P1:= .h 10 [0]
abbrev bL:P1:= .h 2 [0]
abbrev bX:P1:= .h 3 [0]
abbrev ef:P1:= .h 4 [0]
abbrev kP:P1:= .h 5 [0]
abbrev jD:P1:= .h 6 [0]
abbrev kh:P1:= .h 7 [0]
abbrev mU:P1:= .h 8 [0]
abbrev rk:P1:= .h 9 [0]
abbrev qa:PC:= .one (.any)
abbrev qw(x y:An):An:=qn (qm x y)
abbrev qv(x:An):An:=qn (qn x)
abbrev qb{β:Type}(h:Int×List cH×List Source×List Consumer×Int×Int×β):aw:=⟨h.1,h.2.1,h.2.2.1,h.2.2.2.1,h.2.2.2.2.1,h.2.2.2.2.2.1⟩
abbrev z0:List Ht:=[aM,aM,aM,aM,aM,aM,aM,aM,qi,qi,qi,qi,qi,qi,jq,qi,cX,dL,dq,qi,qi,qi,qi,qi,bz,ot,p9,zQ,qi,qi,qi,qi,qi,qi,qi,qi,qi,qi,qi,qi,qi,.lf .str,qi,qi,qi,qi,qi,qi,zP,qi,cm,cI,aM,bz,fG,gf,bz,qi,qi,qi]
abbrev z1:List Ht:=[qi,cX,dL,dq,qi,qi,cm,cI,aM,bz,qi]
abbrev z2:List PC:=[.agg [b6,bU,bL,bX,ef,kP,jD,kh,mU,p_,kQ,nC,mV,rl,xY,.h 15 [0],wK,.h 17 [0],.h 18 [0],.h 19 [0],Ab,Aa,z_,zZ,zY,.h 25 [0],.h 26 [0],.h 27 [0],.h 28 [0],zX,zW,zV,.h 32 [],xX,.h 34 [],.h 35 [],.h 36 [],.h 37 [],.h 38 [],.h 39 [],.h 40 [],.h 41 [],.h 42 [],.h 43 [],.h 44 [],.h 45 [],.h 46 [],.h 47 [],.h 48 [],.h 49 [0]],.agg [.h 50 [],.h 51 [0],.h 52 [0],.h 53 [0],.h 54 [0],.h 55 [0],.h 56 [0]],.one (.h 57 [0]),.agg [.h 58 [],.h 59 [],.h 60 []]]
abbrev z3:An:=(qn (qm (qn (qm (.loop ⟨[qi],[(8,aO)],[],[],2576⟩ ai [(.exit 0,⟨[],[],[],[],2576⟩)] .o) .o)) .o))
abbrev z4:List PC:=[.agg [bE,bU,bL,bX,cD,bQ],.agg [jD,kh,mU,rk],.one (kQ)]
abbrev z5:List PC:=[aO]
abbrev z6:List Ht:=[qi,cX,dL,dq,qi,qi,cm,cI,aM,bz,oo]
abbrev z7:List Ht:=[qi,qi,cX,dL,dq,qi,qi,qi,cm,cI,aM,bz]
abbrev z8:List Ht:=[qi]
abbrev z9:List Ht:=[qi,qi]
abbrev YY:An:=(qn (qm (qn (qm (.loop ⟨[qi,aM],[(4,.one (.own 3024)),(15,aO)],[(3024,.sl 0 3 1 [])],[],3088⟩ ab [(.exit 0,⟨[aM],[(4,.one (.own 3024))],[(3024,.sl 0 3 0 [])],[],3088⟩)] (qn (qn (qm (qm (qn (qm (qr ⟨[.lf .bool],[(29,qa),(30,qa),(31,qa),(32,aO)],[],[],4050⟩) (qp ⟨[aM],[(4,.one (.own 4051))],[(4051,.sl 0 3 0 [])],[3024],4115⟩ .o .o))) .o) .o)))) .o)) (qn (qm (.loop ⟨[qi,qi,cX,dL,dq,qi,qi,cm,cI,aM,bz,oo],[(40,aO)],[(1000,.box [bn,bL,bX,ef,bQ,eG,.own 1001,.own 1002,.own 1003,.own 1004,.own 3473]),(1001,.sl 1 4 7 []),(1002,.sl 9 140 8 []),(1003,.sl 0 3 9 []),(1004,.sl 10 79 10 []),(3473,.sl 29 124 11 [])],[1000,1001,1002,1003,1004,1005],3537⟩ ab [(.exit 2,⟨z6,[],[(1000,.box [bE,bU,bL,bX,cD,bQ,.own 1001,.own 1002,.own 1003,.own 1004,.own 3473]),(1001,.sl 1 4 6 []),(1002,.sl 9 140 7 []),(1003,.sl 0 3 8 []),(1004,.sl 10 79 9 []),(3473,.sl 29 124 10 [])],[1000,1001,1002,1003,1004,1005],3537⟩)] .o) .o))))
abbrev tz:List Ht:=[qi,cX,dL,dq,qi,qi,cm,cI,aM,bz]
abbrev Cg:List (Nat×PO):=[(1000,.box [bE,bU,bL,bX,cD,bQ,.own 1001,.own 1002,.own 1003,.own 1004,kQ]),(1001,.sl 1 4 6 []),(1002,.sl 9 140 7 []),(1003,.sl 0 3 8 []),(1004,.sl 10 79 9 [])]
abbrev fx:List PC:=[aO,du]
abbrev FL:List (Nat×PO):=[(1000,.box [bE,bU,bL,bX,cD,bQ,.own 1001,.own 1002,.own 1003,.own 1004,.own 1005]),(1001,.sl 1 4 6 []),(1002,.sl 9 140 7 []),(1003,.sl 0 3 8 []),(1004,.sl 10 79 9 []),(1005,.sl 29 124 10 [])]
abbrev uP:List PC:=[.agg [bE,bU,bL,bX,cD,bQ],.agg [jD,kh,mU,rk]]
abbrev o_:List Ht:=[qi,qi,qi,qi]
abbrev YE:List Ht:=[qi,qi,qi,qi,qi,qi,qi,qi,qi,qi,qi,qi,qi,qi,qi,qi,qi,qi,qi,qi,qi,qi,qi,qi,qi,.lf .str,qi,qi,qi,qi,qi,qi,aM,qi,aM,aM,aM,aM,aM,aM,aM,aM,aM,jq,cX,dL,dq,bz,ot,p9,zQ,zP]
abbrev mN:List Ht:=[qi,qi,qi]
abbrev kK:List (Nat×PO):=[(1000,.box [b6,bn])]
abbrev Cf:List (Nat×PO):=[(1000,.box [.fn 61 [.ptr 1001 0]]),(1001,.box [bn,bL,bX,ef,kP,jD,kh])]
abbrev kJ:List Ht:=[qi,aM]
abbrev zx:List (Nat×PO):=[(1000,.sl 1 4 1 []),(1001,.sl 9 140 2 []),(1002,.sl 0 3 3 []),(1003,.sl 10 79 4 [])]
abbrev JA:List Ht:=[qi,cX,dL,dq,qi,qi,cm,cI,aM,bz,qi,qi]
abbrev zw:List Ht:=[qi,cX,dL,dq,qi,qi]
abbrev YD:List PC:=[.agg [.own 1001,.own 1002,.own 1003,.own 1004,.own 1005,.own 1006,.own 1007,.own 1008,.own 1009,bE,bn,cg,dA,cD,bQ,.own 1010,eG,.own 1011,.own 1012,.own 1013,gQ,tQ,p_,kQ,nC,.own 1014,.own 1015,.own 1016,.own 1017,mV,rl,xY,.h 15 [],wK,.h 17 [],.h 18 [],.h 19 [],Ab,Aa,z_,zZ,zY,.h 25 [],.h 26 [],.h 27 [],.h 28 [],zX,zW,zV,.own 1018]]
abbrev lQ:List Ht:=[aM,qi]
abbrev Jz:An:=(qn (qn (qm (qn (qm (.loop ⟨z8,[(13,aO)],[],[],3216⟩ ai [(.exit 0,⟨[],[],[],[],3216⟩)] .o) .o)) .o)))
abbrev Qf:List (Nat×PO):=[(1000,.box [bE,bU,bL,bX,cD,bQ,.own 1001,.own 1002,.own 1003,.own 1004,.own 1006]),(1001,.sl 1 4 6 []),(1002,.sl 9 140 7 []),(1003,.sl 0 3 8 []),(1004,.sl 10 79 9 []),(1006,.sl 29 124 10 [])]
abbrev Qe:List (Nat×PO):=[(1000,.box [bn,bL,bX,ef,bQ,eG,.own 1001,.own 1002,.own 1003,.own 1004,gQ]),(1001,.sl 1 4 8 []),(1002,.sl 9 140 9 []),(1003,.sl 0 3 10 []),(1004,.sl 10 79 11 [])]
abbrev FK:List Ht:=[.lf .bool,qi,cm,cI,aM,bz,fG,gf]
abbrev zv:List Ht:=[qi,cm,cI,aM,bz]
abbrev zu:List PC:=[.agg [.own 1000,.own 1001,.own 1002,.own 1003],aO]
abbrev zt:List PC:=[.agg [bE,bU,bL,bX,cD,bQ]]
abbrev fk:List Ht:=[aM]
abbrev jn:List PC:=[.one (.own 1000)]
abbrev Qd:List Ht:=[qi,qi,cX,dL,dq,qi,qi,cm,cI,aM,bz,oo]
abbrev mM:List (Nat×PO):=[(1000,.sl 10 79 0 [])]
abbrev YC:List (Nat×PO):=[(1000,.box [bE,bU,bL,bX,cD,bQ,.own 1006,.own 1007,.own 1008,.own 1009,.own 1010]),(1001,.sl 1 4 6 []),(1002,.sl 9 140 7 []),(1003,.sl 0 3 8 []),(1004,.sl 10 79 9 []),(1006,.sl 1 4 10 []),(1007,.sl 9 140 11 []),(1008,.sl 0 3 12 []),(1009,.sl 10 79 13 []),(1010,.sl 29 124 14 [])]
abbrev kI:List PC:=[.one (.ptr 1000 0)]
abbrev Qc:List Ht:=[qi,cX,dL,dq,qi,qi,cm,cI,aM,bz,aM,oo]
abbrev YB:An:=(qn (qn (qm (qm (.loop ⟨z8,[(2,aO)],[],[],2704⟩ ab [(.exit 0,⟨z8,[(2,aO)],[],[],2704⟩)] .o) .o) (qm (qm (.loop ⟨z8,[(3,aO)],[],[],2769⟩ ab [(.exit 2,⟨z8,[(3,aO)],[],[],2769⟩)] .o) .o) .o))))
abbrev YA:An:=(qm (qm (qr ⟨[.lf .bool],[(22,qa),(23,qa),(24,qa),(25,qa),(26,qa),(27,qa),(28,qa),(29,qa),(30,qa),(31,qa),(32,qa),(33,qa),(34,aO)],[],[],3220⟩) .o) .o)
abbrev tx:List PC:=[.agg [bE,bn,cg]]
abbrev ie:List Ht:=[bz]
abbrev Jy:List Ht:=[qi,qi,qi,qi,qi,sv]
abbrev Yz:List (Nat×PO):=[(1000,.box [bE,bU,bL,bX,ef,.own 1001,.own 1002,gQ,mU,rk,zU,nC,mV,.own 1003,.own 1004]),(1001,.sl 11 110 5 []),(1002,.sl 12 192 6 []),(1003,.sl 12 192 13 []),(1004,.sl 14 65 14 [0])]
abbrev Yy:List Ht:=[qi,cm,cI,aM,bz,qi,cX,dL,dq,qi,qi,fG,gf,cm,cI,aM,bz,gf,wJ]
abbrev zr:List Ht:=[bz,qi,qi]
abbrev Yx:List (Nat×PO):=[(1000,.box [bE,bU,bL,bX,cD,bQ,.own 1001,.own 1002,.own 1003,.own 1004,.own 1007]),(1001,.sl 1 4 6 []),(1002,.sl 9 140 7 []),(1003,.sl 0 3 8 []),(1004,.sl 10 79 9 []),(1006,.sl 0 3 10 []),(1007,.sl 29 124 11 [])]
abbrev Yw:List (Nat×PO):=[(1000,.box [bE,bU,bL,bX,cD,bQ,.own 1001,.own 1002,.own 1003,.own 1004,.own 1005]),(1001,.sl 1 4 6 []),(1002,.sl 9 140 7 []),(1003,.sl 0 3 8 []),(1004,.sl 10 79 9 []),(1005,.sl 29 124 10 []),(1006,.sl 0 3 11 [])]
abbrev o9:List (Nat×PO):=[(1000,.sl 0 3 0 [])]
abbrev Qb:List Ht:=[qi,cX,dL,dq,qi,qi,qi,qi]
abbrev pW:List (Nat×PC):=[(5,aO)]
abbrev Qa:List Ht:=[aM,qi,qi,cX,dL,dq,qi,qi]
abbrev Ce:List PC:=[.agg [bE,bn,cg],tP]
abbrev P':List Ht:=[qi,qi,qi,qi,qi,sv,qi]
abbrev Yv:List (Nat×PC):=[(22,qa),(23,qa),(24,qa),(25,qa),(26,qa),(27,qa),(28,qa),(29,qa),(30,qa),(31,qa),(32,qa),(33,qa)]
abbrev P_:List Ht:=[qi,qi,cm,cI,aM,bz,fG,gf]
abbrev Cd:List PC:=[aO,du,lu]
abbrev uO:List Ht:=[qi,.lf .bool]
abbrev P9:List Ht:=[qi,qi,jq,aM,qi,qi,qi]
abbrev Cc:List Ht:=[qi,qi,aM]
abbrev xC:List (Nat×PO):=[(1000,.box [bU,cg])]
abbrev Yu:List Ht:=[qi,cX,dL,dq,qi,qi,cm,cI,aM,bz,qi,qi,qi,qi]
abbrev Yt:List Ht:=[qi,cX,dL,dq,qi,qi,cm,cI,aM,bz,cm,cI,aM,bz,oo]
abbrev P8:List (Nat×PO):=[(1000,.box [b6,bn]),(1001,.sl 4 93 3 []),(1002,.sl 5 96 4 []),(1003,.sl 6 99 5 [0])]
abbrev FJ:List Ht:=[cm,cI,aM,bz]
abbrev Ys:List (Nat×PO):=[(1000,.box [b6,bn]),(1001,.sl 4 93 2 []),(1002,.sl 5 96 3 []),(1003,.sl 6 99 4 [0]),(1004,.sl 1 4 5 []),(1005,.sl 9 140 6 []),(1006,.sl 0 3 7 []),(1007,.sl 10 79 8 [])]
abbrev Yr:List Ht:=[qi,cX,dL,dq,qi,qi,cm,cI,aM,bz,qi,qi,qi]
abbrev xB:List Ht:=[qi,bz]
abbrev P7:List Ht:=[qi,cm,cI,aM,bz,fG,gf]
abbrev P6:List Ht:=[qi,qi,qi,qi,aM,qi]
abbrev sh:List (Nat×PC):=[(4,aO)]
abbrev Yq:List Ht:=[qi,cX,dL,dq,qi,qi,cm,cI,aM,bz,oo,aM,qi]
abbrev o8:List PC:=[.one (b6)]
abbrev P5:List (Nat×PO):=[(1000,.sl 1 4 0 []),(1001,.sl 9 140 1 []),(1002,.sl 0 3 2 []),(1003,.sl 10 79 3 [])]
abbrev zq:List PC:=[.one (b6),du]
abbrev Yp:List Ht:=[qi,cX,dL,dq,qi,qi,cm,cI,aM,bz,oo,qi]
abbrev Yo:List Ht:=[qi,cX,dL,dq,qi,qi,cm,cI,aM,bz,qi,oo]
abbrev tw:List (Nat×PC):=[(7,aO)]
abbrev wk:List PC:=[.agg [bE,bn]]
abbrev P4:List PC:=[.one (.ptr 1000 0),.agg [cg,.own 1001,.own 1002,.own 1003,eG,gQ]]
abbrev Cb:An:=(qn (qm (qt 2 2320) .o))
abbrev Yn:List Ht:=[.lf .bool,qi,cX,dL,dq,qi,qi,cm,cI,aM,bz,oo]
abbrev P3:List PC:=[.agg [bE,bn,bL],.one (bX),.agg [cD,bQ,eG]]
abbrev FI:List Ht:=[aM,qi,aM]
abbrev zp:List Ht:=[qi,cI]
abbrev nv:List Ht:=[cI]
abbrev wj:List (Nat×PC):=[(8,aO)]
abbrev Ca:List PC:=[.one (b6),.one (bU)]
abbrev FH:List Ht:=[.lf .bool,aM,qi]
abbrev P2:List PC:=[.agg [bE,bn,cg,dA,cD,kP],zS]
abbrev Ym:List PC:=[.agg [bE,bU,bL,bX,cD,bQ],.agg [jD,kh,mU,rk],.one (kQ),zT]
abbrev Jx:List PC:=[.agg [bE,bn],.agg [cg,dA]]
abbrev Yl:An:=(qn (qn (qm (qm (qn (qn (qp ⟨nv,[],[(3417,.sl 9 140 0 [])],[3417],5714⟩ .o .o))) .o) .o)))
abbrev Yk:List Ht:=[qi,cX,dL,dq,qi,qi,qi,qi,qi]
abbrev wi:List (Nat×PC):=[(9,aO)]
abbrev B':List Ht:=[qi,.lf (.sl 24)]
abbrev Yj:An:=(qn (qm (qn (qm (.loop ⟨z8,wj,[],[],2704⟩ ai [(.exit 0,⟨[],[],[],[],2704⟩)] .o) .o)) .o))
abbrev YX:An:=(qn (qm (qn (qm (.loop ⟨z8,pW,[],[],2320⟩ ai [(.exit 0,⟨[],[],[],[],2320⟩)] .o) .o)) .o))
abbrev YW:J:=⟨[qi,qi,.lf .bool],[],[(2384,.box [bE,bn]),(2512,.box [cg])],[2384,2512],3344⟩
abbrev JF:List Ht:=[aM,qi,qi]
abbrev YV:List Ht:=[qi,qi,qi,qi,qi,sv,qi,qi]
abbrev YU:List Ht:=[qi,qi,qi,qi,qi,qi,qi,rj]
abbrev YT:An:=(qn (qn (qm (qn (qp ⟨z9,[(2,aO),(3,du)],[],[],3728⟩ .o .o)) .o)))
abbrev YS:List Ht:=[aM,qi,qi,cm,cI,aM,bz,fG,gf]
abbrev YR:List Ht:=[qi,qi,jq,aM,rj,qi,qi,qi]
abbrev JE:List Ht:=[aM,qi,bz]
abbrev YQ:List Ht:=[qi,aM,qi,qi,qi,qi,cX,dL]
abbrev YP:List Ht:=[aM,qi,cX,dL,dq,cm,cI,aM,bz]
abbrev YO:J:=⟨[qi,u_],[(5,.one (.own 2896)),(13,aO)],[(2896,.sl 37 331 1 [])],[],2960⟩
abbrev JD:List PC:=[.agg [bE,bn,cg,dA]]
abbrev Ql:List PC:=[.agg [bE,bn,cg,dA,cD,kP]]
abbrev YN:List Ht:=[qi,cX,dL,dq,qi,qi,aM,oo]
abbrev YM:List (Nat×PO):=[(1000,.sl 1 4 1 []),(1001,.sl 9 140 2 []),(1002,.sl 0 3 3 []),(1003,.sl 10 79 4 []),(1004,.sl 29 124 5 [])]
abbrev wl:List PC:=[.one (.own 1001)]
abbrev Qk:List Ht:=[qi,aM,qi,aM]
abbrev Ch:J:=⟨[],[],[],[],2832⟩
abbrev si:List Ht:=[.lf (.sl 24)]
abbrev YL:List Ht:=[fG,qi,cm,cI,aM,bz,fG,gf]
abbrev Qj:List Ht:=[qi,qi,qi,.el 0]
abbrev zy:List (Nat×PO):=[(1000,.sl 0 3 1 [])]
abbrev Qi:List (Nat×PO):=[(1000,.box [b6,bn]),(1001,.sl 0 3 2 [])]
abbrev YK:List Ht:=[aM,qi,qi,qi,qi,cX,dL]
abbrev YJ:List Ht:=[qi,cX,dL,dq,qi,qi,qi]
abbrev JC:List PC:=[.one (.ptr 1000 0),.one (.own 1001)]
abbrev YI:List PC:=[.agg [bE,bn,bL],.one (bX),.one (ef),.agg [bQ,eG,gQ]]
abbrev JB:List PC:=[.agg [b6,bU,bL]]
abbrev YH:List Ht:=[qi,qi,qi,qi,qi,qi]
abbrev YG:List Ht:=[qi,qi,jq,qi,qi,qi]
abbrev Qh:List PC:=[.agg [.own 1000,.own 1001,.own 1002,.own 1003]]
abbrev YF:List PC:=[.agg [bE,bU,bL,bX,cD,bQ],.agg [eG,gQ,tQ]]
abbrev Qg:An:=(qn (qm (qm (qt 21 2320) .o) .o))
abbrev CK(c:aA D):=fM prog T c
def q0:True:=trivial
def ayj{f:Nat}{fn:Func}{code:Code}(hf:prog.funcs[f]? =aa fn)(hb:fn.body=aa code)(hn:al (fn.name= "runtime.NumGoroutine")=ai)(args:Array Value)(w:World):(callFunc f args).run prog w= .ok (.enter f args) w:=by have hn:=pQ hn;unfold callFunc;simp[hf,hn,hb]
def fo(Φ:List (aA D))(rs:List ResultVar)(an:An)(cL:im prog T Φ){c:aA D}{fn:Func}{code:Code}(hf:prog.funcs[c.f]? =aa fn)(hb:fn.body=aa code:=by rfl)(kU:fn.results=rs.toArray:=by rfl)(hn:al (fn.name= "runtime.NumGoroutine")=ai:=by kernel_rfl)(bV:((writes code).all (λt=>Nat.blt t fn.ntmps)&&eh c.args.length fn.ntmps&&sD c.jU c.b8&&mw (c.b8.map Prod.fst)&&c.b8.all (λp=>eh 1000 p.1)&&eh c.b8.length 40)=ab:=by kernel_rfl)(rG:∀h,KO T Φ c rs code an h=c.fn h:=by intro h;kernel_rfl):CK c:=aeu qc pg (im.mem cL) nK (ayj hf hb hn) hf hb kU bV rG
def jK(a0:Int)(a1:Int)(a2:Int):Option (Bool):=(if al (a0>=a1)=ab then aa (al (a0<=a2))else aa ai).bind aa
def xn:aA D:=⟨93,mN,[.lf .bool],Cd,[],z5,[],λh=>jK h.1 h.2.1 h.2.2⟩
def y5:CK xn:=fo [] [.tmp 6] (qw (qt 6 2192) .o) trivial func93
def CI(a0:List Int)(a1:Int):Int->Option (Int⊕Unit⊕Int):=λx1=>if al (x1<len a0)=ab then(idx a0 x1).bind λx2=>if(a1==x2)=ab then aa (.inr (.inr x1))else aa (.inl (W (x1+1)))else aa (.inr (.inl ()))
def J6(a0:List Int)(a1:Int):Option (Int):=(aJ (CI a0 a1) 0).bind λx3=>dn (λx4=>aa (-1)) (aa) x3
def ahz:aA D:=⟨221,lQ,z8,zq,[],z5,[],λh=>J6 h.1 h.2⟩
def aAm:CK ahz:=fo [] [.tmp 4] z3 trivial func221
def xN(a0:List Int)(a1:Int):Option (Bool):=(J6 a0 a1).bind λx1=>aa (al (x1>=0))
def II:aA D:=⟨160,lQ,[.lf .bool],zq,[],z5,[],λh=>xN h.1 h.2⟩
def OG:CK II:=fo [ahz] [.tmp 4] .o ⟨aAm,q0⟩ func160
def OX(a0:List Int):Option (Bool):=aa (len a0==0)
def aiq:aA D:=⟨162,fk,[.lf .bool],o8,[],z5,[],λh=>OX h⟩
def aA4:CK aiq:=fo [] [.tmp 2] .o trivial func162
def CL(a0:List (List Int)):Int->Option (Int⊕Unit⊕Int):=λx1=>if al (x1<len a0)=ab then(idx a0 x1).bind λx2=>(OX x2).bind λx3=>if x3=ab then aa (.inr (.inr x1))else aa (.inl (W (x1+1)))else aa (.inr (.inl ()))
def Q4(a0:(List (List Int))):Option (Int):=(aJ (CL a0) 0).bind λx4=>dn (λx5=>aa (-1)) (aa) x4
def ahy:aA D:=⟨222,[zR],z8,[.one (b6),.one (.fn 162 [])],[],z5,[],λh=>Q4 h⟩
def aAl:CK ahy:=fo [aiq] [.tmp 4] z3 ⟨aA4,q0⟩ func222
def Kq(a0:(List (List Int))):Option (Bool):=(Q4 a0).bind λx1=>aa (al (x1>=0))
def air:aA D:=⟨161,[zR],[.lf .bool],[.one (b6),.one (.fn 162 [])],[],z5,[],λh=>Kq h⟩
def aA5:CK air:=fo [ahy] [.tmp 4] .o ⟨aAl,q0⟩ func161
def BJ(a0:aw):Int×List Int×List (List Int)->Option (Int×List Int×List (List Int)⊕List Int×List (List Int)⊕Bool):=λx3=>if al (x3.1<len a0.ae)=ab then(idx a0.ae x3.1).bind λx4=>(jK x4.A 0 (W (a0.aB-1))).bind λx5=>if(!x5)=ab then aa (.inr (.inr ai))else(if(x4.Kind==1)=ab then(jK x4.B (W (x4.A+1)) (W (a0.aB-1))).bind aa else aa ai).bind λx7=>(if x7=ab then aa (.inl x3.2)else(if(x4.Kind==2)=ab then(jK x4.B 0 (W (len x3.2.1-1))).bind λx8=>if x8=ab then(idx x3.2.1 x4.B).bind λx9=>aa (x9==0)else aa ai else aa ai).bind λbf=>(if bf=ab then(idx x3.2.1 x4.B).bind λkL=>(idx x3.2.1 x4.B).bind λfN=>(idx x3.2.1 x4.B).bind λmo=>(di x3.2.1 x4.B (W (kL+1))).bind λke=>aa (.inl (ke,x3.2.2))else(if(x4.Kind==3)=ab then(jK x4.B 0 (W (len x3.2.2-1))).bind λbp=>if bp=ab then(idx x3.2.2 x4.B).bind λbK=>(idx x3.2.2 x4.B).bind λcq=>(xN cq x4.A).bind λcG=>aa (!cG,x3.2.2)else aa (ai,x3.2.2)else aa (ai,x3.2.2)).bind λcw=>if cw.1=ab then(idx cw.2 x4.B).bind λcN=>(idx cw.2 x4.B).bind λdG=>(idx cw.2 x4.B).bind λde=>(bG de [x4.A]).bind λdP=>(di cw.2 x4.B dP).bind λfg=>(idx fg x4.B).bind λgb=>(yN x4.B x4.B).bind λiV=>aa (.inl (x3.2.1,fg))else aa (.inr (.inr (.inr (.inr ai))))).bind λig=>dn (λiU=>aa (.inl iU)) (aa) ig).bind λnz=>dn (λpY=>aa (.inl (W (x3.1+1),pY))) (aa) nz else aa (.inr (.inl x3.2))
def OY(a0:aw):Option (Bool):=(mz 0 (len a0.aj)).bind λx1=>(mz [] (len a0.az)).bind λx2=>(aJ (BJ a0) (0,x1,x2)).bind λww=>dn (λsk=>((xN sk.1 0).bind λtF=>if(!tF)=ab then(Kq sk.2).bind λsj=>aa !sj else aa ai).bind aa) (aa) ww
def c94:aA D:=⟨94,zw,[.lf .bool],zt,[],z5,[],λh=>OY ⟨h.1,h.2.1,h.2.2.1,h.2.2.2.1,h.2.2.2.2.1,h.2.2.2.2.2⟩⟩
def ayq:CK c94:=fo [xn,II,air] [.tmp 2] (qn (qw (qw (.loop ⟨[qi,aM,zR],[(18,aO)],[(2640,.sl 0 3 1 []),(3152,.cZ 13 22 3 0 2)],[2640,3152],4112⟩ ai [(.exit 0,⟨[aM,zR],[],[(2640,.sl 0 3 0 []),(3152,.cZ 13 22 3 0 1)],[2640,3152],4112⟩)] (qn (qw (qm (qn (qw (qm (qr ⟨[.lf .bool],[(29,aO),(34,qa),(35,qa),(36,qa),(37,qa),(38,qa),(39,qa),(40,qa),(41,qa),(42,qa)],[],[],5715⟩) (.n (aa (ai,[(.normal,⟨[aM,zR],[],[(2640,.sl 0 3 0 []),(3152,.cZ 13 22 3 0 1)],[2640,3152],5780⟩)])) .o (qm (qr ⟨[.lf .bool],[(44,aO),(49,qa),(50,qa),(51,qa),(52,qa),(53,qa),(54,qa),(57,qa),(58,qa),(59,qa),(60,qa),(61,qa),(62,qa)],[],[],5780⟩) (.n (aa (ai,[(.normal,⟨[aM,zR],[],[(2640,.sl 0 3 0 []),(3152,.cZ 13 22 3 0 1)],[2640,3152],5845⟩)])) .o (qm (qr ⟨[.lf .bool,zR],[(71,aO),(76,qa),(77,qa),(78,qa),(79,qa),(80,qa),(81,qa),(84,qa),(85,qa),(86,qa),(87,qa),(88,qa),(89,qa),(90,qa),(91,qa),(92,qa)],[(3152,.cZ 13 22 3 0 1)],[3152],5845⟩) .o))))) .o)) .o) .o))) .o) (qm (qt 2 4178) .o))) ⟨y5,OG,aA5,q0⟩ func94
def IN(a0:Source):Option (Bool):=((jK a0.ik 1 50000).bind λx1=>if x1=ab then(jK a0.eX 0 a0.ik).bind λx2=>if x2=ab then(jK a0.Start 0 600).bind aa else aa ai else aa ai).bind aa
def c95:aA D:=⟨95,mN,[.lf .bool],tx,[],z5,[],λh=>IN ⟨h.1,h.2.1,h.2.2⟩⟩
def ayp:CK c95:=fo [xn] [.tmp 2] Cb ⟨y5,q0⟩ func95
def ES(a0:Consumer)(a1:Int):Int->Option (Int⊕Unit⊕Bool):=λx1=>if al (x1<len a0.cf)=ab then(idx a0.cf x1).bind λx2=>((jK x2 0 (W (a1-1))).bind λx3=>if(!x3)=ab then aa ab else if al (x1>0)=ab then(idx a0.cf (W (x1-1))).bind λx4=>aa (al (x4>=x2))else aa ai).bind λx5=>if x5=ab then aa (.inr (.inr ai))else aa (.inl (W (x1+1)))else aa (.inr (.inl ()))
def OT(a0:Consumer)(a1:Int):Option (Bool):=(aJ (ES a0 a1) 0).bind λx6=>dn (λx7=>((jK a0.eV 0 50000).bind λx8=>if x8=ab then(jK a0.eX 0 a0.eV).bind λx9=>if x9=ab then(jK a0.kB 0 15).bind λbf=>if bf=ab then(jK a0.b9 (-1) 7).bind λbp=>if bp=ab then aa (al (len a0.cf<=4))else aa ai else aa ai else aa ai else aa ai).bind aa) (aa) x6
def c96:aA D:=⟨96,P6,[.lf .bool],[.agg [bE,bn,cg,dA,ef],.one (bQ)],[],z5,[],λh=>OT ⟨h.1,h.2.1,h.2.2.1,h.2.2.2.1,h.2.2.2.2.1⟩ h.2.2.2.2.2⟩
def ayo:CK c96:=fo [xn] [.tmp 4] (qw (qw (.loop ⟨z8,[(10,aO)],[],[],2832⟩ ai [(.exit 0,Ch)] (qn (qw (qm (qw (qr ⟨[.lf .bool],[(21,qa),(22,qa),(23,qa),(24,qa),(25,qa),(26,qa),(27,qa),(28,qa),(29,qa),(30,qa),(31,qa),(32,qa),(33,aO)],[],[],3665⟩) .o) .o) .o))) .o) (qm (qt 4 2896) .o)) ⟨y5,q0⟩ func96
def EX(a0:aw):Bool×Int->Option (Bool×Int⊕Bool):=λx7=>if al (x7.2<len a0.aj)=ab then(idx a0.aj x7.2).bind λx8=>(if x7.1=ab then(IN x8).bind aa else aa ai).bind λbf=>aa (.inl (bf,W (x7.2+1)))else aa (.inr x7.1)
def EW(a0:aw):Bool×Int->Option (Bool×Int⊕Bool):=λbK=>if al (bK.2<len a0.az)=ab then(idx a0.az bK.2).bind λcq=>(if bK.1=ab then(OT cq bK.2).bind aa else aa ai).bind λcw=>aa (.inl (cw,W (bK.2+1)))else aa (.inr bK.1)
def I1(a0:aw):Option (Int):=((jK a0.aB 1 6).bind λx1=>if(!x1)=ab then aa ab else if al (len a0.ae>24)=ab then aa ab else if al (len a0.aj>8)=ab then aa ab else aa (al (len a0.az>16))).bind λx2=>if x2=ab then aa 2 else((OY a0).bind λx3=>if x3=ab then(jK a0.bi 0 1800).bind λx4=>if x4=ab then(jK a0.aZ 0 6000).bind aa else aa ai else aa ai).bind λx6=>(aJ (EX a0) (x6,0)).bind λbp=>(aJ (EW a0) (bp,0)).bind λcN=>if(!cN)=ab then aa 14 else aa 0
def EJ:aA D:=⟨36,zw,z8,zt,[],z5,[],λh=>I1 ⟨h.1,h.2.1,h.2.2.1,h.2.2.2.1,h.2.2.2.2.1,h.2.2.2.2.2⟩⟩
def Wm:CK EJ:=fo [xn,c94,c95,c96] [.tmp 2] (qw (qm (qt 29 2320) .o) (qm (qt 3 2385) (qm (qw (.loop ⟨[.lf .bool,qi],[(3,aO),(45,du)],[],[],2962⟩ ab [(.exit 0,qB 3 2962)] (qn (qw (qm (qn (qr ⟨[.lf .bool],[(3,aO),(51,qa),(52,qa)],[],[],3668⟩)) .o) .o))) .o) (qm (qw (.loop ⟨[.lf .bool,qi],[(3,aO),(58,du)],[],[],3539⟩ ab [(.exit 2,qB 3 3539)] (qn (qw (qm (qn (qr ⟨[.lf .bool],[(3,aO),(65,qa),(66,qa),(67,qa)],[],[],4501⟩)) .o) .o))) .o) .o)))) ⟨y5,ayq,ayp,ayo,q0⟩ func36
def KY(a0:ia):Option (Bool):=(if al (a0.Stop>=1)=ab then if al (a0.Stop<=99)=ab then if al (a0.Start>a0.Stop)=ab then if al (a0.Start<=100)=ab then if al (a0.nX>=0)=ab then aa (al (a0.nX<=600))else aa ai else aa ai else aa ai else aa ai else aa ai).bind aa
def ID:aA D:=⟨37,mN,[.lf .bool],tx,[],z5,[],λh=>KY ⟨h.1,h.2.1,h.2.2⟩⟩
def af9:CK ID:=fo [] [.tmp 2] Cb trivial func37
def OF:aA D:=tM T [] ⟨164,[.lf (.int .u64),.lf (.int .u64)],[.lf (.int .u64),.lf (.int .u64)],fx,[],fx,[],λ_=>ak⟩ [.tmp 4,.tmp 5] (qN f164) .o
def aA3:CK OF:=wF (Φ:=[]) qc pg (im.mem (l:=[]) trivial) nK call164 func164 rfl rfl (by kernel_rfl)
def BF:aA D:=tM T [OF] ⟨98,[.lf (.int .u64),.lf (.int .u64)],[.lf (.int .u64),.lf (.int .u64)],fx,[],fx,[],λ_=>ak⟩ [.tmp 4,.tmp 5] (qN f98) .o
def afk:CK BF:=wF (Φ:=[OF]) qc pg (im.mem (⟨aA3,q0⟩:im _ _ [OF])) nK call98 func98 rfl rfl (by kernel_rfl)
def Of:aA D:=tM T [BF] ⟨97,[fG,qi],[fG],zq,[],jn,[(1000,.sl 11 110 0 [])],λ_=>ak⟩ [.tmp 4] (qN f97) (qn (qn (qn (qm (qm (qt 26 3856) .o) (qn (qn (qm (qm (.loop ⟨[qi,fG],wj,[(4113,.sl 11 110 1 [])],[4113],4945⟩ ab [(.exit 0,⟨[fG],[],[(4113,.sl 11 110 0 [])],[4113],4945⟩)] .o) .o) .o)))))))
def ayn:CK Of:=wF (Φ:=[BF]) qc pg (im.mem (⟨afk,q0⟩:im _ _ [BF])) nK call97 func97 rfl rfl (by kernel_rfl)
def Ot:aA D:=tM T [Of] ⟨38,z8,[fG],z5,[],jn,[(1000,.sl 11 110 0 [])],λ_=>ak⟩ [.tmp 2] (qN f38) .o
def ay9:CK Ot:=wF (Φ:=[Of]) qc pg (im.mem (⟨ayn,q0⟩:im _ _ [Of])) nK call38 func38 rfl rfl (by kernel_rfl)
def Oq:aA D:=tM T [BF] ⟨39,[cI,qi],nv,zq,[],jn,[(1000,.sl 9 140 0 [])],λ_=>ak⟩ [.tmp 4] (qN f39) (qn (qn (qn (qm (qm (qt 26 3856) .o) (qn (qn (qm (qm (.loop ⟨zp,wj,[(4113,.sl 9 140 1 [])],[4113],4945⟩ ab [(.exit 0,⟨nv,[],[(4113,.sl 9 140 0 [])],[4113],4945⟩)] .o) .o) .o)))))))
def ay8:CK Oq:=wF (Φ:=[BF]) qc pg (im.mem (⟨afk,q0⟩:im _ _ [BF])) nK call39 func39 rfl rfl (by kernel_rfl)
def OK:aA D:=tM T [EJ,ID,Ot,Oq] ⟨13,Yk,[qi,qi,cm,cI,aM,fG],YF,[],[.agg [bE,.own 1000,.own 1001,.own 1002,.bF,.own 1003,.bF],du],[(1000,.sl 1 4 2 []),(1001,.sl 9 140 3 []),(1002,.sl 0 3 4 []),(1003,.sl 11 110 5 [])],λ_=>ak⟩ [.cell 4 69,.tmp 5] (qN f13) (qn (qn (qn (qn (qn (qm (qn (qm (.loop ⟨Cc,[(43,aO)],[(4304,.box [bn,.own 4944,.own 6104,.own 7120,.bF,.own 4056,.bF]),(7120,.sl 0 3 2 [])],[4304],7184⟩ ab [(.exit 1,⟨kJ,[],[(4304,.box [bE,.own 4944,.own 6104,.own 7120,.bF,.own 4056,.bF]),(7120,.sl 0 3 1 [])],[4304],7184⟩)] .o) .o)) .o))))))
def aBn:CK OK:=wF (Φ:=[EJ,ID,Ot,Oq]) qc pg (im.mem (⟨Wm,af9,ay9,ay8,q0⟩:im _ _ [EJ,ID,Ot,Oq])) nK call13 func13 rfl rfl (by kernel_rfl)
def OP(a0:aw)(a1:Int):Option (Int):=if(a1==1)=ab then aa (len a0.aj)else if(a1==2)=ab then aa (len a0.ae)else if(a1==3)=ab then aa a0.aB else if(a1==4)=ab then aa (len a0.az)else aa 0
def ah8:aA D:=⟨191,YJ,z8,[.agg [bE,bU,bL,bX,cD,bQ],zS],[],z5,[],λh=>OP (qb h) h.2.2.2.2.2.2⟩
def aAO:CK ah8:=fo [] [.tmp 4] .o trivial func191
def Iv(a0:Int):Option (Bool):=aa (a0 !=a0)
def ah9:aA D:=⟨190,z8,[.lf .bool],z5,[],z5,[],λh=>Iv h⟩
def aAP:CK ah9:=fo [] [.tmp 2] .o trivial func190
def vR(a0:Int)(a1:Int):Option (Int):=(Iv a0).bind λx1=>(Iv a1).bind λx2=>if x1=ab then if x2=ab then aa 0 else aa (-1)else if x2=ab then aa 1 else if al (a0<a1)=ab then aa (-1)else if al (a0>a1)=ab then aa 1 else aa 0
def OJ:aA D:=⟨130,z9,z8,fx,[],z5,[],λh=>vR h.1 h.2⟩
def WU:CK OJ:=fo [ah9] [.tmp 4] .o ⟨aAP,q0⟩ func130
def uB(a0:List Int):Int->Option (Int⊕Unit⊕Int):=λx1=>if al (x1<len a0)=ab then(idx a0 x1).bind λx2=>if(x2 !=0)=ab then aa (.inr (.inr x2))else aa (.inl (W (x1+1)))else aa (.inr (.inl ()))
def EA(a0:List Int):Option (Int):=(aJ (uB a0) 0).bind λx3=>dn (λx4=>aa 0) (aa) x3
def OL:aA D:=⟨122,fk,z8,o8,[],z5,[],λh=>EA h⟩
def WW:CK OL:=fo [] [.tmp 2] (.n ak .o Yj) trivial func122
def ET(a0:aw)(a1:List Part):Int->Option (Int⊕Unit⊕Bool):=λx1=>if al (x1<len a1)=ab then(idx a1 x1).bind λx2=>((OP a0 x2.Kind).bind λx3=>(jK x2.Number 0 (W (x3-1))).bind λx4=>if(!x4)=ab then aa ab else if al (x1>0)=ab then(idx a1 (W (x1-1))).bind λx5=>(vR x5.Kind x2.Kind).bind λx6=>(idx a1 (W (x1-1))).bind λx7=>(vR x7.Number x2.Number).bind λx8=>(EA [x6,x8]).bind λx9=>aa (al (x9>=0))else aa ai).bind λbf=>if bf=ab then aa (.inr (.inr ai))else aa (.inl (W (x1+1)))else aa (.inr (.inl ()))
def OV(a0:aw)(a1:List Part):Option (Bool):=(aJ (ET a0 a1) 0).bind λbp=>dn (λbK=>aa (al (len a1<=32))) (aa) bp
def aiT:aA D:=⟨132,[qi,cX,dL,dq,qi,qi,bz],[.lf .bool],[.agg [bE,bU,bL,bX,cD,bQ],.one (jD)],[],z5,[],λh=>OV (qb h) h.2.2.2.2.2.2⟩
def aBv:CK aiT:=fo [xn,OL,OJ,ah8] [.tmp 4] (qw (qw (.loop ⟨z8,wi,[],[],2704⟩ ai [(.exit 0,⟨[],[],[],[],2704⟩)] (qn (qw (qm (qw (qr ⟨[.lf .bool],[(24,qa),(25,qa),(26,qa),(27,qa),(28,qa),(29,qa),(30,qa),(31,qa),(32,qa),(33,qa),(34,qa),(35,qa),(36,qa),(37,qa),(38,qa),(39,qa),(40,qa),(41,qa),(42,qa),(43,qa),(44,qa),(45,qa),(46,qa),(47,qa),(48,qa),(49,aO)],[],[],3665⟩) .o) .o) .o))) .o) .o) ⟨y5,WW,WU,aAO,q0⟩ func132
def OQ(a0:bo):Option (Bool):=((jK a0.State 0 3).bind λx1=>if x1=ab then(jK a0.gJ 0 2147483648).bind λx2=>if x2=ab then(jK a0.aZ 0 6000).bind λx3=>if x3=ab then(jK a0.bi 0 3599).bind aa else aa ai else aa ai else aa ai).bind aa
def aiQ:aA D:=⟨135,o_,[.lf .bool],JD,[],z5,[],λh=>OQ ⟨h.1,h.2.1,h.2.2.1,h.2.2.2⟩⟩
def aBs:CK aiQ:=fo [xn] [.tmp 2] Cb ⟨y5,q0⟩ func135
def OZ(a0:bo):Option (Bool):=(OQ a0).bind λx1=>aa !x1
def aiR:aA D:=⟨134,o_,[.lf .bool],JD,[],z5,[],λh=>OZ ⟨h.1,h.2.1,h.2.2.1,h.2.2.2⟩⟩
def aBt:CK aiR:=fo [aiQ] [.tmp 2] .o ⟨aBs,q0⟩ func134
def CM(a0:List bo):Int->Option (Int⊕Unit⊕Int):=λx1=>if al (x1<len a0)=ab then(idx a0 x1).bind λx2=>(OZ x2).bind λx3=>if x3=ab then aa (.inr (.inr x1))else aa (.inl (W (x1+1)))else aa (.inr (.inl ()))
def Q6(a0:List bo):Option (Int):=(aJ (CM a0) 0).bind λx4=>dn (λx5=>aa (-1)) (aa) x4
def ah7:aA D:=⟨192,nv,z8,[.one (b6),.one (.fn 134 [])],[],z5,[],λh=>Q6 h⟩
def aAN:CK ah7:=fo [aiR] [.tmp 4] z3 ⟨aBt,q0⟩ func192
def Ks(a0:List bo):Option (Bool):=(Q6 a0).bind λx1=>aa (al (x1>=0))
def aiS:aA D:=⟨133,nv,[.lf .bool],[.one (b6),.one (.fn 134 [])],[],z5,[],λh=>Ks h⟩
def aBu:CK aiS:=fo [ah7] [.tmp 4] .o ⟨aAN,q0⟩ func133
def IV(a0:aw)(a1:ax)(a2:Int):Int×Int->Option (Int×Int⊕Int):=λx1=>if al (x1.2<len a0.ae)=ab then(idx a0.ae x1.2).bind λx2=>(if(x2.Kind==3)=ab then if(x2.B==a2)=ab then(idx a1.aG x1.2).bind aa else aa ai else aa ai).bind λx4=>(if x4=ab then aa (W (x1.1+1))else aa x1.1).bind λx5=>aa (.inl (x5,W (x1.2+1)))else aa (.inr x1.1)
def OU(a0:aw)(a1:ax)(a2:Int):Option (Int):=(aJ (IV a0 a1 a2) (0,0)).bind aa
def aiP:aA D:=⟨136,z1,z8,z4,[],z5,[],λh=>let g:=h.2.2.2.2.2.2;OU (qb h) ⟨g.1,g.2.1,g.2.2.1,g.2.2.2.1⟩ g.2.2.2.2⟩
def aBr:CK aiP:=fo [] [.tmp 6] (qn (qw (qw (.loop ⟨z9,[(7,aO),(13,du)],[],[],3088⟩ ab [(.exit 0,⟨z8,tw,[],[],3088⟩)] (qn (qw (qm (qw (qr ⟨[.lf .bool],[(22,qa),(23,qa),(24,qa),(25,qa),(28,qa),(29,qa),(30,qa),(31,qa),(32,qa),(33,aO)],[],[],4050⟩) (qp ⟨z8,tw,[],[],4115⟩ .o .o)) .o) .o))) .o) .o)) trivial func136
def EU(a0:aw)(a1:ax):Bool×Int->Option (Bool×Int⊕Bool):=λx6=>if al (x6.2<len a1.aX)=ab then(idx a1.aX x6.2).bind λx7=>(if x6.1=ab then(idx a0.az x6.2).bind λx8=>(jK x7 0 x8.eV).bind λx9=>if x9=ab then(OU a0 a1 x6.2).bind λbf=>aa (al (bf<=1))else aa ai else aa ai).bind λbp=>aa (.inl (bp,W (x6.2+1)))else aa (.inr x6.1)
def pL(a0:aw)(a1:ax):Option (Int):=(I1 a0).bind λx1=>if(x1 !=0)=ab then aa x1 else(if(len a1.aG !=len a0.ae)=ab then aa ab else if(len a1.aj !=len a0.aj)=ab then aa ab else aa (len a1.aX !=len a0.az)).bind λx2=>if x2=ab then aa 8 else((OV a0 a1.aS).bind λx3=>if x3=ab then(Ks a1.aj).bind λx4=>aa !x4 else aa ai).bind λx5=>(aJ (EU a0 a1) (x5,0)).bind λbK=>if(!bK)=ab then aa 11 else aa 0
def rQ:aA D:=⟨74,tz,z8,uP,[],z5,[],λh=>let g:=h.2.2.2.2.2.2;pL (qb h) ⟨g.1,g.2.1,g.2.2.1,g.2.2.2⟩⟩
def td:CK rQ:=fo [EJ,xn,aiT,aiS,aiP] [.tmp 4] (qn (qw (qm (qt 38 3088) .o) (qm (qt 6 3153) (qm (qw (.loop ⟨[.lf .bool,qi],[(6,aO),(52,du)],[],[],3730⟩ ab [(.exit 0,qB 6 3730)] (qn (qw (qm (qn (qr ⟨[.lf .bool],[(6,aO),(59,qa),(60,qa),(61,qa),(62,qa),(63,qa),(64,qa),(65,qa),(66,qa),(69,qa),(70,qa),(71,qa),(72,qa),(73,qa)],[],[],4564⟩)) .o) .o))) .o) .o)))) ⟨Wm,y5,aBv,aBu,aBr,q0⟩ func74
def Gf(a0:List Bool):Option (List Bool):=bG [] a0
def Wc:aA D:=⟨84,[cm],[cm],o8,[],jn,[(1000,.sl 1 4 0 [])],λh=>Gf h⟩
def afx:CK Wc:=by
 refine⟨call84,rfl,rfl,rfl,rfl,λoh r0 mD fm eQ has nI γ w vs hv _=>?_⟩;cases has;match vs,hv with
 |[],hv=>exact hv.elim
 |_::_::_,hv=>exact hv.2.elim
 |[v],hv=>
 obtain⟨xs,eH⟩:∃xs:List (D 1),xs=oh:=⟨_,rfl⟩;obtain⟨r,jr⟩:∃r:List (D 1),r=r0:=⟨_,rfl⟩;have g0:Rv (In γ.o [0]) w v xs:=by rw[eH];exact hv.1.1
 have hr:bG ([]:List (D 1)) xs=aa r:=by rw[eH,jr];exact mD
 subst jr;have hT:=F4.2;refine enter (l:=[v]) func84 rfl ntmps84 rfl ?_;refine CW.sub (L':=[(0,v)]) ⟨rfl,trivial⟩ ?_;refine CW.sr λK1 g_=>?_;refine WL.p (.slice ak 0 0) rfl rfl ?_;refine WL.nx g_ ?_;refine CW.seq λK2 iD=>?_;refine CW.sr λK3 mb=>?_;refine WL.p v rfl rfl ?_;obtain⟨a,m,q,rfl,hn⟩:=zM g0;refine WL.lW (OW.isNil F4.1 rfl) rfl ?_;refine WL.nx mb ?_;cases a with
 |none=>refine CW.cond (b:=ab) rfl (λ_=>?_) (λh=>nomatch h);refine CW.sr λK4 nQ=>?_;refine WL.p (.slice ak 0 0) rfl rfl ?_;refine WL.nx nQ ?_;rw[hn rfl]at hr;obtain rfl:=BP hr;exact CW.mr (vs:=[.slice ak 0 0]) results84 ⟨rfl,trivial⟩ ⟨_,rfl,qJ (n:=1) (e:=4) (q:=1000) (K:=[]) (M:=[]) (N:=[]) rfl rfl rfl (by simp) (by simp) (bP.refl _ _ γ.o w) (Ow.nil _ _ _ _ _) (λx hx=>by simp at hx<;>omega)⟩ (λ_ _ h=>h)
 |some a=>refine CW.cond (b:=ai) rfl (λh=>nomatch h) (λ_=>?_);refine CW.skip ?_;refine iD _ _ ?_;refine CW.sr λK5 lE=>?_;refine WL.step (OW.buildSlice (o:=γ.o) (k:=1000) (K:=[]) (xs:=([]:List (D 1))) F4.1 hT rfl trivial rfl rfl) rfl ?_;rintro v1 w1 ⟨o1,kz,h1⟩;have g0:=g0.Br kz rfl;refine WL.p (.slice (aa a) m q) rfl rfl ?_;refine WL.step (OW.append (K:=[]) F4.1 hT rfl rfl h1 (@fD.flat (D 1) _ aw7 _ _ _ _ _ g0.dh) hr rfl) rfl ?_;rintro v2 w2 ⟨o2,mI,h2⟩;refine WL.p v2 rfl rfl ?_;refine WL.nx lE ?_;exact CW.mr (vs:=[v2]) results84 ⟨rfl,trivial⟩ ⟨_,rfl,qJ (n:=1) (e:=4) (q:=1000) (K:=[]) (M:=[1000]) (N:=[1000]) rfl rfl rfl (by simp) (by simp) ((kz.weaken (by simp) (by simp)).trans mI) h2 (λx hx=>by simp at hx<;>omega)⟩ (λ_ _ h=>h)
def Gg(a0:List bo):Option (List bo):=bG [] a0
def Wb:aA D:=⟨85,nv,nv,o8,[],jn,[(1000,.sl 9 140 0 [])],λh=>Gg h⟩
def afw:CK Wb:=by
 refine⟨call85,rfl,rfl,rfl,rfl,λoh r0 mD fm eQ has nI γ w vs hv _=>?_⟩;cases has;match vs,hv with
 |[],hv=>exact hv.elim
 |_::_::_,hv=>exact hv.2.elim
 |[v],hv=>
 obtain⟨xs,eH⟩:∃xs:List (D 9),xs=oh:=⟨_,rfl⟩;obtain⟨r,jr⟩:∃r:List (D 9),r=r0:=⟨_,rfl⟩;have g0:Rv (In γ.o [0]) w v xs:=by rw[eH];exact hv.1.1
 have hr:bG ([]:List (D 9)) xs=aa r:=by rw[eH,jr];exact mD
 subst jr;have hT:=F3.2;refine enter (l:=[v]) func85 rfl ntmps85 rfl ?_;refine CW.sub (L':=[(0,v)]) ⟨rfl,trivial⟩ ?_;refine CW.sr λK1 g_=>?_;refine WL.p (.slice ak 0 0) rfl rfl ?_;refine WL.nx g_ ?_;refine CW.seq λK2 iD=>?_;refine CW.sr λK3 mb=>?_;refine WL.p v rfl rfl ?_;obtain⟨a,m,q,rfl,hn⟩:=zM g0;refine WL.lW (OW.isNil F3.1 rfl) rfl ?_;refine WL.nx mb ?_;cases a with
 |none=>refine CW.cond (b:=ab) rfl (λ_=>?_) (λh=>nomatch h);refine CW.sr λK4 nQ=>?_;refine WL.p (.slice ak 0 0) rfl rfl ?_;refine WL.nx nQ ?_;rw[hn rfl]at hr;obtain rfl:=BP hr;exact CW.mr (vs:=[.slice ak 0 0]) results85 ⟨rfl,trivial⟩ ⟨_,rfl,qJ (n:=9) (e:=140) (q:=1000) (K:=[]) (M:=[]) (N:=[]) rfl rfl rfl (by simp) (by simp) (bP.refl _ _ γ.o w) (Ow.nil _ _ _ _ _) (λx hx=>by simp at hx<;>omega)⟩ (λ_ _ h=>h)
 |some a=>refine CW.cond (b:=ai) rfl (λh=>nomatch h) (λ_=>?_);refine CW.skip ?_;refine iD _ _ ?_;refine CW.sr λK5 lE=>?_;refine WL.step (OW.buildSlice (o:=γ.o) (k:=1000) (K:=[]) (xs:=([]:List (D 9))) F3.1 hT rfl trivial rfl rfl) rfl ?_;rintro v1 w1 ⟨o1,kz,h1⟩;have g0:=g0.Br kz rfl;refine WL.p (.slice (aa a) m q) rfl rfl ?_;refine WL.step (OW.append (K:=[]) F3.1 hT rfl rfl h1 (@fD.flat (D 9) _ aw3 _ _ _ _ _ g0.dh) hr rfl) rfl ?_;rintro v2 w2 ⟨o2,mI,h2⟩;refine WL.p v2 rfl rfl ?_;refine WL.nx lE ?_;exact CW.mr (vs:=[v2]) results85 ⟨rfl,trivial⟩ ⟨_,rfl,qJ (n:=9) (e:=140) (q:=1000) (K:=[]) (M:=[1000]) (N:=[1000]) rfl rfl rfl (by simp) (by simp) ((kz.weaken (by simp) (by simp)).trans mI) h2 (λx hx=>by simp at hx<;>omega)⟩ (λ_ _ h=>h)
def uY(a0:List Int):Option (List Int):=bG [] a0
def IA:aA D:=⟨86,fk,fk,o8,[],jn,o9,λh=>uY h⟩
def Og:CK IA:=by
 refine⟨call86,rfl,rfl,rfl,rfl,λoh r0 mD fm eQ has nI γ w vs hv _=>?_⟩;cases has;match vs,hv with
 |[],hv=>exact hv.elim
 |_::_::_,hv=>exact hv.2.elim
 |[v],hv=>
 obtain⟨xs,eH⟩:∃xs:List (D 0),xs=oh:=⟨_,rfl⟩;obtain⟨r,jr⟩:∃r:List (D 0),r=r0:=⟨_,rfl⟩;have g0:Rv (In γ.o [0]) w v xs:=by rw[eH];exact hv.1.1
 have hr:bG ([]:List (D 0)) xs=aa r:=by rw[eH,jr];exact mD
 subst jr;have hT:=F5.2;refine enter (l:=[v]) func86 rfl ntmps86 rfl ?_;refine CW.sub (L':=[(0,v)]) ⟨rfl,trivial⟩ ?_;refine CW.sr λK1 g_=>?_;refine WL.p (.slice ak 0 0) rfl rfl ?_;refine WL.nx g_ ?_;refine CW.seq λK2 iD=>?_;refine CW.sr λK3 mb=>?_;refine WL.p v rfl rfl ?_;obtain⟨a,m,q,rfl,hn⟩:=zM g0;refine WL.lW (OW.isNil F5.1 rfl) rfl ?_;refine WL.nx mb ?_;cases a with
 |none=>refine CW.cond (b:=ab) rfl (λ_=>?_) (λh=>nomatch h);refine CW.sr λK4 nQ=>?_;refine WL.p (.slice ak 0 0) rfl rfl ?_;refine WL.nx nQ ?_;rw[hn rfl]at hr;obtain rfl:=BP hr;exact CW.mr (vs:=[.slice ak 0 0]) results86 ⟨rfl,trivial⟩ ⟨_,rfl,qJ (n:=0) (e:=3) (q:=1000) (K:=[]) (M:=[]) (N:=[]) rfl rfl rfl (by simp) (by simp) (bP.refl _ _ γ.o w) (Ow.nil _ _ _ _ _) (λx hx=>by simp at hx<;>omega)⟩ (λ_ _ h=>h)
 |some a=>refine CW.cond (b:=ai) rfl (λh=>nomatch h) (λ_=>?_);refine CW.skip ?_;refine iD _ _ ?_;refine CW.sr λK5 lE=>?_;refine WL.step (OW.buildSlice (o:=γ.o) (k:=1000) (K:=[]) (xs:=([]:List (D 0))) F5.1 hT rfl trivial rfl rfl) rfl ?_;rintro v1 w1 ⟨o1,kz,h1⟩;have g0:=g0.Br kz rfl;refine WL.p (.slice (aa a) m q) rfl rfl ?_;refine WL.step (OW.append (K:=[]) F5.1 hT rfl rfl h1 (@fD.flat (D 0) _ aw8 _ _ _ _ _ g0.dh) hr rfl) rfl ?_;rintro v2 w2 ⟨o2,mI,h2⟩;refine WL.p v2 rfl rfl ?_;refine WL.nx lE ?_;exact CW.mr (vs:=[v2]) results86 ⟨rfl,trivial⟩ ⟨_,rfl,qJ (n:=0) (e:=3) (q:=1000) (K:=[]) (M:=[1000]) (N:=[1000]) rfl rfl rfl (by simp) (by simp) ((kz.weaken (by simp) (by simp)).trans mI) h2 (λx hx=>by simp at hx<;>omega)⟩ (λ_ _ h=>h)
def zJ(a0:List Part):Option (List Part):=bG [] a0
def IC:aA D:=⟨69,ie,ie,o8,[],jn,mM,λh=>zJ h⟩
def Wh:CK IC:=by
 refine⟨call69,rfl,rfl,rfl,rfl,λoh r0 mD fm eQ has nI γ w vs hv _=>?_⟩;cases has;match vs,hv with
 |[],hv=>exact hv.elim
 |_::_::_,hv=>exact hv.2.elim
 |[v],hv=>
 obtain⟨xs,eH⟩:∃xs:List (D 10),xs=oh:=⟨_,rfl⟩;obtain⟨r,jr⟩:∃r:List (D 10),r=r0:=⟨_,rfl⟩;have g0:Rv (In γ.o [0]) w v xs:=by rw[eH];exact hv.1.1
 have hr:bG ([]:List (D 10)) xs=aa r:=by rw[eH,jr];exact mD
 subst jr;have hT:=wB.2;refine enter (l:=[v]) func69 rfl ntmps69 rfl ?_;refine CW.sub (L':=[(0,v)]) ⟨rfl,trivial⟩ ?_;refine CW.sr λK1 g_=>?_;refine WL.p (.slice ak 0 0) rfl rfl ?_;refine WL.nx g_ ?_;refine CW.seq λK2 iD=>?_;refine CW.sr λK3 mb=>?_;refine WL.p v rfl rfl ?_;obtain⟨a,m,q,rfl,hn⟩:=zM g0;refine WL.lW (OW.isNil wB.1 rfl) rfl ?_;refine WL.nx mb ?_;cases a with
 |none=>refine CW.cond (b:=ab) rfl (λ_=>?_) (λh=>nomatch h);refine CW.sr λK4 nQ=>?_;refine WL.p (.slice ak 0 0) rfl rfl ?_;refine WL.nx nQ ?_;rw[hn rfl]at hr;obtain rfl:=BP hr;exact CW.mr (vs:=[.slice ak 0 0]) results69 ⟨rfl,trivial⟩ ⟨_,rfl,qJ (n:=10) (e:=79) (q:=1000) (K:=[]) (M:=[]) (N:=[]) rfl rfl rfl (by simp) (by simp) (bP.refl _ _ γ.o w) (Ow.nil _ _ _ _ _) (λx hx=>by simp at hx<;>omega)⟩ (λ_ _ h=>h)
 |some a=>refine CW.cond (b:=ai) rfl (λh=>nomatch h) (λ_=>?_);refine CW.skip ?_;refine iD _ _ ?_;refine CW.sr λK5 lE=>?_;refine WL.step (OW.buildSlice (o:=γ.o) (k:=1000) (K:=[]) (xs:=([]:List (D 10))) wB.1 hT rfl trivial rfl rfl) rfl ?_;rintro v1 w1 ⟨o1,kz,h1⟩;have g0:=g0.Br kz rfl;refine WL.p (.slice (aa a) m q) rfl rfl ?_;refine WL.step (OW.append (K:=[]) wB.1 hT rfl rfl h1 (@fD.flat (D 10) _ Va _ _ _ _ _ g0.dh) hr rfl) rfl ?_;rintro v2 w2 ⟨o2,mI,h2⟩;refine WL.p v2 rfl rfl ?_;refine WL.nx lE ?_;exact CW.mr (vs:=[v2]) results69 ⟨rfl,trivial⟩ ⟨_,rfl,qJ (n:=10) (e:=79) (q:=1000) (K:=[]) (M:=[1000]) (N:=[1000]) rfl rfl rfl (by simp) (by simp) ((kz.weaken (by simp) (by simp)).trans mI) h2 (λx hx=>by simp at hx<;>omega)⟩ (λ_ _ h=>h)
def rf(a0:ax):Option (oj):=(Gf a0.aG).bind λx1=>(Gg a0.aj).bind λx2=>(uY a0.aX).bind λx3=>(zJ a0.aS).bind λx4=>aa (x1,x2,x3,x4)
def vS:aA D:=⟨108,FJ,FJ,[.agg [b6,bU,bL,bX]],[],Qh,P5,λh=>rf ⟨h.1,h.2.1,h.2.2.1,h.2.2.2⟩⟩
def xo:CK vS:=fo [IC,Wc,Wb,IA] [.cell 2 65] .o ⟨Wh,afx,afw,Og,q0⟩ func108
def IS(x1:List Int):Int×List Int->Option (Int×List Int⊕List Int):=λx2=>if al (x2.1<len x1)=ab then(idx x2.2 x2.1).bind λx3=>(idx x2.2 x2.1).bind λx4=>(di x2.2 x2.1 x2.1).bind λx5=>aa (.inl (W (x2.1+1),x5))else aa (.inr x2.2)
def IQ(a0:aw)(a1:ax):Int×List Int->Option (Int×List Int⊕List Int):=λx8=>if al (x8.1<len a0.ae)=ab then(idx a0.ae x8.1).bind λx9=>(if(x9.Kind==1)=ab then(idx a1.aG x8.1).bind aa else aa ai).bind λbp=>(if bp=ab then(idx x8.2 x9.A).bind λbK=>(idx x8.2 x9.B).bind λcq=>(idx x8.2 x9.A).bind λcG=>(idx x8.2 x9.A).bind λcw=>(di x8.2 x9.A (eA bK cq)).bind λcN=>(idx cN x9.B).bind λdG=>(idx cN x9.B).bind λde=>(di cN x9.B (eA bK cq)).bind aa else aa x8.2).bind λfg=>aa (.inl (W (x8.1+1),fg))else aa (.inr x8.2)
def IR(a0:aw)(a1:ax)(x6:List Int):Int×List Int->Option (Int×List Int⊕List Int):=λx7=>if al (x7.1<len x6)=ab then(aJ (IQ a0 a1) (0,x7.2)).bind λgb=>aa (.inl (W (x7.1+1),gb))else aa (.inr x7.2)
def OS(a0:aw)(a1:ax):Option (List Int):=(mz 0 a0.aB).bind λx1=>(aJ (IS x1) (0,x1)).bind λx6=>(aJ (IR a0 a1 x6) (0,x6)).bind aa
def aij:aA D:=⟨173,tz,fk,uP,[],jn,o9,λh=>let g:=h.2.2.2.2.2.2;OS (qb h) ⟨g.1,g.2.1,g.2.2.1,g.2.2.2⟩⟩
def aAW:CK aij:=fo [] [.tmp 4] (qn (qw (qw (.loop ⟨kJ,[(15,aO)],[(2640,.sl 0 3 1 [])],[2640],3344⟩ ab [(.exit 0,⟨fk,[],[(2640,.sl 0 3 0 [])],[2640],3344⟩)] .o) .o) (qm (qw (.loop ⟨kJ,[(25,aO)],[(2640,.sl 0 3 1 [])],[2640],3793⟩ ab [(.exit 2,⟨fk,[],[(2640,.sl 0 3 0 [])],[2640],3793⟩)] (qn (qw (qm (qw (.loop ⟨kJ,[(30,aO)],[(2640,.sl 0 3 1 [])],[2640],4499⟩ ab [(.exit 4,⟨fk,[],[(2640,.sl 0 3 0 [])],[2640],4499⟩)] (qn (qw (qm (qw (qr ⟨[.lf .bool],[(39,qa),(40,qa),(41,qa),(42,qa),(43,qa),(44,aO)],[],[],5461⟩) (qp ⟨fk,[],[(2640,.sl 0 3 0 [])],[2640],5526⟩ .o .o)) .o) .o))) .o) .o) .o))) .o) .o))) trivial func173
def ER(a0:aw)(a1:ax)(a2:Int)(a3:Int):Int->Option (Int⊕Unit⊕Int×Bool):=λx1=>if al (x1<len a0.ae)=ab then(idx a0.ae x1).bind λx2=>(if(x2.Kind==a2)=ab then if(x2.B==a3)=ab then(idx a1.aG x1).bind aa else aa ai else aa ai).bind λx4=>if x4=ab then aa (.inr (.inr (x2.A,ab)))else aa (.inl (W (x1+1)))else aa (.inr (.inl ()))
def IP(a0:aw)(a1:ax)(a2:Int)(a3:Int):Option (Int×Bool):=(aJ (ER a0 a1 a2 a3) 0).bind λx5=>dn (λx6=>aa (0,ai)) (aa) x5
def WC:aA D:=⟨227,JA,uO,Ym,[],fx,[],λh=>let g:=h.2.2.2.2.2.2;IP (qb h) ⟨g.1,g.2.1,g.2.2.1,g.2.2.2.1⟩ g.2.2.2.2.1 g.2.2.2.2.2⟩
def aht:CK WC:=fo [] [.tmp 8,.tmp 9] (qw (qw (.loop ⟨z8,[(15,aO)],[],[],3088⟩ ai [(.exit 0,⟨[],[],[],[],3088⟩)] (qn (qw (qm (qw (qr ⟨[.lf .bool],[(25,qa),(26,qa),(27,qa),(28,qa),(31,qa),(32,qa),(33,qa),(34,qa),(35,qa),(36,aO)],[],[],4049⟩) .o) .o) .o))) .o) .o) trivial func227
def IU(a0:aw)(a1:ax)(a2:Int):Option (Int×Bool):=((jK a2 0 (W (len a1.aj-1))).bind λx1=>if(!x1)=ab then aa ab else(idx a1.aj a2).bind λx2=>aa (x2.State !=2)).bind λx3=>if x3=ab then aa (0,ai)else(IP a0 a1 2 a2).bind aa
def WQ:aA D:=⟨174,z1,uO,z4,[],fx,[],λh=>let g:=h.2.2.2.2.2.2;IU (qb h) ⟨g.1,g.2.1,g.2.2.1,g.2.2.2.1⟩ g.2.2.2.2⟩
def aii:CK WQ:=fo [xn,WC] [.tmp 6,.tmp 7] (qw (qm (qt 23 2576) .o) .o) ⟨y5,aht,q0⟩ func174
def IT(a0:aw)(a1:ax)(a2:Int):Option (Int×Bool):=(IP a0 a1 3 a2).bind aa
def WO:aA D:=⟨175,z1,uO,z4,[],fx,[],λh=>let g:=h.2.2.2.2.2.2;IT (qb h) ⟨g.1,g.2.1,g.2.2.1,g.2.2.2.1⟩ g.2.2.2.2⟩
def aih:CK WO:=fo [WC] [.tmp 6,.tmp 7] .o ⟨aht,q0⟩ func175
def IZ(a0:bu):Option (Bool):=aa (len a0.aB==0)
def WN:aA D:=⟨177,[aM,aM,aM],[.lf .bool],JB,[],z5,[],λh=>IZ ⟨h.1,h.2.1,h.2.2⟩⟩
def aie:CK WN:=fo [] [.tmp 2] .o trivial func177
def CN(a0:List bu):Int->Option (Int⊕Unit⊕Int):=λx1=>if al (x1<len a0)=ab then(idx a0 x1).bind λx2=>(IZ x2).bind λx3=>if x3=ab then aa (.inr (.inr x1))else aa (.inl (W (x1+1)))else aa (.inr (.inl ()))
def Q_(a0:List bu):Option (Int):=(aJ (CN a0) 0).bind λx4=>dn (λx5=>aa (-1)) (aa) x4
def ahs:aA D:=⟨228,si,z8,[.one (b6),.one (.fn 177 [])],[],z5,[],λh=>Q_ h⟩
def aAg:CK ahs:=fo [WN] [.tmp 4] z3 ⟨aie,q0⟩ func228
