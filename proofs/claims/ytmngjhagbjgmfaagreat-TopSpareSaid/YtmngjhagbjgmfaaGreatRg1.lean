import Derived.Test.YtmngjhagbjgmfaaGreatRt
import Derived.Test.YtmngjhagbjgmfaaGreatHc
set_option maxRecDepth 100000
set_option linter.all false
open Bool renaming false->ai,true->ab
open Decidable renaming decide->ak
open Nat renaming ble->ef
open Option renaming some->aa
open Sum renaming elim->dk
noncomputable section
namespace Go.Proofs.YtmngjhagbjgmfaaGreat
open Go Go.RowKit Dp
namespace Rx
open Tryz
abbrev jQ:=Int×List cG×List Source×List Consumer×Int×Int×List Bool×List bn×List Int×List Part×List Act
abbrev q8:=Int×List Bool×List bn×List Int×List Part×List eM×List Event
abbrev oe:=List Bool×List bn×List Int×List Part
abbrev Qu:=Int×Int×Int×Int×Int×Int×Int×Int×Int×Int×Int×Int×Int×Int×Int×Int×Int×Int×Int×Int×Int×Int×Int×Int×Int×ByteArray×Int×Int×Int×Int×Int×Int×List Int×Int×List Int×List Int×List Int×List Int×List Int×List Int×List Int×List Int×List Int×List b8×List cG×List Source×List Consumer×List Part×List jK×List jh×List kX×List np
abbrev Qt:=List Int×Int×Int×Int×Int×Int×Int×Int×Int×Int×Int×Int×Int×Int×Int×Int×Int×Int×Int×Int×Int×Int×Int×Int×Int×Int×Int×ByteArray×Int×Int×Int×Int×Int×Int×Int×Int×Int×List b8×List cG×List Consumer
abbrev Qs:=Int×List Bool×List bn×List Int×List Part×Int×List cG×List Source×List Consumer×Int×Int×List eM×List Event×List Bool×List bn×List Int×List Part×List Event×List aw
abbrev FM:=Int×Int×List cG×List Source×List Consumer×Int×Int×Int×oe
abbrev Ct:=List Int×Int×Int×Int×Int×List cG×List Source
abbrev JE:=List Bool×List bn×List Int×List Part×List Act
abbrev uP:=List Int×Int×List Int
abbrev mN:=Int×Int×Int
abbrev sh:=Int×Int×List Int
abbrev tE:=Int×List Int×Int
abbrev Qz:=Int×List cG×List Source×List Consumer×Int×Int×List Int×List Act
abbrev Qy:=Int×Int×Int×List Int×Int×List cG×List Source×List Consumer
abbrev Zf:=Int×List cG×List Source×List Consumer×Int×Int×List Bool×List bn×List Int×List Part×List Int×List Act
abbrev Ze:=Int×List Int×Int×List cG×List Source×List Consumer×List Bool×List bn×List Int×List Part×List eM
abbrev JI:=Int×Int×Int×Int×Int×Int×List fS
abbrev Cu:=List jK×List Int×Int
abbrev Qw:=List Int×Int×Int×Int×Int×List cG×List Consumer
abbrev Zd:=Int×List cG×List Source×List Consumer×Int×Int×List Bool×List bn×List Int×List Part×JE
abbrev JH:=List Int×List Int×List Int×Bool
abbrev JG:=Int×Int×Int×Int×Int×List iD
abbrev Zc:=Int×Int×List Bool×List bn×List Int×List Part×List eM×List Event×List Int
abbrev Qv:=List Int×Int×Int×Int×Int×List cG
abbrev JF:=List Int×Int×List Consumer
abbrev qB(k n:Nat):J:=⟨[.lf .bool],[(k,.one (.h 0 []))],[],[],n⟩
abbrev qr(j:J):An:= .r (aa (ab,[(.normal,j)])) .nil
abbrev qp(j:J)(x y:An):An:= .n (aa (ab,[(.normal,j)])) x y
abbrev qt(k n:Nat):An:=qr (qB k n)
abbrev qu(k n:Nat)(x y:An):An:=qp (qB k n) x y
abbrev qn(x:An):An:= .n none .o x
abbrev qm(x y:An):An:= .n none x y
abbrev qi:Ht:= .lf (.int .i64)
abbrev aL:Ht:= .lf (.sl 0)
abbrev ck:Ht:= .lf (.sl 1)
abbrev bx:Ht:= .lf (.sl 10)
abbrev fE:Ht:= .lf (.sl 11)
abbrev f_:Ht:= .lf (.sl 12)
abbrev zN:Ht:= .lf (.sl 13)
abbrev wF:Ht:= .lf (.sl 14)
abbrev jn:Ht:= .lf (.sl 16)
abbrev so:Ht:= .lf (.sl 17)
abbrev ol:Ht:= .lf (.sl 19)
abbrev pZ:Ht:= .lf (.sl 20)
abbrev zM:Ht:= .lf (.sl 21)
abbrev zL:Ht:= .lf (.sl 22)
abbrev oj:Ht:= .lf (.sl 29)
abbrev re:Ht:= .lf (.sl 33)
abbrev u5:Ht:= .lf (.sl 37)
abbrev C7:Ht:= .lf (.sl 38)
abbrev cV:Ht:= .lf (.sl 4)
abbrev dJ:Ht:= .lf (.sl 5)
abbrev dn:Ht:= .lf (.sl 6)
abbrev cH:Ht:= .lf (.sl 9)
abbrev aN:PC:= .one (.h 0 [])
abbrev dq:PC:= .one (.h 1 [])
abbrev zP:PC:= .one (.h 11 [])
abbrev lm:PC:= .one (.h 2 [])
abbrev tL:PC:= .one (.h 3 [])
abbrev GL:PC:= .one (.h 4 [])
abbrev zO:PC:= .one (.h 6 [])
abbrev bD:P1:= .h 0 []
abbrev bl:P1:= .h 1 []
abbrev kN:P1:= .h 10 []
abbrev nz:P1:= .h 11 []
abbrev mS:P1:= .h 12 []
abbrev rh:P1:= .h 13 []
abbrev xU:P1:= .h 14 []
abbrev wG:P1:= .h 16 []
abbrev cf:P1:= .h 2 []
abbrev zY:P1:= .h 20 []
abbrev zX:P1:= .h 21 []
abbrev zW:P1:= .h 22 []
abbrev zV:P1:= .h 23 []
abbrev zU:P1:= .h 24 []
abbrev zT:P1:= .h 29 []
abbrev dy:P1:= .h 3 []
abbrev zS:P1:= .h 30 []
abbrev zR:P1:= .h 31 []
abbrev xT:P1:= .h 33 []
abbrev cB:P1:= .h 4 []
abbrev bP:P1:= .h 5 []
abbrev eE:P1:= .h 6 []
abbrev gM:P1:= .h 7 []
abbrev tM:P1:= .h 8 []
abbrev p7:P1:= .h 9 []
abbrev bZ:P1:= .h 0 [0]
abbrev bT:P1:= .h 1 [0]
abbrev zQ:P1:= .h 10 [0]
abbrev bK:P1:= .h 2 [0]
abbrev bW:P1:= .h 3 [0]
abbrev ed:P1:= .h 4 [0]
abbrev kM:P1:= .h 5 [0]
abbrev jA:P1:= .h 6 [0]
abbrev j_:P1:= .h 7 [0]
abbrev mR:P1:= .h 8 [0]
abbrev rf:P1:= .h 9 [0]
abbrev qa:PC:= .one (.any)
abbrev qw(x y:An):An:=qn (qm x y)
abbrev qv(x:An):An:=qn (qn x)
abbrev qb{β:Type}(h:Int×List cG×List Source×List Consumer×Int×Int×β):au:=⟨h.1,h.2.1,h.2.2.1,h.2.2.2.1,h.2.2.2.2.1,h.2.2.2.2.2.1⟩
abbrev z0:List Ht:=[aL,aL,aL,aL,aL,aL,aL,aL,qi,qi,qi,qi,qi,qi,jn,qi,cV,dJ,dn,qi,qi,qi,qi,qi,bx,ol,pZ,zM,qi,qi,qi,qi,qi,qi,qi,qi,qi,qi,qi,qi,qi,.lf .str,qi,qi,qi,qi,qi,qi,zL,qi,ck,cH,aL,bx,fE,f_,bx,qi,qi,qi]
abbrev z1:List Ht:=[qi,cV,dJ,dn,qi,qi,ck,cH,aL,bx,qi]
abbrev z2:List PC:=[.agg [bZ,bT,bK,bW,ed,kM,jA,j_,mR,p7,kN,nz,mS,rh,xU,.h 15 [0],wG,.h 17 [0],.h 18 [0],.h 19 [0],zY,zX,zW,zV,zU,.h 25 [0],.h 26 [0],.h 27 [0],.h 28 [0],zT,zS,zR,.h 32 [],xT,.h 34 [],.h 35 [],.h 36 [],.h 37 [],.h 38 [],.h 39 [],.h 40 [],.h 41 [],.h 42 [],.h 43 [],.h 44 [],.h 45 [],.h 46 [],.h 47 [],.h 48 [],.h 49 [0]],.agg [.h 50 [],.h 51 [0],.h 52 [0],.h 53 [0],.h 54 [0],.h 55 [0],.h 56 [0]],.one (.h 57 [0]),.agg [.h 58 [],.h 59 [],.h 60 []]]
abbrev z3:An:=(qn (qm (qn (qm (.loop ⟨[qi],[(8,aN)],[],[],2576⟩ ai [(.exit 0,⟨[],[],[],[],2576⟩)] .o) .o)) .o))
abbrev z4:List PC:=[.agg [bD,bT,bK,bW,cB,bP],.agg [jA,j_,mR,rf],.one (kN)]
abbrev z5:List PC:=[aN]
abbrev z6:List Ht:=[qi,cV,dJ,dn,qi,qi,ck,cH,aL,bx,oj]
abbrev z7:List Ht:=[qi,qi,cV,dJ,dn,qi,qi,qi,ck,cH,aL,bx]
abbrev z8:List Ht:=[qi]
abbrev z9:List Ht:=[qi,qi]
abbrev YU:An:=(qn (qm (qn (qm (.loop ⟨[qi,aL],[(4,.one (.own 3024)),(15,aN)],[(3024,.sl 0 3 1 [])],[],3088⟩ ab [(.exit 0,⟨[aL],[(4,.one (.own 3024))],[(3024,.sl 0 3 0 [])],[],3088⟩)] (qn (qn (qm (qm (qn (qm (qr ⟨[.lf .bool],[(29,qa),(30,qa),(31,qa),(32,aN)],[],[],4050⟩) (qp ⟨[aL],[(4,.one (.own 4051))],[(4051,.sl 0 3 0 [])],[3024],4115⟩ .o .o))) .o) .o)))) .o)) (qn (qm (.loop ⟨[qi,qi,cV,dJ,dn,qi,qi,ck,cH,aL,bx,oj],[(40,aN)],[(1000,.box [bl,bK,bW,ed,bP,eE,.own 1001,.own 1002,.own 1003,.own 1004,.own 3473]),(1001,.sl 1 4 7 []),(1002,.sl 9 140 8 []),(1003,.sl 0 3 9 []),(1004,.sl 10 79 10 []),(3473,.sl 29 124 11 [])],[1000,1001,1002,1003,1004,1005],3537⟩ ab [(.exit 2,⟨z6,[],[(1000,.box [bD,bT,bK,bW,cB,bP,.own 1001,.own 1002,.own 1003,.own 1004,.own 3473]),(1001,.sl 1 4 6 []),(1002,.sl 9 140 7 []),(1003,.sl 0 3 8 []),(1004,.sl 10 79 9 []),(3473,.sl 29 124 10 [])],[1000,1001,1002,1003,1004,1005],3537⟩)] .o) .o))))
abbrev tu:List Ht:=[qi,cV,dJ,dn,qi,qi,ck,cH,aL,bx]
abbrev Cc:List (Nat×PO):=[(1000,.box [bD,bT,bK,bW,cB,bP,.own 1001,.own 1002,.own 1003,.own 1004,kN]),(1001,.sl 1 4 6 []),(1002,.sl 9 140 7 []),(1003,.sl 0 3 8 []),(1004,.sl 10 79 9 [])]
abbrev fu:List PC:=[aN,dq]
abbrev FH:List (Nat×PO):=[(1000,.box [bD,bT,bK,bW,cB,bP,.own 1001,.own 1002,.own 1003,.own 1004,.own 1005]),(1001,.sl 1 4 6 []),(1002,.sl 9 140 7 []),(1003,.sl 0 3 8 []),(1004,.sl 10 79 9 []),(1005,.sl 29 124 10 [])]
abbrev uL:List PC:=[.agg [bD,bT,bK,bW,cB,bP],.agg [jA,j_,mR,rf]]
abbrev o7:List Ht:=[qi,qi,qi,qi]
abbrev YA:List Ht:=[qi,qi,qi,qi,qi,qi,qi,qi,qi,qi,qi,qi,qi,qi,qi,qi,qi,qi,qi,qi,qi,qi,qi,qi,qi,.lf .str,qi,qi,qi,qi,qi,qi,aL,qi,aL,aL,aL,aL,aL,aL,aL,aL,aL,jn,cV,dJ,dn,bx,ol,pZ,zM,zL]
abbrev mK:List Ht:=[qi,qi,qi]
abbrev kH:List (Nat×PO):=[(1000,.box [bZ,bl])]
abbrev Cb:List (Nat×PO):=[(1000,.box [.fn 61 [.ptr 1001 0]]),(1001,.box [bl,bK,bW,ed,kM,jA,j_])]
abbrev kG:List Ht:=[qi,aL]
abbrev zt:List (Nat×PO):=[(1000,.sl 1 4 1 []),(1001,.sl 9 140 2 []),(1002,.sl 0 3 3 []),(1003,.sl 10 79 4 [])]
abbrev Jw:List Ht:=[qi,cV,dJ,dn,qi,qi,ck,cH,aL,bx,qi,qi]
abbrev zr:List Ht:=[qi,cV,dJ,dn,qi,qi]
abbrev Yz:List PC:=[.agg [.own 1001,.own 1002,.own 1003,.own 1004,.own 1005,.own 1006,.own 1007,.own 1008,.own 1009,bD,bl,cf,dy,cB,bP,.own 1010,eE,.own 1011,.own 1012,.own 1013,gM,tM,p7,kN,nz,.own 1014,.own 1015,.own 1016,.own 1017,mS,rh,xU,.h 15 [],wG,.h 17 [],.h 18 [],.h 19 [],zY,zX,zW,zV,zU,.h 25 [],.h 26 [],.h 27 [],.h 28 [],zT,zS,zR,.own 1018]]
abbrev lN:List Ht:=[aL,qi]
abbrev Ju:An:=(qn (qn (qm (qn (qm (.loop ⟨z8,[(13,aN)],[],[],3216⟩ ai [(.exit 0,⟨[],[],[],[],3216⟩)] .o) .o)) .o)))
abbrev Qb:List (Nat×PO):=[(1000,.box [bD,bT,bK,bW,cB,bP,.own 1001,.own 1002,.own 1003,.own 1004,.own 1006]),(1001,.sl 1 4 6 []),(1002,.sl 9 140 7 []),(1003,.sl 0 3 8 []),(1004,.sl 10 79 9 []),(1006,.sl 29 124 10 [])]
abbrev Qa:List (Nat×PO):=[(1000,.box [bl,bK,bW,ed,bP,eE,.own 1001,.own 1002,.own 1003,.own 1004,gM]),(1001,.sl 1 4 8 []),(1002,.sl 9 140 9 []),(1003,.sl 0 3 10 []),(1004,.sl 10 79 11 [])]
abbrev FF:List Ht:=[.lf .bool,qi,ck,cH,aL,bx,fE,f_]
abbrev zq:List Ht:=[qi,ck,cH,aL,bx]
abbrev zp:List PC:=[.agg [.own 1000,.own 1001,.own 1002,.own 1003],aN]
abbrev zo:List PC:=[.agg [bD,bT,bK,bW,cB,bP]]
abbrev fi:List Ht:=[aL]
abbrev jk:List PC:=[.one (.own 1000)]
abbrev P':List Ht:=[qi,qi,cV,dJ,dn,qi,qi,ck,cH,aL,bx,oj]
abbrev mJ:List (Nat×PO):=[(1000,.sl 10 79 0 [])]
abbrev Yy:List (Nat×PO):=[(1000,.box [bD,bT,bK,bW,cB,bP,.own 1006,.own 1007,.own 1008,.own 1009,.own 1010]),(1001,.sl 1 4 6 []),(1002,.sl 9 140 7 []),(1003,.sl 0 3 8 []),(1004,.sl 10 79 9 []),(1006,.sl 1 4 10 []),(1007,.sl 9 140 11 []),(1008,.sl 0 3 12 []),(1009,.sl 10 79 13 []),(1010,.sl 29 124 14 [])]
abbrev kF:List PC:=[.one (.ptr 1000 0)]
abbrev P_:List Ht:=[qi,cV,dJ,dn,qi,qi,ck,cH,aL,bx,aL,oj]
abbrev Yx:An:=(qn (qn (qm (qm (.loop ⟨z8,[(2,aN)],[],[],2704⟩ ab [(.exit 0,⟨z8,[(2,aN)],[],[],2704⟩)] .o) .o) (qm (qm (.loop ⟨z8,[(3,aN)],[],[],2769⟩ ab [(.exit 2,⟨z8,[(3,aN)],[],[],2769⟩)] .o) .o) .o))))
abbrev Yw:An:=(qm (qm (qr ⟨[.lf .bool],[(22,qa),(23,qa),(24,qa),(25,qa),(26,qa),(27,qa),(28,qa),(29,qa),(30,qa),(31,qa),(32,qa),(33,qa),(34,aN)],[],[],3220⟩) .o) .o)
abbrev tt:List PC:=[.agg [bD,bl,cf]]
abbrev ia:List Ht:=[bx]
abbrev Jt:List Ht:=[qi,qi,qi,qi,qi,so]
abbrev Yv:List (Nat×PO):=[(1000,.box [bD,bT,bK,bW,ed,.own 1001,.own 1002,gM,mR,rf,zQ,nz,mS,.own 1003,.own 1004]),(1001,.sl 11 110 5 []),(1002,.sl 12 192 6 []),(1003,.sl 12 192 13 []),(1004,.sl 14 65 14 [0])]
abbrev Yu:List Ht:=[qi,ck,cH,aL,bx,qi,cV,dJ,dn,qi,qi,fE,f_,ck,cH,aL,bx,f_,wF]
abbrev zn:List Ht:=[bx,qi,qi]
abbrev Yt:List (Nat×PO):=[(1000,.box [bD,bT,bK,bW,cB,bP,.own 1001,.own 1002,.own 1003,.own 1004,.own 1007]),(1001,.sl 1 4 6 []),(1002,.sl 9 140 7 []),(1003,.sl 0 3 8 []),(1004,.sl 10 79 9 []),(1006,.sl 0 3 10 []),(1007,.sl 29 124 11 [])]
abbrev Ys:List (Nat×PO):=[(1000,.box [bD,bT,bK,bW,cB,bP,.own 1001,.own 1002,.own 1003,.own 1004,.own 1005]),(1001,.sl 1 4 6 []),(1002,.sl 9 140 7 []),(1003,.sl 0 3 8 []),(1004,.sl 10 79 9 []),(1005,.sl 29 124 10 []),(1006,.sl 0 3 11 [])]
abbrev oZ:List (Nat×PO):=[(1000,.sl 0 3 0 [])]
abbrev P9:List Ht:=[qi,cV,dJ,dn,qi,qi,qi,qi]
abbrev pT:List (Nat×PC):=[(5,aN)]
abbrev P8:List Ht:=[aL,qi,qi,cV,dJ,dn,qi,qi]
abbrev Ca:List PC:=[.agg [bD,bl,cf],tL]
abbrev P7:List Ht:=[qi,qi,qi,qi,qi,so,qi]
abbrev Yr:List (Nat×PC):=[(22,qa),(23,qa),(24,qa),(25,qa),(26,qa),(27,qa),(28,qa),(29,qa),(30,qa),(31,qa),(32,qa),(33,qa)]
abbrev P6:List Ht:=[qi,qi,ck,cH,aL,bx,fE,f_]
abbrev B':List PC:=[aN,dq,lm]
abbrev uK:List Ht:=[qi,.lf .bool]
abbrev P5:List Ht:=[qi,qi,jn,aL,qi,qi,qi]
abbrev B_:List Ht:=[qi,qi,aL]
abbrev xy:List (Nat×PO):=[(1000,.box [bT,cf])]
abbrev Yq:List Ht:=[qi,cV,dJ,dn,qi,qi,ck,cH,aL,bx,qi,qi,qi,qi]
abbrev Yp:List Ht:=[qi,cV,dJ,dn,qi,qi,ck,cH,aL,bx,ck,cH,aL,bx,oj]
abbrev P4:List (Nat×PO):=[(1000,.box [bZ,bl]),(1001,.sl 4 93 3 []),(1002,.sl 5 96 4 []),(1003,.sl 6 99 5 [0])]
abbrev FE:List Ht:=[ck,cH,aL,bx]
abbrev Yo:List (Nat×PO):=[(1000,.box [bZ,bl]),(1001,.sl 4 93 2 []),(1002,.sl 5 96 3 []),(1003,.sl 6 99 4 [0]),(1004,.sl 1 4 5 []),(1005,.sl 9 140 6 []),(1006,.sl 0 3 7 []),(1007,.sl 10 79 8 [])]
abbrev Yn:List Ht:=[qi,cV,dJ,dn,qi,qi,ck,cH,aL,bx,qi,qi,qi]
abbrev xx:List Ht:=[qi,bx]
abbrev P3:List Ht:=[qi,ck,cH,aL,bx,fE,f_]
abbrev P2:List Ht:=[qi,qi,qi,qi,aL,qi]
abbrev rZ:List (Nat×PC):=[(4,aN)]
abbrev Ym:List Ht:=[qi,cV,dJ,dn,qi,qi,ck,cH,aL,bx,oj,aL,qi]
abbrev oY:List PC:=[.one (bZ)]
abbrev PZ:List (Nat×PO):=[(1000,.sl 1 4 0 []),(1001,.sl 9 140 1 []),(1002,.sl 0 3 2 []),(1003,.sl 10 79 3 [])]
abbrev zm:List PC:=[.one (bZ),dq]
abbrev Yl:List Ht:=[qi,cV,dJ,dn,qi,qi,ck,cH,aL,bx,oj,qi]
abbrev Yk:List Ht:=[qi,cV,dJ,dn,qi,qi,ck,cH,aL,bx,qi,oj]
abbrev tr:List (Nat×PC):=[(7,aN)]
abbrev wg:List PC:=[.agg [bD,bl]]
abbrev PY:List PC:=[.one (.ptr 1000 0),.agg [cf,.own 1001,.own 1002,.own 1003,eE,gM]]
abbrev B9:An:=(qn (qm (qt 2 2320) .o))
abbrev Yj:List Ht:=[.lf .bool,qi,cV,dJ,dn,qi,qi,ck,cH,aL,bx,oj]
abbrev PX:List PC:=[.agg [bD,bl,bK],.one (bW),.agg [cB,bP,eE]]
abbrev FD:List Ht:=[aL,qi,aL]
abbrev zl:List Ht:=[qi,cH]
abbrev ns:List Ht:=[cH]
abbrev wc:List (Nat×PC):=[(8,aN)]
abbrev B8:List PC:=[.one (bZ),.one (bT)]
abbrev FC:List Ht:=[.lf .bool,aL,qi]
abbrev PW:List PC:=[.agg [bD,bl,cf,dy,cB,kM],zO]
abbrev Yi:List PC:=[.agg [bD,bT,bK,bW,cB,bP],.agg [jA,j_,mR,rf],.one (kN),zP]
abbrev Js:List PC:=[.agg [bD,bl],.agg [cf,dy]]
abbrev Yh:An:=(qn (qn (qm (qm (qn (qn (qp ⟨ns,[],[(3417,.sl 9 140 0 [])],[3417],5714⟩ .o .o))) .o) .o)))
abbrev Yg:List Ht:=[qi,cV,dJ,dn,qi,qi,qi,qi,qi]
abbrev wb:List (Nat×PC):=[(9,aN)]
abbrev B7:List Ht:=[qi,.lf (.sl 24)]
abbrev Yf:An:=(qn (qm (qn (qm (.loop ⟨z8,wc,[],[],2704⟩ ai [(.exit 0,⟨[],[],[],[],2704⟩)] .o) .o)) .o))
abbrev YT:An:=(qn (qm (qn (qm (.loop ⟨z8,pT,[],[],2320⟩ ai [(.exit 0,⟨[],[],[],[],2320⟩)] .o) .o)) .o))
abbrev YS:J:=⟨[qi,qi,.lf .bool],[],[(2384,.box [bD,bl]),(2512,.box [cf])],[2384,2512],3344⟩
abbrev JB:List Ht:=[aL,qi,qi]
abbrev YR:List Ht:=[qi,qi,qi,qi,qi,so,qi,qi]
abbrev YQ:List Ht:=[qi,qi,qi,qi,qi,qi,qi,re]
abbrev YP:An:=(qn (qn (qm (qn (qp ⟨z9,[(2,aN),(3,dq)],[],[],3728⟩ .o .o)) .o)))
abbrev YO:List Ht:=[aL,qi,qi,ck,cH,aL,bx,fE,f_]
abbrev YN:List Ht:=[qi,qi,jn,aL,re,qi,qi,qi]
abbrev JA:List Ht:=[aL,qi,bx]
abbrev YM:List Ht:=[qi,aL,qi,qi,qi,qi,cV,dJ]
abbrev YL:List Ht:=[aL,qi,cV,dJ,dn,ck,cH,aL,bx]
abbrev YK:J:=⟨[qi,u5],[(5,.one (.own 2896)),(13,aN)],[(2896,.sl 37 331 1 [])],[],2960⟩
abbrev Jz:List PC:=[.agg [bD,bl,cf,dy]]
abbrev Qh:List PC:=[.agg [bD,bl,cf,dy,cB,kM]]
abbrev YJ:List Ht:=[qi,cV,dJ,dn,qi,qi,aL,oj]
abbrev YI:List (Nat×PO):=[(1000,.sl 1 4 1 []),(1001,.sl 9 140 2 []),(1002,.sl 0 3 3 []),(1003,.sl 10 79 4 []),(1004,.sl 29 124 5 [])]
abbrev wh:List PC:=[.one (.own 1001)]
abbrev Qg:List Ht:=[qi,aL,qi,aL]
abbrev Cd:J:=⟨[],[],[],[],2832⟩
abbrev r_:List Ht:=[.lf (.sl 24)]
abbrev YH:List Ht:=[fE,qi,ck,cH,aL,bx,fE,f_]
abbrev Qf:List Ht:=[qi,qi,qi,.el 0]
abbrev zu:List (Nat×PO):=[(1000,.sl 0 3 1 [])]
abbrev Qe:List (Nat×PO):=[(1000,.box [bZ,bl]),(1001,.sl 0 3 2 [])]
abbrev YG:List Ht:=[aL,qi,qi,qi,qi,cV,dJ]
abbrev YF:List Ht:=[qi,cV,dJ,dn,qi,qi,qi]
abbrev Jy:List PC:=[.one (.ptr 1000 0),.one (.own 1001)]
abbrev YE:List PC:=[.agg [bD,bl,bK],.one (bW),.one (ed),.agg [bP,eE,gM]]
abbrev Jx:List PC:=[.agg [bZ,bT,bK]]
abbrev YD:List Ht:=[qi,qi,qi,qi,qi,qi]
abbrev YC:List Ht:=[qi,qi,jn,qi,qi,qi]
abbrev Qd:List PC:=[.agg [.own 1000,.own 1001,.own 1002,.own 1003]]
abbrev YB:List PC:=[.agg [bD,bT,bK,bW,cB,bP],.agg [eE,gM,tM]]
abbrev Qc:An:=(qn (qm (qm (qt 21 2320) .o) .o))
abbrev CK(c:az D):=fK prog T c
def q0:True:=trivial
def ayf{f:Nat}{fn:Func}{code:Code}(hf:prog.funcs[f]? =aa fn)(hb:fn.body=aa code)(hn:ak (fn.name= "runtime.NumGoroutine")=ai)(args:Array Value)(w:World):(callFunc f args).run prog w= .ok (.enter f args) w:=by have hn:=pN hn;unfold callFunc;simp[hf,hn,hb]
def fo(Φ:List (az D))(rs:List ResultVar)(an:An)(cK:ij prog T Φ){c:az D}{fn:Func}{code:Code}(hf:prog.funcs[c.f]? =aa fn)(hb:fn.body=aa code:=by rfl)(kR:fn.results=rs.toArray:=by rfl)(hn:ak (fn.name= "runtime.NumGoroutine")=ai:=by kernel_rfl)(bU:((writes code).all (λt=>Nat.blt t fn.ntmps)&&ef c.args.length fn.ntmps&&sw c.jR c.b7&&mq (c.b7.map Prod.fst)&&c.b7.all (λp=>ef 1000 p.1)&&ef c.b7.length 40)=ab:=by kernel_rfl)(rD:∀h,KK T Φ c rs code an h=c.fn h:=by intro h;kernel_rfl):CK c:=aeq p8 pb (ij.mem cK) nH (ayf hf hb hn) hf hb kR bU rD
def jH(a0:Int)(a1:Int)(a2:Int):Option (Bool):=(if ak (a0>=a1)=ab then aa (ak (a0<=a2))else aa ai).bind aa
def xj:az D:=⟨93,mK,[.lf .bool],B',[],z5,[],λh=>jH h.1 h.2.1 h.2.2⟩
def yW:CK xj:=fo [] [.tmp 6] (qw (qt 6 2192) .o) trivial func93
def CE(a0:List Int)(a1:Int):Int->Option (Int⊕Unit⊕Int):=λx1=>if ak (x1<len a0)=ab then(idx a0 x1).bind λx2=>if(a1==x2)=ab then aa (.inr (.inr x1))else aa (.inl (W (x1+1)))else aa (.inr (.inl ()))
def J2(a0:List Int)(a1:Int):Option (Int):=(aI (CE a0 a1) 0).bind λx3=>dk (λx4=>aa (-1)) (aa) x3
def ahv:az D:=⟨221,lN,z8,zm,[],z5,[],λh=>J2 h.1 h.2⟩
def aAi:CK ahv:=fo [] [.tmp 4] z3 trivial func221
def xJ(a0:List Int)(a1:Int):Option (Bool):=(J2 a0 a1).bind λx1=>aa (ak (x1>=0))
def IE:az D:=⟨160,lN,[.lf .bool],zm,[],z5,[],λh=>xJ h.1 h.2⟩
def OC:CK IE:=fo [ahv] [.tmp 4] .o ⟨aAi,q0⟩ func160
def OS(a0:List Int):Option (Bool):=aa (len a0==0)
def aim:az D:=⟨162,fi,[.lf .bool],oY,[],z5,[],λh=>OS h⟩
def aA0:CK aim:=fo [] [.tmp 2] .o trivial func162
def CG(a0:List (List Int)):Int->Option (Int⊕Unit⊕Int):=λx1=>if ak (x1<len a0)=ab then(idx a0 x1).bind λx2=>(OS x2).bind λx3=>if x3=ab then aa (.inr (.inr x1))else aa (.inl (W (x1+1)))else aa (.inr (.inl ()))
def Q0(a0:(List (List Int))):Option (Int):=(aI (CG a0) 0).bind λx4=>dk (λx5=>aa (-1)) (aa) x4
def ahu:az D:=⟨222,[zN],z8,[.one (bZ),.one (.fn 162 [])],[],z5,[],λh=>Q0 h⟩
def aAh:CK ahu:=fo [aim] [.tmp 4] z3 ⟨aA0,q0⟩ func222
def Kk(a0:(List (List Int))):Option (Bool):=(Q0 a0).bind λx1=>aa (ak (x1>=0))
def ain:az D:=⟨161,[zN],[.lf .bool],[.one (bZ),.one (.fn 162 [])],[],z5,[],λh=>Kk h⟩
def aA1:CK ain:=fo [ahu] [.tmp 4] .o ⟨aAh,q0⟩ func161
def BF(a0:au):Int×List Int×List (List Int)->Option (Int×List Int×List (List Int)⊕List Int×List (List Int)⊕Bool):=λx3=>if ak (x3.1<len a0.ae)=ab then(idx a0.ae x3.1).bind λx4=>(jH x4.A 0 (W (a0.aA-1))).bind λx5=>if(!x5)=ab then aa (.inr (.inr ai))else(if(x4.Kind==1)=ab then(jH x4.B (W (x4.A+1)) (W (a0.aA-1))).bind aa else aa ai).bind λx7=>(if x7=ab then aa (.inl x3.2)else(if(x4.Kind==2)=ab then(jH x4.B 0 (W (len x3.2.1-1))).bind λx8=>if x8=ab then(idx x3.2.1 x4.B).bind λx9=>aa (x9==0)else aa ai else aa ai).bind λbe=>(if be=ab then(idx x3.2.1 x4.B).bind λkI=>(idx x3.2.1 x4.B).bind λfL=>(idx x3.2.1 x4.B).bind λmj=>(df x3.2.1 x4.B (W (kI+1))).bind λj9=>aa (.inl (j9,x3.2.2))else(if(x4.Kind==3)=ab then(jH x4.B 0 (W (len x3.2.2-1))).bind λbo=>if bo=ab then(idx x3.2.2 x4.B).bind λbJ=>(idx x3.2.2 x4.B).bind λcp=>(xJ cp x4.A).bind λcF=>aa (!cF,x3.2.2)else aa (ai,x3.2.2)else aa (ai,x3.2.2)).bind λcu=>if cu.1=ab then(idx cu.2 x4.B).bind λcM=>(idx cu.2 x4.B).bind λdD=>(idx cu.2 x4.B).bind λda=>(bF da [x4.A]).bind λdN=>(df cu.2 x4.B dN).bind λfe=>(idx fe x4.B).bind λfZ=>(yJ x4.B x4.B).bind λiS=>aa (.inl (x3.2.1,fe))else aa (.inr (.inr (.inr (.inr ai))))).bind λib=>dk (λiR=>aa (.inl iR)) (aa) ib).bind λnu=>dk (λpV=>aa (.inl (W (x3.1+1),pV))) (aa) nu else aa (.inr (.inl x3.2))
def OT(a0:au):Option (Bool):=(mu 0 (len a0.aj)).bind λx1=>(mu [] (len a0.ay)).bind λx2=>(aI (BF a0) (0,x1,x2)).bind λwo=>dk (λsf=>((xJ sf.1 0).bind λtB=>if(!tB)=ab then(Kk sf.2).bind λsd=>aa !sd else aa ai).bind aa) (aa) wo
def c94:az D:=⟨94,zr,[.lf .bool],zo,[],z5,[],λh=>OT ⟨h.1,h.2.1,h.2.2.1,h.2.2.2.1,h.2.2.2.2.1,h.2.2.2.2.2⟩⟩
def aym:CK c94:=fo [xj,IE,ain] [.tmp 2] (qn (qw (qw (.loop ⟨[qi,aL,zN],[(18,aN)],[(2640,.sl 0 3 1 []),(3152,.cX 13 22 3 0 2)],[2640,3152],4112⟩ ai [(.exit 0,⟨[aL,zN],[],[(2640,.sl 0 3 0 []),(3152,.cX 13 22 3 0 1)],[2640,3152],4112⟩)] (qn (qw (qm (qn (qw (qm (qr ⟨[.lf .bool],[(29,aN),(34,qa),(35,qa),(36,qa),(37,qa),(38,qa),(39,qa),(40,qa),(41,qa),(42,qa)],[],[],5715⟩) (.n (aa (ai,[(.normal,⟨[aL,zN],[],[(2640,.sl 0 3 0 []),(3152,.cX 13 22 3 0 1)],[2640,3152],5780⟩)])) .o (qm (qr ⟨[.lf .bool],[(44,aN),(49,qa),(50,qa),(51,qa),(52,qa),(53,qa),(54,qa),(57,qa),(58,qa),(59,qa),(60,qa),(61,qa),(62,qa)],[],[],5780⟩) (.n (aa (ai,[(.normal,⟨[aL,zN],[],[(2640,.sl 0 3 0 []),(3152,.cX 13 22 3 0 1)],[2640,3152],5845⟩)])) .o (qm (qr ⟨[.lf .bool,zN],[(71,aN),(76,qa),(77,qa),(78,qa),(79,qa),(80,qa),(81,qa),(84,qa),(85,qa),(86,qa),(87,qa),(88,qa),(89,qa),(90,qa),(91,qa),(92,qa)],[(3152,.cX 13 22 3 0 1)],[3152],5845⟩) .o))))) .o)) .o) .o))) .o) (qm (qt 2 4178) .o))) ⟨yW,OC,aA1,q0⟩ func94
def IJ(a0:Source):Option (Bool):=((jH a0.ig 1 50000).bind λx1=>if x1=ab then(jH a0.eU 0 a0.ig).bind λx2=>if x2=ab then(jH a0.Start 0 600).bind aa else aa ai else aa ai).bind aa
def c95:az D:=⟨95,mK,[.lf .bool],tt,[],z5,[],λh=>IJ ⟨h.1,h.2.1,h.2.2⟩⟩
def ayl:CK c95:=fo [xj] [.tmp 2] B9 ⟨yW,q0⟩ func95
def EO(a0:Consumer)(a1:Int):Int->Option (Int⊕Unit⊕Bool):=λx1=>if ak (x1<len a0.b_)=ab then(idx a0.b_ x1).bind λx2=>((jH x2 0 (W (a1-1))).bind λx3=>if(!x3)=ab then aa ab else if ak (x1>0)=ab then(idx a0.b_ (W (x1-1))).bind λx4=>aa (ak (x4>=x2))else aa ai).bind λx5=>if x5=ab then aa (.inr (.inr ai))else aa (.inl (W (x1+1)))else aa (.inr (.inl ()))
def OO(a0:Consumer)(a1:Int):Option (Bool):=(aI (EO a0 a1) 0).bind λx6=>dk (λx7=>((jH a0.eT 0 50000).bind λx8=>if x8=ab then(jH a0.eU 0 a0.eT).bind λx9=>if x9=ab then(jH a0.ky 0 15).bind λbe=>if be=ab then(jH a0.b8 (-1) 7).bind λbo=>if bo=ab then aa (ak (len a0.b_<=4))else aa ai else aa ai else aa ai else aa ai).bind aa) (aa) x6
def c96:az D:=⟨96,P2,[.lf .bool],[.agg [bD,bl,cf,dy,ed],.one (bP)],[],z5,[],λh=>OO ⟨h.1,h.2.1,h.2.2.1,h.2.2.2.1,h.2.2.2.2.1⟩ h.2.2.2.2.2⟩
def ayk:CK c96:=fo [xj] [.tmp 4] (qw (qw (.loop ⟨z8,[(10,aN)],[],[],2832⟩ ai [(.exit 0,Cd)] (qn (qw (qm (qw (qr ⟨[.lf .bool],[(21,qa),(22,qa),(23,qa),(24,qa),(25,qa),(26,qa),(27,qa),(28,qa),(29,qa),(30,qa),(31,qa),(32,qa),(33,aN)],[],[],3665⟩) .o) .o) .o))) .o) (qm (qt 4 2896) .o)) ⟨yW,q0⟩ func96
def ET(a0:au):Bool×Int->Option (Bool×Int⊕Bool):=λx7=>if ak (x7.2<len a0.aj)=ab then(idx a0.aj x7.2).bind λx8=>(if x7.1=ab then(IJ x8).bind aa else aa ai).bind λbe=>aa (.inl (be,W (x7.2+1)))else aa (.inr x7.1)
def ES(a0:au):Bool×Int->Option (Bool×Int⊕Bool):=λbJ=>if ak (bJ.2<len a0.ay)=ab then(idx a0.ay bJ.2).bind λcp=>(if bJ.1=ab then(OO cp bJ.2).bind aa else aa ai).bind λcu=>aa (.inl (cu,W (bJ.2+1)))else aa (.inr bJ.1)
def IX(a0:au):Option (Int):=((jH a0.aA 1 6).bind λx1=>if(!x1)=ab then aa ab else if ak (len a0.ae>24)=ab then aa ab else if ak (len a0.aj>8)=ab then aa ab else aa (ak (len a0.ay>16))).bind λx2=>if x2=ab then aa 2 else((OT a0).bind λx3=>if x3=ab then(jH a0.bh 0 1800).bind λx4=>if x4=ab then(jH a0.aY 0 6000).bind aa else aa ai else aa ai).bind λx6=>(aI (ET a0) (x6,0)).bind λbo=>(aI (ES a0) (bo,0)).bind λcM=>if(!cM)=ab then aa 14 else aa 0
def EF:az D:=⟨36,zr,z8,zo,[],z5,[],λh=>IX ⟨h.1,h.2.1,h.2.2.1,h.2.2.2.1,h.2.2.2.2.1,h.2.2.2.2.2⟩⟩
def Wi:CK EF:=fo [xj,c94,c95,c96] [.tmp 2] (qw (qm (qt 29 2320) .o) (qm (qt 3 2385) (qm (qw (.loop ⟨[.lf .bool,qi],[(3,aN),(45,dq)],[],[],2962⟩ ab [(.exit 0,qB 3 2962)] (qn (qw (qm (qn (qr ⟨[.lf .bool],[(3,aN),(51,qa),(52,qa)],[],[],3668⟩)) .o) .o))) .o) (qm (qw (.loop ⟨[.lf .bool,qi],[(3,aN),(58,dq)],[],[],3539⟩ ab [(.exit 2,qB 3 3539)] (qn (qw (qm (qn (qr ⟨[.lf .bool],[(3,aN),(65,qa),(66,qa),(67,qa)],[],[],4501⟩)) .o) .o))) .o) .o)))) ⟨yW,aym,ayl,ayk,q0⟩ func36
def KU(a0:g9):Option (Bool):=(if ak (a0.Stop>=1)=ab then if ak (a0.Stop<=99)=ab then if ak (a0.Start>a0.Stop)=ab then if ak (a0.Start<=100)=ab then if ak (a0.nU>=0)=ab then aa (ak (a0.nU<=600))else aa ai else aa ai else aa ai else aa ai else aa ai).bind aa
def Iz:az D:=⟨37,mK,[.lf .bool],tt,[],z5,[],λh=>KU ⟨h.1,h.2.1,h.2.2⟩⟩
def af5:CK Iz:=fo [] [.tmp 2] B9 trivial func37
def OA:az D:=tI T [] ⟨164,[.lf (.int .u64),.lf (.int .u64)],[.lf (.int .u64),.lf (.int .u64)],fu,[],fu,[],λ_=>none⟩ [.tmp 4,.tmp 5] (qK f164) .o
def aAZ:CK OA:=wB (Φ:=[]) p8 pb (ij.mem (l:=[]) trivial) nH call164 func164 rfl rfl (by kernel_rfl)
def BB:az D:=tI T [OA] ⟨98,[.lf (.int .u64),.lf (.int .u64)],[.lf (.int .u64),.lf (.int .u64)],fu,[],fu,[],λ_=>none⟩ [.tmp 4,.tmp 5] (qK f98) .o
def afg:CK BB:=wB (Φ:=[OA]) p8 pb (ij.mem (⟨aAZ,q0⟩:ij _ _ [OA])) nH call98 func98 rfl rfl (by kernel_rfl)
def Ob:az D:=tI T [BB] ⟨97,[fE,qi],[fE],zm,[],jk,[(1000,.sl 11 110 0 [])],λ_=>none⟩ [.tmp 4] (qK f97) (qn (qn (qn (qm (qm (qt 26 3856) .o) (qn (qn (qm (qm (.loop ⟨[qi,fE],wc,[(4113,.sl 11 110 1 [])],[4113],4945⟩ ab [(.exit 0,⟨[fE],[],[(4113,.sl 11 110 0 [])],[4113],4945⟩)] .o) .o) .o)))))))
def ayj:CK Ob:=wB (Φ:=[BB]) p8 pb (ij.mem (⟨afg,q0⟩:ij _ _ [BB])) nH call97 func97 rfl rfl (by kernel_rfl)
def Om:az D:=tI T [Ob] ⟨38,z8,[fE],z5,[],jk,[(1000,.sl 11 110 0 [])],λ_=>none⟩ [.tmp 2] (qK f38) .o
def ay5:CK Om:=wB (Φ:=[Ob]) p8 pb (ij.mem (⟨ayj,q0⟩:ij _ _ [Ob])) nH call38 func38 rfl rfl (by kernel_rfl)
def Ol:az D:=tI T [BB] ⟨39,[cH,qi],ns,zm,[],jk,[(1000,.sl 9 140 0 [])],λ_=>none⟩ [.tmp 4] (qK f39) (qn (qn (qn (qm (qm (qt 26 3856) .o) (qn (qn (qm (qm (.loop ⟨zl,wc,[(4113,.sl 9 140 1 [])],[4113],4945⟩ ab [(.exit 0,⟨ns,[],[(4113,.sl 9 140 0 [])],[4113],4945⟩)] .o) .o) .o)))))))
def ay4:CK Ol:=wB (Φ:=[BB]) p8 pb (ij.mem (⟨afg,q0⟩:ij _ _ [BB])) nH call39 func39 rfl rfl (by kernel_rfl)
def OG:az D:=tI T [EF,Iz,Om,Ol] ⟨13,Yg,[qi,qi,ck,cH,aL,fE],YB,[],[.agg [bD,.own 1000,.own 1001,.own 1002,.bE,.own 1003,.bE],dq],[(1000,.sl 1 4 2 []),(1001,.sl 9 140 3 []),(1002,.sl 0 3 4 []),(1003,.sl 11 110 5 [])],λ_=>none⟩ [.cell 4 69,.tmp 5] (qK f13) (qn (qn (qn (qn (qn (qm (qn (qm (.loop ⟨B_,[(43,aN)],[(4304,.box [bl,.own 4944,.own 6104,.own 7120,.bE,.own 4056,.bE]),(7120,.sl 0 3 2 [])],[4304],7184⟩ ab [(.exit 1,⟨kG,[],[(4304,.box [bD,.own 4944,.own 6104,.own 7120,.bE,.own 4056,.bE]),(7120,.sl 0 3 1 [])],[4304],7184⟩)] .o) .o)) .o))))))
def aBj:CK OG:=wB (Φ:=[EF,Iz,Om,Ol]) p8 pb (ij.mem (⟨Wi,af5,ay5,ay4,q0⟩:ij _ _ [EF,Iz,Om,Ol])) nH call13 func13 rfl rfl (by kernel_rfl)
def OL(a0:au)(a1:Int):Option (Int):=if(a1==1)=ab then aa (len a0.aj)else if(a1==2)=ab then aa (len a0.ae)else if(a1==3)=ab then aa a0.aA else if(a1==4)=ab then aa (len a0.ay)else aa 0
def ah4:az D:=⟨191,YF,z8,[.agg [bD,bT,bK,bW,cB,bP],zO],[],z5,[],λh=>OL (qb h) h.2.2.2.2.2.2⟩
def aAK:CK ah4:=fo [] [.tmp 4] .o trivial func191
def Iq(a0:Int):Option (Bool):=aa (a0 !=a0)
def ah5:az D:=⟨190,z8,[.lf .bool],z5,[],z5,[],λh=>Iq h⟩
def aAL:CK ah5:=fo [] [.tmp 2] .o trivial func190
def vN(a0:Int)(a1:Int):Option (Int):=(Iq a0).bind λx1=>(Iq a1).bind λx2=>if x1=ab then if x2=ab then aa 0 else aa (-1)else if x2=ab then aa 1 else if ak (a0<a1)=ab then aa (-1)else if ak (a0>a1)=ab then aa 1 else aa 0
def OF:az D:=⟨130,z9,z8,fu,[],z5,[],λh=>vN h.1 h.2⟩
def WO:CK OF:=fo [ah5] [.tmp 4] .o ⟨aAL,q0⟩ func130
def ux(a0:List Int):Int->Option (Int⊕Unit⊕Int):=λx1=>if ak (x1<len a0)=ab then(idx a0 x1).bind λx2=>if(x2 !=0)=ab then aa (.inr (.inr x2))else aa (.inl (W (x1+1)))else aa (.inr (.inl ()))
def Ew(a0:List Int):Option (Int):=(aI (ux a0) 0).bind λx3=>dk (λx4=>aa 0) (aa) x3
def OH:az D:=⟨122,fi,z8,oY,[],z5,[],λh=>Ew h⟩
def WS:CK OH:=fo [] [.tmp 2] (.n none .o Yf) trivial func122
def EP(a0:au)(a1:List Part):Int->Option (Int⊕Unit⊕Bool):=λx1=>if ak (x1<len a1)=ab then(idx a1 x1).bind λx2=>((OL a0 x2.Kind).bind λx3=>(jH x2.Number 0 (W (x3-1))).bind λx4=>if(!x4)=ab then aa ab else if ak (x1>0)=ab then(idx a1 (W (x1-1))).bind λx5=>(vN x5.Kind x2.Kind).bind λx6=>(idx a1 (W (x1-1))).bind λx7=>(vN x7.Number x2.Number).bind λx8=>(Ew [x6,x8]).bind λx9=>aa (ak (x9>=0))else aa ai).bind λbe=>if be=ab then aa (.inr (.inr ai))else aa (.inl (W (x1+1)))else aa (.inr (.inl ()))
def OQ(a0:au)(a1:List Part):Option (Bool):=(aI (EP a0 a1) 0).bind λbo=>dk (λbJ=>aa (ak (len a1<=32))) (aa) bo
def aiP:az D:=⟨132,[qi,cV,dJ,dn,qi,qi,bx],[.lf .bool],[.agg [bD,bT,bK,bW,cB,bP],.one (jA)],[],z5,[],λh=>OQ (qb h) h.2.2.2.2.2.2⟩
def aBr:CK aiP:=fo [xj,OH,OF,ah4] [.tmp 4] (qw (qw (.loop ⟨z8,wb,[],[],2704⟩ ai [(.exit 0,⟨[],[],[],[],2704⟩)] (qn (qw (qm (qw (qr ⟨[.lf .bool],[(24,qa),(25,qa),(26,qa),(27,qa),(28,qa),(29,qa),(30,qa),(31,qa),(32,qa),(33,qa),(34,qa),(35,qa),(36,qa),(37,qa),(38,qa),(39,qa),(40,qa),(41,qa),(42,qa),(43,qa),(44,qa),(45,qa),(46,qa),(47,qa),(48,qa),(49,aN)],[],[],3665⟩) .o) .o) .o))) .o) .o) ⟨yW,WS,WO,aAK,q0⟩ func132
def OM(a0:bn):Option (Bool):=((jH a0.State 0 3).bind λx1=>if x1=ab then(jH a0.gG 0 2147483648).bind λx2=>if x2=ab then(jH a0.aY 0 6000).bind λx3=>if x3=ab then(jH a0.bh 0 3599).bind aa else aa ai else aa ai else aa ai).bind aa
def aiM:az D:=⟨135,o7,[.lf .bool],Jz,[],z5,[],λh=>OM ⟨h.1,h.2.1,h.2.2.1,h.2.2.2⟩⟩
def aBo:CK aiM:=fo [xj] [.tmp 2] B9 ⟨yW,q0⟩ func135
def OU(a0:bn):Option (Bool):=(OM a0).bind λx1=>aa !x1
def aiN:az D:=⟨134,o7,[.lf .bool],Jz,[],z5,[],λh=>OU ⟨h.1,h.2.1,h.2.2.1,h.2.2.2⟩⟩
def aBp:CK aiN:=fo [aiM] [.tmp 2] .o ⟨aBo,q0⟩ func134
def CH(a0:List bn):Int->Option (Int⊕Unit⊕Int):=λx1=>if ak (x1<len a0)=ab then(idx a0 x1).bind λx2=>(OU x2).bind λx3=>if x3=ab then aa (.inr (.inr x1))else aa (.inl (W (x1+1)))else aa (.inr (.inl ()))
def Q2(a0:List bn):Option (Int):=(aI (CH a0) 0).bind λx4=>dk (λx5=>aa (-1)) (aa) x4
def ah3:az D:=⟨192,ns,z8,[.one (bZ),.one (.fn 134 [])],[],z5,[],λh=>Q2 h⟩
def aAJ:CK ah3:=fo [aiN] [.tmp 4] z3 ⟨aBp,q0⟩ func192
def Km(a0:List bn):Option (Bool):=(Q2 a0).bind λx1=>aa (ak (x1>=0))
def aiO:az D:=⟨133,ns,[.lf .bool],[.one (bZ),.one (.fn 134 [])],[],z5,[],λh=>Km h⟩
def aBq:CK aiO:=fo [ah3] [.tmp 4] .o ⟨aAJ,q0⟩ func133
def IR(a0:au)(a1:aw)(a2:Int):Int×Int->Option (Int×Int⊕Int):=λx1=>if ak (x1.2<len a0.ae)=ab then(idx a0.ae x1.2).bind λx2=>(if(x2.Kind==3)=ab then if(x2.B==a2)=ab then(idx a1.aF x1.2).bind aa else aa ai else aa ai).bind λx4=>(if x4=ab then aa (W (x1.1+1))else aa x1.1).bind λx5=>aa (.inl (x5,W (x1.2+1)))else aa (.inr x1.1)
def OP(a0:au)(a1:aw)(a2:Int):Option (Int):=(aI (IR a0 a1 a2) (0,0)).bind aa
def aiL:az D:=⟨136,z1,z8,z4,[],z5,[],λh=>let g:=h.2.2.2.2.2.2;OP (qb h) ⟨g.1,g.2.1,g.2.2.1,g.2.2.2.1⟩ g.2.2.2.2⟩
def aBn:CK aiL:=fo [] [.tmp 6] (qn (qw (qw (.loop ⟨z9,[(7,aN),(13,dq)],[],[],3088⟩ ab [(.exit 0,⟨z8,tr,[],[],3088⟩)] (qn (qw (qm (qw (qr ⟨[.lf .bool],[(22,qa),(23,qa),(24,qa),(25,qa),(28,qa),(29,qa),(30,qa),(31,qa),(32,qa),(33,aN)],[],[],4050⟩) (qp ⟨z8,tr,[],[],4115⟩ .o .o)) .o) .o))) .o) .o)) trivial func136
def EQ(a0:au)(a1:aw):Bool×Int->Option (Bool×Int⊕Bool):=λx6=>if ak (x6.2<len a1.aW)=ab then(idx a1.aW x6.2).bind λx7=>(if x6.1=ab then(idx a0.ay x6.2).bind λx8=>(jH x7 0 x8.eT).bind λx9=>if x9=ab then(OP a0 a1 x6.2).bind λbe=>aa (ak (be<=1))else aa ai else aa ai).bind λbo=>aa (.inl (bo,W (x6.2+1)))else aa (.inr x6.1)
def pI(a0:au)(a1:aw):Option (Int):=(IX a0).bind λx1=>if(x1 !=0)=ab then aa x1 else(if(len a1.aF !=len a0.ae)=ab then aa ab else if(len a1.aj !=len a0.aj)=ab then aa ab else aa (len a1.aW !=len a0.ay)).bind λx2=>if x2=ab then aa 8 else((OQ a0 a1.aR).bind λx3=>if x3=ab then(Km a1.aj).bind λx4=>aa !x4 else aa ai).bind λx5=>(aI (EQ a0 a1) (x5,0)).bind λbJ=>if(!bJ)=ab then aa 11 else aa 0
def rN:az D:=⟨74,tu,z8,uL,[],z5,[],λh=>let g:=h.2.2.2.2.2.2;pI (qb h) ⟨g.1,g.2.1,g.2.2.1,g.2.2.2⟩⟩
def sX:CK rN:=fo [EF,xj,aiP,aiO,aiL] [.tmp 4] (qn (qw (qm (qt 38 3088) .o) (qm (qt 6 3153) (qm (qw (.loop ⟨[.lf .bool,qi],[(6,aN),(52,dq)],[],[],3730⟩ ab [(.exit 0,qB 6 3730)] (qn (qw (qm (qn (qr ⟨[.lf .bool],[(6,aN),(59,qa),(60,qa),(61,qa),(62,qa),(63,qa),(64,qa),(65,qa),(66,qa),(69,qa),(70,qa),(71,qa),(72,qa),(73,qa)],[],[],4564⟩)) .o) .o))) .o) .o)))) ⟨Wi,yW,aBr,aBq,aBn,q0⟩ func74
def Ga(a0:List Bool):Option (List Bool):=bF [] a0
def V_:az D:=⟨84,[ck],[ck],oY,[],jk,[(1000,.sl 1 4 0 [])],λh=>Ga h⟩
def afs:CK V_:=by
 refine⟨call84,rfl,rfl,rfl,rfl,λoc r0 mz fj eO has nF γ w vs hv _=>?_⟩;cases has;match vs,hv with
 |[],hv=>exact hv.elim
 |_::_::_,hv=>exact hv.2.elim
 |[v],hv=>
 obtain⟨xs,eF⟩:∃xs:List (D 1),xs=oc:=⟨_,rfl⟩;obtain⟨r,jo⟩:∃r:List (D 1),r=r0:=⟨_,rfl⟩;have g0:Rv (In γ.o [0]) w v xs:=by rw[eF];exact hv.1.1
 have hr:bF ([]:List (D 1)) xs=aa r:=by rw[eF,jo];exact mz
 subst jo;have hT:=F0.2;refine enter (l:=[v]) func84 rfl ntmps84 rfl ?_;refine CW.sub (L':=[(0,v)]) ⟨rfl,trivial⟩ ?_;refine CW.sr λK1 gY=>?_;refine WL.p (.slice none 0 0) rfl rfl ?_;refine WL.nx gY ?_;refine CW.seq λK2 ix=>?_;refine CW.sr λK3 l8=>?_;refine WL.p v rfl rfl ?_;obtain⟨a,m,q,rfl,hn⟩:=zI g0;refine WL.lT (OW.isNil F0.1 rfl) rfl ?_;refine WL.nx l8 ?_;cases a with
 |none=>refine CW.cond (b:=ab) rfl (λ_=>?_) (λh=>nomatch h);refine CW.sr λK4 nN=>?_;refine WL.p (.slice none 0 0) rfl rfl ?_;refine WL.nx nN ?_;rw[hn rfl]at hr;obtain rfl:=BL hr;exact CW.mn (vs:=[.slice none 0 0]) results84 ⟨rfl,trivial⟩ ⟨_,rfl,qF (n:=1) (e:=4) (q:=1000) (K:=[]) (M:=[]) (N:=[]) rfl rfl rfl (by simp) (by simp) (bO.refl _ _ γ.o w) (Ow.nil _ _ _ _ _) (λx hx=>by simp at hx<;>omega)⟩ (λ_ _ h=>h)
 |some a=>refine CW.cond (b:=ai) rfl (λh=>nomatch h) (λ_=>?_);refine CW.skip ?_;refine ix _ _ ?_;refine CW.sr λK5 lB=>?_;refine WL.step (OW.buildSlice (o:=γ.o) (k:=1000) (K:=[]) (xs:=([]:List (D 1))) F0.1 hT rfl trivial rfl rfl) rfl ?_;rintro v1 w1 ⟨o1,kq,h1⟩;have g0:=g0.Bn kq rfl;refine WL.p (.slice (aa a) m q) rfl rfl ?_;refine WL.step (OW.append (K:=[]) F0.1 hT rfl rfl h1 (@fB.flat (D 1) _ aw3 _ _ _ _ _ g0.de) hr rfl) rfl ?_;rintro v2 w2 ⟨o2,mF,h2⟩;refine WL.p v2 rfl rfl ?_;refine WL.nx lB ?_;exact CW.mn (vs:=[v2]) results84 ⟨rfl,trivial⟩ ⟨_,rfl,qF (n:=1) (e:=4) (q:=1000) (K:=[]) (M:=[1000]) (N:=[1000]) rfl rfl rfl (by simp) (by simp) ((kq.weaken (by simp) (by simp)).trans mF) h2 (λx hx=>by simp at hx<;>omega)⟩ (λ_ _ h=>h)
def Gb(a0:List bn):Option (List bn):=bF [] a0
def V9:az D:=⟨85,ns,ns,oY,[],jk,[(1000,.sl 9 140 0 [])],λh=>Gb h⟩
def afr:CK V9:=by
 refine⟨call85,rfl,rfl,rfl,rfl,λoc r0 mz fj eO has nF γ w vs hv _=>?_⟩;cases has;match vs,hv with
 |[],hv=>exact hv.elim
 |_::_::_,hv=>exact hv.2.elim
 |[v],hv=>
 obtain⟨xs,eF⟩:∃xs:List (D 9),xs=oc:=⟨_,rfl⟩;obtain⟨r,jo⟩:∃r:List (D 9),r=r0:=⟨_,rfl⟩;have g0:Rv (In γ.o [0]) w v xs:=by rw[eF];exact hv.1.1
 have hr:bF ([]:List (D 9)) xs=aa r:=by rw[eF,jo];exact mz
 subst jo;have hT:=FZ.2;refine enter (l:=[v]) func85 rfl ntmps85 rfl ?_;refine CW.sub (L':=[(0,v)]) ⟨rfl,trivial⟩ ?_;refine CW.sr λK1 gY=>?_;refine WL.p (.slice none 0 0) rfl rfl ?_;refine WL.nx gY ?_;refine CW.seq λK2 ix=>?_;refine CW.sr λK3 l8=>?_;refine WL.p v rfl rfl ?_;obtain⟨a,m,q,rfl,hn⟩:=zI g0;refine WL.lT (OW.isNil FZ.1 rfl) rfl ?_;refine WL.nx l8 ?_;cases a with
 |none=>refine CW.cond (b:=ab) rfl (λ_=>?_) (λh=>nomatch h);refine CW.sr λK4 nN=>?_;refine WL.p (.slice none 0 0) rfl rfl ?_;refine WL.nx nN ?_;rw[hn rfl]at hr;obtain rfl:=BL hr;exact CW.mn (vs:=[.slice none 0 0]) results85 ⟨rfl,trivial⟩ ⟨_,rfl,qF (n:=9) (e:=140) (q:=1000) (K:=[]) (M:=[]) (N:=[]) rfl rfl rfl (by simp) (by simp) (bO.refl _ _ γ.o w) (Ow.nil _ _ _ _ _) (λx hx=>by simp at hx<;>omega)⟩ (λ_ _ h=>h)
 |some a=>refine CW.cond (b:=ai) rfl (λh=>nomatch h) (λ_=>?_);refine CW.skip ?_;refine ix _ _ ?_;refine CW.sr λK5 lB=>?_;refine WL.step (OW.buildSlice (o:=γ.o) (k:=1000) (K:=[]) (xs:=([]:List (D 9))) FZ.1 hT rfl trivial rfl rfl) rfl ?_;rintro v1 w1 ⟨o1,kq,h1⟩;have g0:=g0.Bn kq rfl;refine WL.p (.slice (aa a) m q) rfl rfl ?_;refine WL.step (OW.append (K:=[]) FZ.1 hT rfl rfl h1 (@fB.flat (D 9) _ awZ _ _ _ _ _ g0.de) hr rfl) rfl ?_;rintro v2 w2 ⟨o2,mF,h2⟩;refine WL.p v2 rfl rfl ?_;refine WL.nx lB ?_;exact CW.mn (vs:=[v2]) results85 ⟨rfl,trivial⟩ ⟨_,rfl,qF (n:=9) (e:=140) (q:=1000) (K:=[]) (M:=[1000]) (N:=[1000]) rfl rfl rfl (by simp) (by simp) ((kq.weaken (by simp) (by simp)).trans mF) h2 (λx hx=>by simp at hx<;>omega)⟩ (λ_ _ h=>h)
def uU(a0:List Int):Option (List Int):=bF [] a0
def Iw:az D:=⟨86,fi,fi,oY,[],jk,oZ,λh=>uU h⟩
def Oc:CK Iw:=by
 refine⟨call86,rfl,rfl,rfl,rfl,λoc r0 mz fj eO has nF γ w vs hv _=>?_⟩;cases has;match vs,hv with
 |[],hv=>exact hv.elim
 |_::_::_,hv=>exact hv.2.elim
 |[v],hv=>
 obtain⟨xs,eF⟩:∃xs:List (D 0),xs=oc:=⟨_,rfl⟩;obtain⟨r,jo⟩:∃r:List (D 0),r=r0:=⟨_,rfl⟩;have g0:Rv (In γ.o [0]) w v xs:=by rw[eF];exact hv.1.1
 have hr:bF ([]:List (D 0)) xs=aa r:=by rw[eF,jo];exact mz
 subst jo;have hT:=F1.2;refine enter (l:=[v]) func86 rfl ntmps86 rfl ?_;refine CW.sub (L':=[(0,v)]) ⟨rfl,trivial⟩ ?_;refine CW.sr λK1 gY=>?_;refine WL.p (.slice none 0 0) rfl rfl ?_;refine WL.nx gY ?_;refine CW.seq λK2 ix=>?_;refine CW.sr λK3 l8=>?_;refine WL.p v rfl rfl ?_;obtain⟨a,m,q,rfl,hn⟩:=zI g0;refine WL.lT (OW.isNil F1.1 rfl) rfl ?_;refine WL.nx l8 ?_;cases a with
 |none=>refine CW.cond (b:=ab) rfl (λ_=>?_) (λh=>nomatch h);refine CW.sr λK4 nN=>?_;refine WL.p (.slice none 0 0) rfl rfl ?_;refine WL.nx nN ?_;rw[hn rfl]at hr;obtain rfl:=BL hr;exact CW.mn (vs:=[.slice none 0 0]) results86 ⟨rfl,trivial⟩ ⟨_,rfl,qF (n:=0) (e:=3) (q:=1000) (K:=[]) (M:=[]) (N:=[]) rfl rfl rfl (by simp) (by simp) (bO.refl _ _ γ.o w) (Ow.nil _ _ _ _ _) (λx hx=>by simp at hx<;>omega)⟩ (λ_ _ h=>h)
 |some a=>refine CW.cond (b:=ai) rfl (λh=>nomatch h) (λ_=>?_);refine CW.skip ?_;refine ix _ _ ?_;refine CW.sr λK5 lB=>?_;refine WL.step (OW.buildSlice (o:=γ.o) (k:=1000) (K:=[]) (xs:=([]:List (D 0))) F1.1 hT rfl trivial rfl rfl) rfl ?_;rintro v1 w1 ⟨o1,kq,h1⟩;have g0:=g0.Bn kq rfl;refine WL.p (.slice (aa a) m q) rfl rfl ?_;refine WL.step (OW.append (K:=[]) F1.1 hT rfl rfl h1 (@fB.flat (D 0) _ aw4 _ _ _ _ _ g0.de) hr rfl) rfl ?_;rintro v2 w2 ⟨o2,mF,h2⟩;refine WL.p v2 rfl rfl ?_;refine WL.nx lB ?_;exact CW.mn (vs:=[v2]) results86 ⟨rfl,trivial⟩ ⟨_,rfl,qF (n:=0) (e:=3) (q:=1000) (K:=[]) (M:=[1000]) (N:=[1000]) rfl rfl rfl (by simp) (by simp) ((kq.weaken (by simp) (by simp)).trans mF) h2 (λx hx=>by simp at hx<;>omega)⟩ (λ_ _ h=>h)
def zF(a0:List Part):Option (List Part):=bF [] a0
def Iy:az D:=⟨69,ia,ia,oY,[],jk,mJ,λh=>zF h⟩
def Wd:CK Iy:=by
 refine⟨call69,rfl,rfl,rfl,rfl,λoc r0 mz fj eO has nF γ w vs hv _=>?_⟩;cases has;match vs,hv with
 |[],hv=>exact hv.elim
 |_::_::_,hv=>exact hv.2.elim
 |[v],hv=>
 obtain⟨xs,eF⟩:∃xs:List (D 10),xs=oc:=⟨_,rfl⟩;obtain⟨r,jo⟩:∃r:List (D 10),r=r0:=⟨_,rfl⟩;have g0:Rv (In γ.o [0]) w v xs:=by rw[eF];exact hv.1.1
 have hr:bF ([]:List (D 10)) xs=aa r:=by rw[eF,jo];exact mz
 subst jo;have hT:=ww.2;refine enter (l:=[v]) func69 rfl ntmps69 rfl ?_;refine CW.sub (L':=[(0,v)]) ⟨rfl,trivial⟩ ?_;refine CW.sr λK1 gY=>?_;refine WL.p (.slice none 0 0) rfl rfl ?_;refine WL.nx gY ?_;refine CW.seq λK2 ix=>?_;refine CW.sr λK3 l8=>?_;refine WL.p v rfl rfl ?_;obtain⟨a,m,q,rfl,hn⟩:=zI g0;refine WL.lT (OW.isNil ww.1 rfl) rfl ?_;refine WL.nx l8 ?_;cases a with
 |none=>refine CW.cond (b:=ab) rfl (λ_=>?_) (λh=>nomatch h);refine CW.sr λK4 nN=>?_;refine WL.p (.slice none 0 0) rfl rfl ?_;refine WL.nx nN ?_;rw[hn rfl]at hr;obtain rfl:=BL hr;exact CW.mn (vs:=[.slice none 0 0]) results69 ⟨rfl,trivial⟩ ⟨_,rfl,qF (n:=10) (e:=79) (q:=1000) (K:=[]) (M:=[]) (N:=[]) rfl rfl rfl (by simp) (by simp) (bO.refl _ _ γ.o w) (Ow.nil _ _ _ _ _) (λx hx=>by simp at hx<;>omega)⟩ (λ_ _ h=>h)
 |some a=>refine CW.cond (b:=ai) rfl (λh=>nomatch h) (λ_=>?_);refine CW.skip ?_;refine ix _ _ ?_;refine CW.sr λK5 lB=>?_;refine WL.step (OW.buildSlice (o:=γ.o) (k:=1000) (K:=[]) (xs:=([]:List (D 10))) ww.1 hT rfl trivial rfl rfl) rfl ?_;rintro v1 w1 ⟨o1,kq,h1⟩;have g0:=g0.Bn kq rfl;refine WL.p (.slice (aa a) m q) rfl rfl ?_;refine WL.step (OW.append (K:=[]) ww.1 hT rfl rfl h1 (@fB.flat (D 10) _ U6 _ _ _ _ _ g0.de) hr rfl) rfl ?_;rintro v2 w2 ⟨o2,mF,h2⟩;refine WL.p v2 rfl rfl ?_;refine WL.nx lB ?_;exact CW.mn (vs:=[v2]) results69 ⟨rfl,trivial⟩ ⟨_,rfl,qF (n:=10) (e:=79) (q:=1000) (K:=[]) (M:=[1000]) (N:=[1000]) rfl rfl rfl (by simp) (by simp) ((kq.weaken (by simp) (by simp)).trans mF) h2 (λx hx=>by simp at hx<;>omega)⟩ (λ_ _ h=>h)
def ra(a0:aw):Option (oe):=(Ga a0.aF).bind λx1=>(Gb a0.aj).bind λx2=>(uU a0.aW).bind λx3=>(zF a0.aR).bind λx4=>aa (x1,x2,x3,x4)
def vO:az D:=⟨108,FE,FE,[.agg [bZ,bT,bK,bW]],[],Qd,PZ,λh=>ra ⟨h.1,h.2.1,h.2.2.1,h.2.2.2⟩⟩
def xk:CK vO:=fo [Iy,V_,V9,Iw] [.cell 2 65] .o ⟨Wd,afs,afr,Oc,q0⟩ func108
def IN(x1:List Int):Int×List Int->Option (Int×List Int⊕List Int):=λx2=>if ak (x2.1<len x1)=ab then(idx x2.2 x2.1).bind λx3=>(idx x2.2 x2.1).bind λx4=>(df x2.2 x2.1 x2.1).bind λx5=>aa (.inl (W (x2.1+1),x5))else aa (.inr x2.2)
def IL(a0:au)(a1:aw):Int×List Int->Option (Int×List Int⊕List Int):=λx8=>if ak (x8.1<len a0.ae)=ab then(idx a0.ae x8.1).bind λx9=>(if(x9.Kind==1)=ab then(idx a1.aF x8.1).bind aa else aa ai).bind λbo=>(if bo=ab then(idx x8.2 x9.A).bind λbJ=>(idx x8.2 x9.B).bind λcp=>(idx x8.2 x9.A).bind λcF=>(idx x8.2 x9.A).bind λcu=>(df x8.2 x9.A (eu bJ cp)).bind λcM=>(idx cM x9.B).bind λdD=>(idx cM x9.B).bind λda=>(df cM x9.B (eu bJ cp)).bind aa else aa x8.2).bind λfe=>aa (.inl (W (x8.1+1),fe))else aa (.inr x8.2)
def IM(a0:au)(a1:aw)(x6:List Int):Int×List Int->Option (Int×List Int⊕List Int):=λx7=>if ak (x7.1<len x6)=ab then(aI (IL a0 a1) (0,x7.2)).bind λfZ=>aa (.inl (W (x7.1+1),fZ))else aa (.inr x7.2)
def ON(a0:au)(a1:aw):Option (List Int):=(mu 0 a0.aA).bind λx1=>(aI (IN x1) (0,x1)).bind λx6=>(aI (IM a0 a1 x6) (0,x6)).bind aa
def aie:az D:=⟨173,tu,fi,uL,[],jk,oZ,λh=>let g:=h.2.2.2.2.2.2;ON (qb h) ⟨g.1,g.2.1,g.2.2.1,g.2.2.2⟩⟩
def aAS:CK aie:=fo [] [.tmp 4] (qn (qw (qw (.loop ⟨kG,[(15,aN)],[(2640,.sl 0 3 1 [])],[2640],3344⟩ ab [(.exit 0,⟨fi,[],[(2640,.sl 0 3 0 [])],[2640],3344⟩)] .o) .o) (qm (qw (.loop ⟨kG,[(25,aN)],[(2640,.sl 0 3 1 [])],[2640],3793⟩ ab [(.exit 2,⟨fi,[],[(2640,.sl 0 3 0 [])],[2640],3793⟩)] (qn (qw (qm (qw (.loop ⟨kG,[(30,aN)],[(2640,.sl 0 3 1 [])],[2640],4499⟩ ab [(.exit 4,⟨fi,[],[(2640,.sl 0 3 0 [])],[2640],4499⟩)] (qn (qw (qm (qw (qr ⟨[.lf .bool],[(39,qa),(40,qa),(41,qa),(42,qa),(43,qa),(44,aN)],[],[],5461⟩) (qp ⟨fi,[],[(2640,.sl 0 3 0 [])],[2640],5526⟩ .o .o)) .o) .o))) .o) .o) .o))) .o) .o))) trivial func173
def EN(a0:au)(a1:aw)(a2:Int)(a3:Int):Int->Option (Int⊕Unit⊕Int×Bool):=λx1=>if ak (x1<len a0.ae)=ab then(idx a0.ae x1).bind λx2=>(if(x2.Kind==a2)=ab then if(x2.B==a3)=ab then(idx a1.aF x1).bind aa else aa ai else aa ai).bind λx4=>if x4=ab then aa (.inr (.inr (x2.A,ab)))else aa (.inl (W (x1+1)))else aa (.inr (.inl ()))
def IK(a0:au)(a1:aw)(a2:Int)(a3:Int):Option (Int×Bool):=(aI (EN a0 a1 a2 a3) 0).bind λx5=>dk (λx6=>aa (0,ai)) (aa) x5
def Wy:az D:=⟨227,Jw,uK,Yi,[],fu,[],λh=>let g:=h.2.2.2.2.2.2;IK (qb h) ⟨g.1,g.2.1,g.2.2.1,g.2.2.2.1⟩ g.2.2.2.2.1 g.2.2.2.2.2⟩
def ahp:CK Wy:=fo [] [.tmp 8,.tmp 9] (qw (qw (.loop ⟨z8,[(15,aN)],[],[],3088⟩ ai [(.exit 0,⟨[],[],[],[],3088⟩)] (qn (qw (qm (qw (qr ⟨[.lf .bool],[(25,qa),(26,qa),(27,qa),(28,qa),(31,qa),(32,qa),(33,qa),(34,qa),(35,qa),(36,aN)],[],[],4049⟩) .o) .o) .o))) .o) .o) trivial func227
def IQ(a0:au)(a1:aw)(a2:Int):Option (Int×Bool):=((jH a2 0 (W (len a1.aj-1))).bind λx1=>if(!x1)=ab then aa ab else(idx a1.aj a2).bind λx2=>aa (x2.State !=2)).bind λx3=>if x3=ab then aa (0,ai)else(IK a0 a1 2 a2).bind aa
def WK:az D:=⟨174,z1,uK,z4,[],fu,[],λh=>let g:=h.2.2.2.2.2.2;IQ (qb h) ⟨g.1,g.2.1,g.2.2.1,g.2.2.2.1⟩ g.2.2.2.2⟩
def aid:CK WK:=fo [xj,Wy] [.tmp 6,.tmp 7] (qw (qm (qt 23 2576) .o) .o) ⟨yW,ahp,q0⟩ func174
def IP(a0:au)(a1:aw)(a2:Int):Option (Int×Bool):=(IK a0 a1 3 a2).bind aa
def WJ:az D:=⟨175,z1,uK,z4,[],fu,[],λh=>let g:=h.2.2.2.2.2.2;IP (qb h) ⟨g.1,g.2.1,g.2.2.1,g.2.2.2.1⟩ g.2.2.2.2⟩
def aic:CK WJ:=fo [Wy] [.tmp 6,.tmp 7] .o ⟨ahp,q0⟩ func175
def IV(a0:bt):Option (Bool):=aa (len a0.aA==0)
def WI:az D:=⟨177,[aL,aL,aL],[.lf .bool],Jx,[],z5,[],λh=>IV ⟨h.1,h.2.1,h.2.2⟩⟩
def aia:CK WI:=fo [] [.tmp 2] .o trivial func177
def CI(a0:List bt):Int->Option (Int⊕Unit⊕Int):=λx1=>if ak (x1<len a0)=ab then(idx a0 x1).bind λx2=>(IV x2).bind λx3=>if x3=ab then aa (.inr (.inr x1))else aa (.inl (W (x1+1)))else aa (.inr (.inl ()))
def Q6(a0:List bt):Option (Int):=(aI (CI a0) 0).bind λx4=>dk (λx5=>aa (-1)) (aa) x4
def aho:az D:=⟨228,r_,z8,[.one (bZ),.one (.fn 177 [])],[],z5,[],λh=>Q6 h⟩
def aAc:CK aho:=fo [WI] [.tmp 4] z3 ⟨aia,q0⟩ func228
