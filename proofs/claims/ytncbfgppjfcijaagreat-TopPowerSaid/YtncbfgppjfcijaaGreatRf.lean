import Derived.RangeFuncSeq
import Derived.RangeFuncRecord
import Derived.Test.YtncbfgppjfcijaaGreatRo
set_option linter.unusedVariables false
set_option linter.unusedSimpArgs false
set_option linter.unusedSectionVars false
open Array renaming getElem?_eq_some_iff→aq5,getElem?_setIfInBounds→ar2
open Bool renaming and_eq_true→aqL,false_eq_true→aqG
open List renaming all_eq_true→aq0,mem_append→aqP,mem_cons→aqR,mem_map→aqX,mem_singleton→aq1,not_mem_nil→arc
open Nat renaming beq→aqH,ble→aq2,blt→aqZ,eq_of_beq_eq_true→aqK,le_of_ble_eq_true→aqT,le_refl→aqM,le_trans→aq',lt_of_lt_of_le→asb
open Option.some renaming inj→are
open Prod renaming fst→aqO
noncomputable section
namespace Go.Proofs.YtncbfgppjfcijaaGreat
open Go Go.RowKit Dp
namespace Rx
def R1(ts te ti tb ty:TypeId):Code:=
 .seq (.region 0 #[⟨some 4,.load ts (.tmp 1),ts, "iter.go:28", #[],none⟩,
    ⟨some 5,.call {callee:= .builtin .len,args:= #[.tmp 4],argTypes:= #[ts]},ti, "iter.go:28", #[⟨0,.data⟩],none⟩,
    ⟨some 6,.binOp .sub ti (.tmp 5) (.const (.int .i64 1)) ti,ti, "iter.go:28", #[⟨1,.data⟩],none⟩,
    ⟨some 3,.assign (.tmp 6),ti, "iter.go:28", #[⟨2,.data⟩,⟨0,.phase⟩,⟨1,.phase⟩,⟨2,.phase⟩],none⟩] false)
   (.block 0 (.loop (.seq
     (.seq (.region 1 #[⟨some 7,.move (.tmp 3),ti, "iter.go:28", #[],none⟩,
        ⟨some 8,.binOp .geq ti (.tmp 7) (.const (.int .i64 0)) ti,tb, "iter.go:28", #[⟨0,.data⟩],none⟩] false)
       (.cond (.tmp 8) .skip (.exit 0)))
     (.seq
       (.block 1 (.seq (.region 3 #[⟨some 11,.move (.tmp 0),ty, "iter.go:29", #[],none⟩,
          ⟨some 12,.move (.tmp 3),ti, "iter.go:29", #[],none⟩,
          ⟨some 13,.load ts (.tmp 1),ts, "iter.go:29", #[],none⟩,
          ⟨some 14,.move (.tmp 3),ti, "iter.go:29", #[],none⟩,
          ⟨some 15,.indexAddr ts (.tmp 13) (.tmp 14),0, "iter.go:29", #[⟨2,.data⟩,⟨3,.data⟩],none⟩,
          ⟨some 16,.load te (.tmp 15),te, "iter.go:29", #[⟨4,.data⟩],none⟩,
          ⟨some 17,.call {callee:= .value (.tmp 11),args:= #[.tmp 12,.tmp 16],argTypes:= #[ti,te]},tb, "iter.go:29", #[⟨0,.data⟩,⟨1,.data⟩,⟨5,.data⟩],none⟩,
          ⟨some 18,.unOp .not tb (.tmp 17),tb, "iter.go:29", #[⟨6,.data⟩],none⟩] false)
         (.cond (.tmp 18) .ret .skip)))
       (.region 2 #[⟨some 9,.move (.tmp 3),ti, "iter.go:28", #[],none⟩,
         ⟨some 10,.binOp .sub ti (.tmp 9) (.const (.int .i64 1)) ti,ti, "iter.go:28", #[⟨0,.data⟩],none⟩,
         ⟨some 3,.assign (.tmp 10),ti, "iter.go:28", #[⟨1,.data⟩,⟨0,.phase⟩,⟨1,.phase⟩],none⟩] false)))))
section
variable {P:Program} {Q:Exit→Act→World→Prop} {L:List (Nat×Value)} {w:World} {n:Nat}
theorem OW.round [I:Rd]{o:Oper}{R:Value→World→Prop}(h:∀a,Reads L a→∃l f tmps assign body,(execOp a.eval o).run P w= .ok (.round l f tmps assign body) w∧RoundIn Fence.wide 0 P l f tmps assign body w (jT R)):OW P Q L o w R:=by
 intro a K ha hK
 obtain⟨l,f,tmps,assign,body,h1,h2⟩:=h a ha
 unfold Oper.wpIn
 rw[El h1 (fun _ h=>by cases h),Oper.uponIn_round]
 refine⟨fun f _=>trivial,fun h=>by simp[Rd.F,Fence.wide] at h, ?_⟩
 refine(h2:RoundIn Fence.wide 0 P l f tmps assign body w (jT R)).mono ?_
 rintro e w' ⟨v,rfl,hr⟩
 exact hK v w' hr
theorem OW.yield [I:Rd]{x:Operand}{args:List Operand}{vs:List Value}{l:Nat}{ats:Array TypeId}{d:Option Tmp}{ty:TypeId}{pos:String}{af:Array Edge}{g:Option (Nat×Bool)}{R:Value→World→Prop}(hx:ev L x=some (.func (.yield l) #[] #[]))(ha:lA L args=some vs)
  (hy:YieldAt Fence.wide 0 P l vs.toArray w (jT R)):OW P Q L ⟨d,.call {callee:= .value x,args:=args.toArray,argTypes:=ats},ty,pos,af,g⟩ w R:=by
 obtain⟨fn,tmps,assign,body,h1,h2⟩:=hy
 refine OW.round fun a hr=>⟨l,fn,tmps,assign,body, ?_,h2⟩
 have h3:args.toArray.map a.eval=vs.toArray:=by rw[←yf hr _ ha];simp
 simp[execOp,resolve,invoke,Deferred.ofValue,hr _ _ hx] at h3⊢
 rw[h3,h1]
def kOf:Option Value→Nat
 |some (.int _ i)=>(i+1).toNat
 |_=>0
def A6(a:Act):Nat:=kOf a.tmps[3]?
theorem Zu [I:Rd]{fn:Func}{R:Value→World→Prop}(oF:fn.results= #[]){L:List (Nat×Value)}(hI:I.ds=[]){w:World}(hR:∀v,R v w):NK n (bodyPost P fn (jT R) .ret) L w∧NK n (bodyPost P fn (jT R) .normal) L w:=by
 constructor
 · exact fun a ha=>bodyPost_ret (um (rs:=[]) (vs:=[]) (fun _ _ hx=>ha.ev hx) (by rw[oF]) trivial) (ha.defers.trans hI) ⟨_,rfl,hR _⟩
 · exact fun a ha=>bodyPost_end (um (rs:=[]) (vs:=[]) (fun _ _ hx=>ha.ev hx) (by rw[oF]) trivial) (ha.defers.trans hI) ⟨_,rfl,hR _⟩
theorem aeq{α:Type}[ab α]{gf:Nat}{fn:Func}{ts te ti tb ty:TypeId}{zs:List Value}{ze:List Value}(hf:P.funcs[gf]? =some fn)(hb:fn.body=some (R1 ts te ti tb ty))(Bq:fn.ntmps=19)(oF:fn.results= #[])
  (hu:P.underlying ts=some (.slice te)) (hT:bz P te α) (UU:bt P ts false zs) (eI:zs.length=1) (hTe:bt P te (ab.agg α) ze) (hze:ze.length=ab.sz α) (uI:ab.agg α=false→ze.length=1)
  {l b:Nat} {xs:List α} (Inv:Nat→World→Prop) (R:World→Prop)
  (hstep:∀k W,Inv k W→∃(S:Nat→Prop) (u:Value),gy W ⟨b,0,none⟩ [u]∧Rv S W u xs∧∀k' y cs,k=k'+1→xs[k']? =some y→ab.rd S W cs y→
    YieldAt Fence.wide 0 P l #[.int .i64 k',pack (ab.agg α) cs] W (jT fun v W'=>(v= .bool true∧Inv k' W')∨(v= .bool false∧R W')))
  (aix:∀W,Inv 0 W→R W) (h0:Inv xs.length w):Calls P gf #[.func (.yield l) #[] #[],dJ b 0] w (jT fun _ w'=>R w'):=by
 refine enter (n:=19) (l:=[.func (.yield l) #[] #[],dJ b 0]) hf hb Bq rfl ?_
 refine CW.seq fun K hK=> ?_
 obtain⟨S,u,h1,h2,_⟩:=hstep _ _ h0
 have hlen:xs.length≤maxLen:=by
  obtain⟨p,cap,rfl,e1,e2,_⟩:=om h2
  omega
 have hW:Dp.W ((xs.length:Int)-1)=(xs.length:Int)-1:=by
  unfold maxLen at hlen
  exact qe (by omega) (by omega)
 refine CW.region (WL.gC (OW.uy UU (fun _=>eI) rfl h1 (by rw[eI];rfl)) rfl ?_)
 refine WL.gC (OW.len hu rfl (by exact h2)) rfl ?_
 refine WL.v rfl rfl ?_
 refine WL.v rfl rfl ?_
 refine WL.nil (hK _ _ ?_)
 refine CW.block ?_
 intro a ha
 refine wpIn_loop (fun a w=>∃(k:Nat) (L:List (Nat×Value)),Fr 19 L a∧Dp.sub [(0,.func (.yield l) #[] #[]),(1,dJ b 0),(3,.int .i64 ((k:Int)-1))] L∧k≤xs.length∧Inv k w) (fun a _=>A6 a) ⟨xs.length,_,ha,⟨rfl,rfl,by rw[←hW];rfl,trivial⟩,aqM _,h0⟩ ?_
 rintro a w ⟨k,L,cG,Bl,mU,hinv⟩
 obtain⟨S,u,h1,h2,h3⟩:=hstep _ _ hinv
 have hka:A6 a=k:=by
  have:=cG.get 3 _ (Q1 Bl rfl)
  unfold A6
  rw[this]
  show((k:Int)-1+1).toNat=k
  omega
 rw[hka]
 obtain⟨K,U3⟩:∃K:Act→World→Prop,K=fun a' w'=>(∃(k:Nat) (L:List (Nat×Value)),Fr 19 L a'∧Dp.sub [(0,.func (.yield l) #[] #[]),(1,dJ b 0),(3,.int .i64 ((k:Int)-1))] L∧k≤xs.length∧Inv k w')∧A6 a'<k:=⟨_,rfl⟩
 rw[←U3]
 refine CW.sub Bl ?_ a cG
 refine CW.seq fun K1 fc=> ?_
 refine CW.seq fun K2 fU=> ?_
 refine CW.region (WL.v rfl rfl (WL.v rfl rfl ?_))
 refine WL.nil (fU _ _ ?_)
 refine CW.cond rfl (fun hc=>CW.skip (fc _ _ ?_)) (fun hc=>CW.exit ?_)
 · have cZ:0≤(k:Int)-1:=by simpa using hc
   obtain⟨k',rfl⟩:∃k',k=k'+1:=⟨k-1,by omega⟩
   have pQ:((k'+1:Nat):Int)-1=(k':Int):=by omega
   rw[pQ]
   have US:Dp.W ((k':Int)-1)=(k':Int)-1:=by
    unfold maxLen at hlen
    exact qe (by omega) (by omega)
   obtain⟨y,hy⟩:∃y,xs[k']? =some y:=⟨_,List.getElem?_eq_getElem (by omega)⟩
   refine CW.seq fun K3 iX=> ?_
   refine CW.block ?_
   refine CW.seq fun K4 jJ=> ?_
   refine CW.region (WL.v rfl rfl (WL.v rfl rfl ?_))
   refine WL.gC (OW.uy UU (fun _=>eI) rfl h1 (by rw[eI];rfl)) rfl ?_
   refine WL.v rfl rfl ?_
   refine WL.Jk (OW.indexAddr (y:=y) hu hT rfl h2 rfl (by unfold idx;simp[hy])) rfl ?_
   rintro v ⟨pa,rfl,⟨cs,eu,gG,hc3⟩,_⟩
   refine WL.gC (OW.uy hTe uI rfl hc3 (by rw[hze];exact ab.len eu)) rfl ?_
   refine WL.step (OW.yield rfl rfl (h3 k' y cs rfl hy eu)) rfl ?_
   rintro v w' (⟨rfl,hi⟩|⟨rfl,hr⟩)
   · refine WL.v rfl rfl (WL.nil (jJ _ _ ?_))
     refine CW.cond rfl (fun hc=>by cases hc) (fun _=>CW.skip (iX _ _ ?_))
     refine CW.region (WL.v rfl rfl (WL.v rfl rfl (WL.v rfl rfl (WL.nil ?_))))
     show NK 19 K _ w'
     rw[U3]
     intro a' eR
     refine⟨⟨k',_,eR,⟨rfl,rfl,(by show some (Value.int .i64 (Dp.W ((k':Int)-1)))=_;rw[US]),trivial⟩,by omega,hi⟩, ?_⟩
     have:=eR.get 3 _ rfl
     unfold A6
     rw[this]
     show(Dp.W ((k':Int)-1)+1).toNat<k'+1
     rw[US]
     omega
   · refine WL.v rfl rfl (WL.nil (jJ _ _ ?_))
     refine CW.cond rfl (fun _=> ?_) (fun hc=>by cases hc)
     intro a' eR
     exact wpIn_ret ((Zu (L:=_) oF rfl fun _=>hr).1 a' eR)
 · have lp:k=0:=by
    have:¬(0≤(k:Int)-1):=by simpa using hc
    omega
   subst lp
   intro a' eR
   show(if 0=0 then bodyPost P fn (jT fun _ w'=>R w') .normal a' w else bodyPost P fn (jT fun _ w'=>R w') (.exit 0) a' w)
   rw[if_pos rfl]
   exact(Zu (L:=_) oF rfl fun _=>aix _ hinv).2 a' eR
end
section
variable {D:Nat→Type}
def Oa(K:List Nat):List (DV D)→List (A1 D)
 |[]=>[]
 |⟨l,d⟩::r=> .v l d (uD K l) 0::Oa K r
def B8(wr:List Nat)(σ:S D):S D:={σ with sl:=σ.sl.filter fun p=> !(bp wr p.1)}
def Ev(T:aV D)(Φ:List (ar D))(n:Nat)(xs:List (D n))(K wr:List Nat)(p0 p1:Nat)(assign body:Code)(v5 vZ:An){ρ:Type}(σ:S D)(k:Out→S D→Option ρ):Option ρ:=match au σ.sl p0 with
 |some (.c (.one (.v (.int .i64) c _ _)))=>Cf (LL c 0) (k (.exit 0) (B8 wr σ)) (rY (idx xs c) fun y=>match qG (T.ag n) (Oa K (T.out n y)) with
  |some a=>eK T Φ assign v5 {σ with sl:=(p1,a)::σ.sl} fun o σ1=>match o with
   | .normal=>eK T Φ body vZ σ1 fun o bc=>match o with
     | .normal=>k .normal {bc with sl:=(p0,iv .i64 (sj c 1) 0)::bc.sl}
     | .ret=>k .ret (B8 wr bc)
     |_=>none
   |_=>none
  |none=>none)
 |_=>none
def ol(p0 p1:Nat)(assign body:Code):List Nat:=p0::p1::(writes assign++writes body)
def Aq(c:Code):Bool:=gE c&&jB c&&gF c
def EM(T:aV D)(Φ:List (ar D))(Bk:List (Nat×Nat))(g p0 p1:Nat)(assign body:Code)(j:J)(pr:Bool)(E:List (Out×J))(v5 vZ:An){ρ:Type}(σ:S D)(k:Out→S D→Option ρ):Option ρ:=match au σ.sl g with
 |some (.c (.one (.fn f fJ)))=>match fJ with
  |[.ptr i off]=>match au Bk f,cw σ.ob i with
   |some n,some (.box cs)=>match cs with
    |[.v (.sl n') xs K _]=>if aqH off 0&&aqH n n'&&bp ((kept σ (j.mv++pC E)).map aqO++σ.lk) i&& !(bp (ol p0 p1 assign body) g)&&j.sl.all (fun p=>aqH p.1 p0)&& !(aqH p0 p1)&&Aq assign&&Aq body then
       sd T (ol p0 p1 assign body) j pr E (fun σ k=>Ev T Φ n' xs K (ol p0 p1 assign body) p0 p1 assign body v5 vZ σ k) {σ with sl:=(p0,iv .i64 (sj (len xs) 1) 0)::σ.sl} fun o σ1=>match o with
        | .exit _=>k .normal σ1
        | .ret=>k .ret σ1
        |_=>none
     else none
    |_=>none
   |_,_=>none
  |_=>none
 |_=>none
def rP:Code→Option (Code×Nat×Nat×Nat×Nat×Code×Code)
 | .seq r (.block id (.rangeFunc (.tmp g) ps assign body))=>match ps.toList with
   |[p0,p1]=>some (r,id,g,p0,p1,assign,body)
   |_=>none
 |_=>none
def RJ:An→Option (J×Bool×List (Out×J)×An)
 | .loop j pr E x=>some (j,pr,E,x)
 |_=>none
def Cb(T:aV D)(Φ:List (ar D))(Bk:List (Nat×Nat)):Code→An→∀{ρ:Type},S D→(Out→S D→Option ρ)→Option ρ
 | .seq a b,an,_,σ,k=>match rP (.seq a b) with
   |some (r,id,g,p0,p1,assign,body)=>match RJ an.b with
    |some (j,pr,E,x)=>lu an.a.fz σ fun σ=>eK T Φ r an.a.un σ fun o σ1=>match o with
     | .normal=>EM T Φ Bk g p0 p1 assign body j pr E x.a x.b σ1 k
     |o=>k o σ1
    |none=>none
   |none=>match rP a with
   |some (r,id,g,p0,p1,assign,body)=>match RJ an.a.b with
    |some (j,pr,E,x)=>lu an.a.a.fz σ fun σ=>eK T Φ r an.a.a.un σ fun o σ1=>match o with
     | .normal=>EM T Φ Bk g p0 p1 assign body j pr E x.a x.b σ1 fun o bc=>match o with
       | .normal=>eK T Φ b an.b bc k
       |o=>k o bc
     |o=>k o σ1
    |none=>none
   |none=>lu an.a.fz σ fun σ=>eK T Φ a an.a.un σ fun o σ1=>match o with
    | .normal=>Cb T Φ Bk b an.b σ1 k
    |o=>k o σ1
 |_,_,_,_,_=>none
def E0:Code→Bool
 | .seq a b=>(match rP (.seq a b) with
   |some x=>gE x.1&&jB x.1
   |none=>match rP a with
   |some x=>gE x.1&&jB x.1&&gE b&&jB b
   |none=>gE a&&jB a&&E0 b)
 |_=>true
def J7(T:aV D)(Φ:List (ar D))(Bk:List (Nat×Nat))(c:ar D)(rs:List ResultVar)(code:Code)(an:An)(h:HH D c.ins):Option (HH D c.outs):=match E0 code with
 |true=>match yi T c h with
  |some σ=>lu an.fz σ fun σ=>Cb T Φ Bk code an.un σ (rQ T c rs)
  |none=>none
 |false=>none
end
section
variable {D:Nat→Type} [∀n,ab (D n)]
variable {P:Program} {T:aV D} {Φ:List (ar D)} {n:Nat}
variable {γ γ' wb:Gh D} {w w' pi:World} {Z:List Nat}
structure ir(Z:List Nat)(γ:Gh D)(w:World)(γ':Gh D)(w':World):Prop where
 os:w'.os=w.os
 tape:w'.tape=w.tape
 output:w'.output=w.output
 size:w.heap.size≤w'.heap.size
 ro:∀b,b∉Z→b<w.heap.size→(γ.o b=0∨γ.o b=3)→γ'.o b=γ.o b∧w'.heap[b]? =w.heap[b]?
 back:∀b,b∉Z→b<w'.heap.size→(γ'.o b=0∨γ'.o b=3)→b<w.heap.size∧γ.o b=γ'.o b
 gk:∀i,i<2000→γ'.g i=γ.g i
theorem ir.of(h:Rx.Frame γ w γ' w'):ir Z γ w γ' w':=⟨h.os,h.tape,h.output,h.size,fun b _=>h.ro b,fun b _=>h.back b,h.gk⟩
theorem ir.trans(h:ir Z γ w γ' w')(k:ir Z γ' w' wb pi):ir Z γ w wb pi:=by
 refine⟨k.os.trans h.os,k.tape.trans h.tape,k.output.trans h.output,aq' h.size k.size,fun b hz hb hc=> ?_,fun b hz hb hc=> ?_,fun i hi=>(k.gk i hi).trans (h.gk i hi)⟩
 · obtain⟨h1,h2⟩:=h.ro b hz hb hc
   obtain⟨k1,k2⟩:=k.ro b hz (asb hb h.size) (by rw[h1];exact hc)
   exact⟨k1.trans h1,k2.trans h2⟩
 · obtain⟨k1,k2⟩:=k.back b hz hb hc
   obtain⟨h1,h2⟩:=h.back b hz k1 (by rw[k2];exact hc)
   exact⟨h1,h2.trans k2⟩
theorem ir.frame(h:ir Z γ w γ' w')(h1:∀b∈Z,w.heap.size≤b)(h2:∀b∈Z,γ'.o b=2):Rx.Frame γ w γ' w':=
 ⟨⟨h.os,h.tape,h.output,h.size,fun b hb hc=>h.ro b (fun hz=>by have:=h1 b hz;omega) hb hc,fun b hb hc=>h.back b (fun hz=>by rw[h2 b hz] at hc;omega) hb hc⟩,h.gk⟩
def iO(γ:Gh D)(Z:List Nat)(c:Nat):Gh D:=⟨fun b=>if b∈Z then c else γ.o b,γ.g,γ.v⟩
theorem jA{c b:Nat}(h:b∈Z):(iO γ Z c).o b=c:=by simp[iO,h]
theorem xf{c b:Nat}(h:b∉Z):(iO γ Z c).o b=γ.o b:=by simp[iO,h]
structure WZ(Z:List Nat)(w w':World):Prop where
 os:w'.os=w.os
 tape:w'.tape=w.tape
 output:w'.output=w.output
 size:w.heap.size≤w'.heap.size
 same:∀b,b∉Z→b<w.heap.size→w'.heap[b]? =w.heap[b]?
 new:∀b,b<w'.heap.size→b<w.heap.size∨b∈Z
theorem WZ.refl(Z:List Nat)(w:World):WZ Z w w:=⟨rfl,rfl,rfl,aqM _,fun _ _ _=>rfl,fun _ h=> .inl h⟩
theorem WZ.put{l:Nat}{o:Obj}(h:l∈Z):WZ Z w (w.putObj l o):=
 ⟨rfl,rfl,rfl,by simp,fun b hb _=>World.putObj_heap_other fun e=>hb (e▸h),fun b hb=> .inl (by simpa using hb)⟩
theorem ir.wz{c:Nat}(h:WZ Z w w'):ir Z γ w (iO γ Z c) w':=
 ⟨h.os,h.tape,h.output,h.size,fun b hz hb _=>⟨xf hz,h.same b hz hb⟩,fun b hz hb _=>⟨(h.new b hb).resolve_right hz,(xf hz).symm⟩,fun _ _=>rfl⟩
theorem Kn.wz{σ:S D}{L:List (Nat×Value)}{c:Nat}(hk:Kn σ γ w L)(hc:c=2∨c=3)(hZ:∀b∈Z,b<w.heap.size→γ.o b=2∨γ.o b=3)(h:WZ Z w w'):Kn σ (iO γ Z c) w' L:=by
 have eb:fA (fun i=>i<σ.nx) (fun i=>i<σ.nx) γ w (iO γ Z c) w':=⟨fun _ h=>h,fun _ _=>rfl,fun _ _=>rfl,fun b hb aK=>by
  have hz:b∉Z:=fun hz=>by have:=hZ b hz hb;omega
  exact⟨xf hz,h.same b hz hb⟩⟩
 refine⟨hk.sr.cj eb,⟨fun i x hx=> ?_,fun b hb=> ?_,hk.ob.ro⟩,hk.bR⟩
 · obtain⟨h1,h2,h3⟩:=hk.ob.ob i x hx
   refine⟨h1,h2,h3.cj eb h2 fun b hb F9=> ?_⟩
   have hz:b∉Z:=fun hz=>by have:=hZ b hz hb;omega
   exact⟨xf hz,h.same b hz hb⟩
 · have:=hk.bR
   by_cases hz:b∈Z
   · rw[jA hz]
     show c<σ.nx
     omega
   · rw[xf hz]
     exact hk.ob.cl b ((h.new b hb).resolve_right hz)
def iZ(a:Act):List (Nat×Value):=oZ 0 a.tmps.toList
theorem SQ:∀(l:List Value) (k t:Nat) (v:Value),k≤t→l[t-k]? =some v→Dp.look (oZ k l) t=some v
 |[],k,t,v,_,h=>by simp at h
 |u::r,k,t,v,hk,h=>by
  unfold oZ
  by_cases Uf:k=t
  · subst Uf
    rw[mK]
    simpa using h
  · rw[k7 _ _ Uf]
    refine SQ r (k+1) t v (by omega) ?_
    rw[show t-k=(t-(k+1))+1 by omega] at h
    simpa using h
theorem A2{a:Act}{t:Nat}{v:Value}:Dp.look (iZ a) t=some v↔a.tmps[t]? =some v:=by
 constructor
 · intro h
   obtain⟨_,h2⟩:=Li _ _ _ _ h
   simpa using h2
 · intro h
   exact SQ _ _ _ _ (Nat.zero_le _) (by simpa using h)
theorem Kn.all [Rd]{σ:S D}{L:List (Nat×Value)}{a:Act}(h:Kn σ γ w L)(ha:Fr n L a):Kn σ γ w (iZ a):=
 ⟨fun t x hx=>by
   obtain⟨v,h1,h2⟩:=h.sr t x hx
   exact⟨v,A2.2 (ha.get t v h1),h2⟩,h.ob,h.bR⟩
theorem ajS [Rd]{L:List (Nat×Value)}{a:Act}(ha:Fr n L a):Fr n (iZ a) a:=⟨ha.size,ha.defers,fun t v h=>A2.1 h,ha.fix⟩
theorem Tq{j:J}{wr mv:List Nat}{σ bc:S D}{h:HH D j.bZ}(hi:k9 T j wr mv σ h=some bc){t:Nat}{a:AV D}(ht:au bc.sl t=some a):(t∈j.sl.map aqO∧t∈wr)∨t∉wr:=by
 unfold k9 at hi
 dsimp only at hi
 split at hi
 case isFalse=>cases hi
 rename_i hc
 split at hi
 case h_2=>cases hi
 rename_i sa sb mR Ma
 cases hi
 simp only[aqL,aq0] at hc
 simp only at ht
 rw[gX] at ht
 cases hl:au sa t with
 |some x=>
  unfold lQ at mR
  split at mR
  case h_2=>cases mR
  cases mR
  have hk:=ID hl
  obtain⟨q,hq,e⟩:=aqX.1 hk
  exact .inl ⟨hk,e▸dK.1 (hc.1.2 q hq)⟩
 |none=>
  rw[hl] at ht
  right
  intro hw
  have:=ux (f:=fun t=> !(bp wr t)) (l:=σ.sl) (t:=t)
  rw[dK.2 hw] at this
  simp only[Bool.not_true,aqG,if_false] at this
  simp only at ht
  rw[this] at ht
  cases ht
theorem akC{j:J}{σ:S D}{h:HH D j.bZ}(hx:wa T j σ h){t:Nat}(ht:t∈j.sl.map aqO):∃a,au σ.sl t=some a:=by
 obtain⟨dA,l,m,ha,_⟩:=hx.ex
 have key:∀{js:List (Nat×PC)} {dA:List (AV D)},vU σ.sl js=some dA→t∈js.map aqO→∃a,au σ.sl t=some a:=by
  intro js
  induction js with
  |nil=>intro dA _ h;simp at h
  |cons q js ih=>
   intro dA h hm
   obtain⟨t0,p⟩:=q
   simp only[vU] at h
   split at h
   case h_2=>cases h
   rename_i x y h1 h2
   simp only[List.map_cons,aqR] at hm
   rcases hm with rfl|hm
   · exact⟨x,h1⟩
   · exact ih h2 hm
 exact key ha ht
theorem B7{wr:List Nat}{σ:S D}{t:Nat}:au (B8 wr σ).sl t=if t∈wr then none else au σ.sl t:=by
 have:=ux (f:=fun t=> !(bp wr t)) (l:=σ.sl) (t:=t)
 unfold B8
 simp only
 rw[this]
 by_cases h:t∈wr
 · rw[dK.2 h];simp[h]
 · have:bp wr t=false:=by
    cases hm:bp wr t with
    |true=>exact(h (dK.1 hm)).elim
    |false=>rfl
   rw[this];simp[h]
theorem V4{U:Nat→Prop}{K:List Nat}(hK:cT K):∀{ds:List (DV D)} {us:List Value},bK (In γ.o K) w us ds→bX U γ w (Oa K ds) us
 |[],[],_=>trivial
 |⟨lf,x⟩::ds,u::us,h=>by
  refine⟨⟨?_,.inl rfl, ?_⟩,V4 hK h.2⟩
  · have h1:=h.1
    cases lf with
    |sl m=>exact h1
    |_=>exact h1
  · cases lf with
    |sl m=>exact hK
    |_=>exact fun _ h=>by cases h
 |[],_::_,h=>h.elim
 |_::_,[],h=>h.elim
theorem Kn.drop{σ:S D}{L:List (Nat×Value)}(h:Kn σ γ w L)(wr:List Nat):Kn (B8 wr σ) γ w L:=
 ⟨fun t x hx=>by
   rw[B7] at hx
   split at hx
   · cases hx
   · exact h.sr t x hx,h.ob,h.bR⟩
theorem Kn.RU{σ:S D}{L L':List (Nat×Value)}(h:Kn σ γ w L)(hs:∀t x v,au σ.sl t=some x→Dp.look L t=some v→Dp.look L' t=some v):Kn σ γ w L':=
 ⟨fun t x hx=>by
   obtain⟨v,h1,h2⟩:=h.sr t x hx
   exact⟨v,hs t x v hx h1,h2⟩,h.ob,h.bR⟩
theorem Fp{σ ρ:Type}{step:σ→Option (σ⊕ρ)}{N:Nat}{s:σ}{r:ρ}(h:k6 step N s=some r):∃N' y,N=N'+1∧step s=some y∧((∃s',y= .inl s'∧k6 step N' s'=some r)∨y= .inr r):=by
 cases N with
 |zero=>cases h
 |succ N'=>
  rw[SM] at h
  cases hs:step s with
  |none=>rw[hs] at h;cases h
  |some y=>
   rw[hs] at h
   cases y with
   |inl s'=>exact⟨N',_,rfl,rfl,.inl ⟨s',rfl,h⟩⟩
   |inr r'=>cases h;exact⟨N',_,rfl,rfl,.inr rfl⟩
theorem aeO{U:Nat→Prop}{g:Bool}{cs:List (A1 D)}{us:List Value}{x:AV D}(h:bX U γ w cs us)(hx:qG g cs=some x):eM U γ w x (pack g us):=by
 unfold qG at hx
 cases g with
 |true=>cases hx;exact⟨us,rfl,h⟩
 |false=>
  simp only[aqG,if_false] at hx
  match cs,us,h,hx with
  |[c],[u],h,hx=>cases hx;exact h.1
  |[],[],_,hx=>cases hx
  |c::c'::r,_,_,hx=>cases hx
def C7(P:Program)(T:aV D)(q:Nat×Nat):Prop:=∃(fn:Func) (ts te ti tb ty:TypeId) (cd:g_),aqZ q.1 1000000=true∧(∀(args:Array Value) (w:World),(callFunc q.1 args).run P w= .ok (.enter q.1 args) w)∧P.funcs[q.1]? =some fn∧fn.body=some (R1 ts te ti tb ty)∧fn.ntmps=19∧fn.results= #[]∧
 au T.bS ts=some (te,q.2)∧au T.ty ts=some (.one (.sl q.2))∧au T.ty te=some cd∧cd.agg=T.ag q.2∧cd.n T=(T.lv q.2).length
def mark(b:Nat):Deferred:={target:= .collected b,args:= #[]}
@[reducible] def Rd.mn (b:Nat):Rd:=⟨none,[mark b],fun _=>none⟩
theorem R2(hP:dh P T)(hR:bQ T)(cE:∀c∈Φ,ff P T c)(hm:P.follows .mixedOrders=true){Bk:List (Nat×Nat)}(hB:∀q∈Bk,C7 P T q){id g p0 p1:Nat}{assign body:Code}{j:J}{pr:Bool}{E:List (Out×J)}{v5 vZ:An}{ρ:Type}{σ:S D}{k:Out→S D→Option ρ}{r:ρ}{γ:Gh D}{w:World}{L:List (Nat×Value)}{Q:Exit→Act→World→Prop}
  (h:EM T Φ Bk g p0 p1 assign body j pr E v5 vZ σ k=some r) (hk:Kn σ γ w L) (hd:∀t∈ol p0 p1 assign body,aqZ t n=true)
  (hc:∀b o σ1 aF w1 L1,Kn σ1 aF w1 L1→Rx.Frame γ w aF w1→w.heap.size≤b→b<w1.heap.size→aF.o b=2→w1.heap[b]? =some (.deferred (some []))→k o σ1=some r→o= .normal∨o= .ret→∀a1,@Fr (Rd.mn b) n L1 a1→Q (toX o) a1 w1):
  CW P n (.block id (.rangeFunc (.tmp g) #[p0,p1] assign body)) Q L w:=by
 intro a ha
 refine wpIn_block (wpIn_rangeFunc fun Vi _=> ?_)
 unfold EM at h
 split at h
 case h_2=>cases h
 rename_i f fJ hg
 split at h
 case h_2=>cases h
 rename_i i off
 split at h
 case h_2=>cases h
 rename_i nn cs sL bb
 split at h
 case h_2=>cases h
 rename_i n' xs K gx
 split at h
 case isFalse=>cases h
 rename_i qZ
 obtain⟨wr,Bh⟩:∃wr,wr=ol p0 p1 assign body:=⟨_,rfl⟩
 rw[←Bh] at h qZ hd
 simp only[aqL,Bool.not_eq_true'] at qZ
 obtain⟨⟨⟨⟨⟨⟨⟨c1,c2⟩,c3⟩,c4⟩,c5⟩,c6⟩,c7⟩,c8⟩:=qZ
 have c1:=aqK c1
 have c2:=aqK c2
 subst c1 c2
 have apS:p0≠p1:=fun e=>by subst e;simp at c6
 have MK:g∉wr:=kz c4
 have pM:p0∈wr:=by rw[Bh];unfold ol;simp
 have FM:p1∈wr:=by rw[Bh];unfold ol;simp
 have FX:=hk.all ha
 have ail:=ajS ha
 have F_:=ha.size
 obtain⟨gv,Up,GQ,Us,hgc⟩:=FX.sr g _ hg
 obtain⟨bv,M4,F9⟩:∃b,γ.g i=dJ b 0∧GQ=[dJ b 0]:=by
  match GQ,hgc with
  |[v],⟨⟨_,b,h1,h2⟩,_⟩=>exact⟨b,h1,by rw[h2]⟩
 subst F9
 obtain⟨fn,ts,te,ti,tb,ty,cd,b1,b2,b3,b4,b5,b6,b7,b8,b9,O6,ZA⟩:=hB (f,nn) (cz sL)
 dsimp only at b1 b2 b3 b7 b8 O6 ZA
 have aii:gv= .func (.func f) #[] #[dJ bv 0]:=by rw[Us];unfold p6;rw[if_pos b1]
 obtain⟨aI,Bb⟩:∃aI:S D,aI={σ with sl:=(p0,iv .i64 (sj (len xs) 1) 0)::σ.sl}:=⟨_,rfl⟩
 rw[←Bb] at h
 have bH:Kn aI γ w ((p0,.int .i64 (sj (len xs) 1))::iZ a):=by
  rw[Bb]
  exact⟨FX.sr.cons ⟨rfl,.inl rfl,fun _ h=>by cases h⟩,FX.ob,FX.bR⟩
 have ahP:aI.lk=σ.lk:=by rw[Bb]
 have xR:aI.ob=σ.ob:=by rw[Bb]
 unfold sd at h
 obtain⟨h0,j9,h⟩:=p9 h
 obtain⟨x,hx,hf⟩:=tx h
 clear h
 obtain⟨mv,Bt⟩:∃mv,mv=j.mv++pC E:=⟨_,rfl⟩
 rw[←Bt] at hx hf j9 c3
 obtain⟨lk,lm⟩:∃lk,lk=(kept aI mv).map aqO++aI.lk:=⟨_,rfl⟩
 rw[←lm] at hx j9
 have ke:i∈lk:=by
  rw[lm]
  unfold kept at c3⊢
  rw[xR,ahP]
  exact dK.1 c3
 obtain⟨uE,MB⟩:∃uE:Out→S D→Option ρ,uE=fun o σ1=>match o with
  | .exit _=>k .normal σ1
  | .ret=>k .ret σ1
  |_=>none:=⟨_,rfl⟩
 rw[←MB] at hf hx
 obtain⟨step,hstep,hx⟩:∃step:HH D j.bZ→Option (HH D j.bZ⊕nY D pr ρ E),(∀h y,step h=some y→∃ci,k9 T j wr mv aI h=some ci∧∃kk:Out→S D→Option (HH D j.bZ⊕nY D pr ρ E),(∀σ1,kk .normal σ1=rb T j σ1 fun h'=>some (.inl h'))∧
   (∀o σ1,o≠.normal→kk o σ1=match toE T pr E o σ1 (uE o {σ1 with lk:=aI.lk}) with
     |some x=>some (.inr x)
     |none=>none)∧Ev T Φ nn xs K wr p0 p1 assign body v5 vZ {ci with lk:=lk} kk=some y)∧ay step h0=some x:=by
  refine⟨_,fun h y hy=> ?_,hx⟩
  dsimp only at hy
  split at hy
  case h_2=>cases hy
  rename_i ci j7
  exact⟨ci,j7,_,fun _=>rfl,fun o σ1 ho=>by cases o<;>first|rfl|exact(ho rfl).elim,hy⟩
 obtain⟨rec,sx⟩:∃rec:LoopState→Option Code→Loop,rec=fun st pe=>{state:=st,pending:=pe,fn:=Vi,tmps:=a.tmps,params:= #[p0,p1],assign,body,defers:=w.heap.size}:=⟨_,rfl⟩
 obtain⟨W1,Ga⟩:∃W1,(w.alloc (.deferred (some []))).alloc (.loop (rec .ready none))=W1:=⟨_,rfl⟩
 obtain⟨l,hl⟩:∃l,l=w.heap.size+1:=⟨_,rfl⟩
 have hL1:W1.heap[l]? =some (.loop (rec .ready none)):=by
  rw[←Ga,hl];have:=World.alloc_heap_new (w.alloc (.deferred (some []))) (.loop (rec .ready none));rwa[World.size_alloc] at this
 have fc:W1.heap[w.heap.size]? =some (.deferred (some [])):=by
  rw[←Ga];exact(Below.heap_alloc _ _ _ (by simp)).trans (World.alloc_heap_new w _)
 obtain⟨Z,hZ⟩:∃Z:List Nat,Z=[w.heap.size,l]:=⟨_,rfl⟩
 have uZ:l∈Z:=by rw[hZ];simp
 have Np:w.heap.size∈Z:=by rw[hZ];simp
 have UP:∀b∈Z,w.heap.size≤b:=fun b hb=>by
  rw[hZ] at hb
  simp only[aqR,arc,or_false] at hb
  omega
 have Gg:w.heap.size≠l:=by omega
 have UR:WZ Z w W1:=by
  rw[←Ga]
  refine⟨rfl,rfl,rfl,by simp;omega,fun b hb aK=> ?_,fun b hb=> ?_⟩
  · rw[Below.heap_alloc _ _ _ (by simp;omega),Below.heap_alloc _ _ _ aK]
  · rw[World.size_alloc,World.size_alloc] at hb
    rw[hZ]
    simp only[aqR,arc,or_false]
    omega
 obtain⟨R,Nc⟩:∃R:World→Prop,R=fun W=>∃st jump o σ1 aF,st≠.busy∧W.heap[l]? =some (.loop (rec st jump))∧W.heap[w.heap.size]? =some (.deferred (some []))∧Kn σ1 aF W (iZ a)∧ir Z γ w aF W∧(∀b∈Z,aF.o b=2)∧k o σ1=some r∧((jump=none∧o= .normal)∨(jump=some .ret∧o= .ret)):=⟨_,rfl⟩
 obtain⟨Inv,Nm⟩:∃Inv:Nat→World→Prop,Inv=fun(m:Nat) W=>∃N h' ci lD,k6 step N h'=some x∧k9 T j wr mv aI h'=some ci∧Kn ci lD W ((p0,.int .i64 ((m:Int)-1))::iZ a)∧ir Z γ w lD W∧bB wr {aI with lk:=lk} {ci with lk:=lk}∧(∀b∈Z,lD.o b=2)∧W.heap[l]? =some (.loop (rec .ready none))∧W.heap[w.heap.size]? =some (.deferred (some [])):=⟨_,rfl⟩
 have aiL:Calls P f #[.func (.yield l) #[] #[],dJ bv 0] W1 (jT fun _ w'=>R w'):=by
  have head:∀{m:Nat} {N:Nat} {s:HH D j.bZ} {σ1:S D} {aF:Gh D} {W:World} {L1:List (Nat×Value)},k6 step N s=some x→Kn σ1 aF W L1→bB wr {aI with lk:=lk} σ1→wa T j σ1 s→ir Z γ w aF W→(∀b∈Z,aF.o b=3)→W.heap[l]? =some (.loop (rec .ready none))→W.heap[w.heap.size]? =some (.deferred (some []))→
    (∀t v,t∉wr∨t=p0→Dp.look L1 t=some v→Dp.look ((p0,.int .i64 ((m:Int)-1))::iZ a) t=some v)→Inv m W:=by
   intro m N s σ1 aF W L1 hN cZ he hxr cG cf FB TK uP
   obtain⟨N',y,_,hs,_⟩:=Fp hN
   obtain⟨ci,j7,_⟩:=hstep _ _ hs
   obtain⟨aX,k1,k2,k3,_⟩:=uF hR lm bH cZ he hxr j7
   have BL:∀b∈Z,b<W.heap.size:=fun b hb=>by
    rw[hZ] at hb
    simp only[aqR,arc,or_false] at hb
    rcases hb with rfl|rfl
    · exact(aq5.1 TK).1
    · exact(aq5.1 FB).1
   have pW:∀b∈Z,aX.o b=3:=fun b hb=>by
    rw[(k2.ro b (BL b hb) (.inr (cf b hb))).1];exact cf b hb
   rw[Nm]
   refine⟨N,s,ci,iO aX Z 2,hN,j7,(k1.wz (.inl rfl) (fun b hb _=> .inr (pW b hb)) (.refl Z W)).RU fun t y v hy hv=>uP t v ?_ hv,(cG.trans (.of k2)).trans (.wz (.refl Z W)),k3,fun b hb=>jA hb,FB,TK⟩
   rcases Tq j7 hy with⟨h1,_⟩|h1
   · right
     obtain⟨q,hq,rfl⟩:=aqX.1 h1
     exact aqK (aq0.1 c5 q hq)
   · exact .inl h1
  have S1:∀{o:Out} {s:HH D j.bZ} {y:HH D j.bZ⊕nY D pr ρ E} {N:Nat} {σ1:S D} {aF:Gh D} {W:World} {L1:List (Nat×Value)},k6 step N s=some x→step s=some y→(match toE T pr E o σ1 (uE o {σ1 with lk:=aI.lk}) with|some x=>some (.inr x)|none=>none)=some y→
    Kn σ1 aF W L1→bB wr {aI with lk:=lk} σ1→(∀t,t∈wr→au σ1.sl t=none)→ir Z γ w aF W→(∀b∈Z,aF.o b=3∧b<W.heap.size)→(∀t v,t∉wr→Dp.look L1 t=some v→Dp.look (iZ a) t=some v)→∃bc aX,Kn bc aX W (iZ a)∧ir Z γ w aX W∧(∀b∈Z,aX.o b=2)∧uE o bc=some r:=by
   intro o s y N σ1 aF W L1 hN hs hz cZ he iG cG cf uP
   split at hz
   case h_2=>cases hz
   rename_i x' cA
   have hz:=(are hz).symm
   subst hz
   obtain⟨N',y',_,lS,er⟩:=Fp hN
   rw[hs] at lS
   cases lS
   rcases er with⟨s',h1,_⟩|h1
   · cases h1
   cases h1
   have fin:∀{bc:S D} {aX:Gh D},Kn bc aX W L1→Rx.Frame aF W aX W→(∀t x,au bc.sl t=some x→t∉wr)→uE o bc=some r→∃bc aX,Kn bc aX W (iZ a)∧ir Z γ w aX W∧(∀b∈Z,aX.o b=2)∧uE o bc=some r:=by
    intro bc aX k1 k2 k3 k4
    have pW:∀b∈Z,aX.o b=3:=fun b hb=>by
     rw[(k2.ro b (cf b hb).2 (.inr (cf b hb).1)).1];exact(cf b hb).1
    exact⟨bc,iO aX Z 2,(k1.wz (.inl rfl) (fun b hb _=> .inr (pW b hb)) (.refl Z W)).RU fun t y v hy hv=>uP t v (k3 t y hy) hv,(cG.trans (.of k2)).trans (.wz (.refl Z W)),fun b hb=>jA hb,k4⟩
   rcases wv cA hf with⟨j',y2,bc,h1,h2,h3⟩|h1
   · obtain⟨aX,k1,k2,k3,_⟩:=uF hR lm bH cZ he h1 h2
     refine fin k1 k2 (fun t z ht=> ?_) h3
     rcases Tq h2 ht with⟨m1,m2⟩|m1
     · obtain⟨z',kD⟩:=akC h1 m1
       rw[iG t m2] at kD
       cases kD
     · exact m1
   · refine fin (cZ.lk _) (Rx.Frame.refl _ _) (fun t z ht hw=> ?_) h1
     have ht:au σ1.sl t=some z:=ht
     rw[iG t hw] at ht
     cases ht
  have jH:∀{aX:Gh D} {W:World} {bc:S D} {m:Nat} {c:Int} {K':List Nat} {g':Nat},Kn bc aX W ((p0,.int .i64 ((m:Int)-1))::iZ a)→au bc.sl p0=some (.c (.one (.v (.int .i64) c K' g')))→c=(m:Int)-1:=by
   intro aX W bc m c K' g' u4 hl
   obtain⟨v,h1,h2⟩:=u4.sr p0 _ hl
   rw[mK] at h1
   cases h1
   have h2:Value.int .i64 ((m:Int)-1)= .int .i64 c:=h2.1
   cases h2
   rfl
  refine aeq (α:=D nn) (xs:=xs) b3 b4 b5 b6 (hP.bS ts te nn b7).1 (hP.bS ts te nn b7).2 (hP.ty ts _ b8).1 rfl (ze:=we T cd) ?_ (by rw[wc,ZA,hR.sz]) (fun h=>C_ T cd (by rw[O6,←hR.ag];exact h)) Inv R ?_ ?_ ?_
  · have:=(hP.ty te cd b9).1
    rw[hR.ag,←O6]
    exact this
  · intro m W hi
    rw[Nm] at hi
    obtain⟨N,h',ci,lD,i1,i2,i3,i4,i5,i6,i7,i8⟩:=hi
    have ahJ:cw ci.ob i=some (.box [.v (.sl nn) xs K gx]):=by
     have h1:=i5.ob i ke
     unfold cw at bb⊢
     have h1:au ci.ob i=au aI.ob i:=h1
     rw[h1,xR]
     exact bb
    obtain⟨_,_,b',us,t',o1,o2,o3,o4,o5⟩:=i3.ob.ob i _ ahJ
    obtain⟨u,rfl,o6⟩:∃u,us=[u]∧dR (fun i=>i<ci.nx) lD W (.v (.sl nn) xs K gx) u:=by
     match us,o4 with
     |[u],⟨h1,_⟩=>exact⟨u,rfl,h1⟩
    have M6:b'=bv:=by
     have hlg:au ci.sl g=some (.c (.one (.fn f [.ptr i 0]))):=by
      have h1:au ci.sl g=au aI.sl g:=i5.sl g MK
      rw[h1,Bb]
      have bg:aqH p0 g=false:=by
       cases hb:aqH p0 g with
       |true=>have:=aqK hb;subst this;exact(MK pM).elim
       |false=>rfl
      simp only[au,bg,cond_false]
      exact hg
     obtain⟨v,v1,GQ,v2,v3⟩:=i3.sr g _ hlg
     rw[k7 _ _ (fun e:p0=g=>MK (e▸pM)),Up] at v1
     cases v1
     rw[Us] at v2
     unfold p6 at v2
     rw[if_pos b1,if_pos b1] at v2
     match GQ,v3,v2 with
     |[v],⟨⟨_,b2',h1,h2⟩,_⟩,v2=>
      rw[h2] at v2
      simp at v2
      rw[o1] at h1
      have e1:=(xh h1).1
      have e2:=(xh v2).1
      omega
    subst M6
    refine⟨In lD.o K,u, ?_,o6.1,fun m' y cs hm hy sy=> ?_⟩
    · have:=G4 o3 0 1
      simpa using this
    subst hm
    have TC:=run_yield (P:=P) (args:= #[.int .i64 (m':Int),pack (ab.agg (D nn)) cs]) i7 (by rw[sx];rfl)
    rw[sx] at TC
    refine⟨Vi,_,assign,body,TC,roundIn_of_wpIn trivial ?_⟩
    obtain⟨N',yy,hN',hs,FP⟩:=Fp i1
    obtain⟨aap,j7,kk,S9,Ly,mM⟩:=hstep _ _ hs
    rw[i2] at j7
    cases j7
    unfold Ev at mM
    split at mM
    case h_2=>cases mM
    rename_i c K' g' M2
    have eu:c=(m':Int):=(jH i3 M2).trans (by omega)
    subst eu
    rcases Ce mM with⟨iW,_⟩|⟨_,mM⟩
    · exact absurd (of_decide_eq_true iW) (by omega)
    obtain⟨y',qP,mM⟩:=tx mM
    have hye:y'=y:=by
     unfold idx at qP
     rw[if_pos (by omega)] at qP
     have:((m':Int)).toNat=m':=by omega
     rw[this,hy] at qP
     exact(are qP).symm
    subst hye
    split at mM
    case h_2=>cases mM
    rename_i av hav
    obtain⟨I,hI⟩:∃I:Rd,I=⟨some l,[],fun t=>if bp wr t then none else a.tmps[t]?⟩:=⟨_,rfl⟩
    have hIF:I.F=Fence.wide.inRound l:=by rw[hI];rfl
    have hIr:I.ro=none∨gF assign=true:= .inr (by unfold Aq at c7;rw[aqL] at c7;exact c7.2)
    have ajr:I.ro=none∨gF body=true:= .inr (by unfold Aq at c8;rw[aqL] at c8;exact c8.2)
    unfold Aq at c7 c8
    simp only[aqL] at c7 c8
    have T8:∀t∈wr,I.ft n t=true:=fun t ht=>by
     unfold Rd.ft
     rw[hd t ht,hI]
     simp only[dK.2 ht,if_true]
     rfl
    have TJ:∀t∈writes assign,t∈wr:=fun t ht=>by rw[Bh];unfold ol;simp[ht]
    have TI:∀t∈writes body,t∈wr:=fun t ht=>by rw[Bh];unfold ol;simp[ht]
    have BL:∀b∈Z,b<W.heap.size:=fun b hb=>by
     rw[hZ] at hb
     simp only[aqR,arc,or_false] at hb
     rcases hb with rfl|rfl
     · exact(aq5.1 i8).1
     · exact(aq5.1 i7).1
    have qU:Kn {ci with lk:=lk,sl:=(p1,av)::ci.sl} (iO lD Z 3) W ((p1,pack (ab.agg (D nn)) cs)::(p0,.int .i64 (m':Int))::iZ a):=by
     have h1:Kn {ci with lk:=lk} (iO lD Z 3) W ((p0,.int .i64 (m':Int))::iZ a):=by
      have:=(i3.lk lk).wz (c:=3) (.inr rfl) (fun b hb _=> .inl (i6 b hb)) (.refl Z W)
      rwa[show(((m'+1:Nat):Int)-1)=(m':Int) by omega] at this
     have UZ:In (iO lD Z 3).o K=In lD.o K∨True:= .inr trivial
     refine⟨h1.sr.cons ?_,h1.ob,h1.bR⟩
     have ahr:ab.rd (In (iO lD Z 3).o K) W cs y':=ab.mono (fun b hb aK=>by
      refine⟨?_,rfl⟩
      have q9:lD.o b∈K:=hb
      have hz:b∉Z:=fun hz=>by have:=o6.2.2 _ q9;rw[i6 b hz] at this;omega
      show(iO lD Z 3).o b∈K
      rw[xf hz]
      exact q9) sy
     rw[hR.ag]
     exact aeO (V4 o6.2.2 ((hR.rd nn _ _ _ _).1 ahr)) hav
    have ain: @Fr I n ((p1,pack (ab.agg (D nn)) cs)::(p0,.int .i64 (m':Int))::iZ a) {tmps:=(#[p0,p1].zip #[.int .i64 (m':Int),pack (ab.agg (D nn)) cs]).foldl (fun tmps (t,a)=>tmps.setIfInBounds t a) a.tmps,defers:=[]}:=by
     have e0:(#[p0,p1].zip #[.int .i64 (m':Int),pack (ab.agg (D nn)) cs]).foldl (fun tmps (t,a)=>tmps.setIfInBounds t a) a.tmps=(a.tmps.setIfInBounds p0 (.int .i64 (m':Int))).setIfInBounds p1 (pack (ab.agg (D nn)) cs):=by simp
     rw[e0]
     have l0:p0<a.tmps.size:=by rw[F_];exact aqT (hd p0 pM)
     have l1:p1<a.tmps.size:=by rw[F_];exact aqT (hd p1 FM)
     refine @Fr.mk I n _ _ (by simp[F_]) (by rw[hI];rfl) (fun t v hv=> ?_) (fun t v hv=> ?_)
     · by_cases h1:p1=t
       · subst h1
         rw[mK] at hv
         simp[l1]
         exact are hv
       · rw[k7 _ _ h1] at hv
         by_cases h0:p0=t
         · subst h0
           rw[mK] at hv
           simp[ar2,h1,l0]
           exact are hv
         · rw[k7 _ _ h0] at hv
           simp[ar2,h1,h0]
           exact A2.1 hv
     · rw[hI] at hv
       dsimp only at hv
       split at hv
       · cases hv
       · rename_i hm
         have h1:p1≠t:=fun e=>hm (dK.2 (e▸FM))
         have h0:p0≠t:=fun e=>hm (dK.2 (e▸pM))
         simp[ar2,h1,h0]
         exact hv
    rw[←hIF]
    refine vI (I:=I) (n:=n) hP hR cE hm assign v5 c7.1.1 hIr (Lb.none c7.1.2) mM (fun t ht=>T8 t (TJ t ht)) qU ?_ _ ain
    intro o σ1 aF w1 L1 m1 m2 m3 m4
    cases o with
    |exit id=>cases m4
    |goto l=>cases m4
    |ret=>cases m4
    |normal=>
    intro a1 F'
    have BI:∀b∈Z,aF.o b=3∧w1.heap[b]? =W.heap[b]? :=fun b hb=>by
     have:=m2.ro b (BL b hb) (.inr (jA hb))
     exact⟨this.1.trans (jA hb),this.2⟩
    have kb:w1.heap[l]? =some (.loop (rec .ready none)):=(BI l uZ).2.trans i7
    have hD1:w1.heap[w.heap.size]? =some (.deferred (some [])):=(BI _ Np).2.trans i8
    refine⟨_,run_beginRound kb (by rw[sx]), ?_⟩
    obtain⟨w2,eQ⟩:∃w2,w2=w1.putObj l (.loop {rec .ready none with state:= .busy}):=⟨_,rfl⟩
    rw[←eQ]
    have ln:w2.heap[l]? =some (.loop {rec .ready none with state:= .busy}):=by rw[eQ];exact World.putObj_heap_same (aq5.1 kb).1
    have U6:w2.heap[w.heap.size]? =some (.deferred (some [])):=by rw[eQ];exact(World.putObj_heap_other Gg).trans hD1
    have TG:WZ Z w1 w2:=by rw[eQ];exact .put uZ
    have lY:Kn σ1 (iO aF Z 3) w2 L1:=m1.wz (.inr rfl) (fun b hb _=> .inr (BI b hb).1) TG
    refine vI (I:=I) (n:=n) hP hR cE hm body vZ c8.1.1 ajr (Lb.none c8.1.2) m4 (fun t ht=>T8 t (TI t ht)) lY ?_ _ F'
    intro o bc aX w3 L2 n1 n2 n3 n4
    have UQ:∀b∈Z,b<w2.heap.size:=fun b hb=>by
     rw[hZ] at hb
     simp only[aqR,arc,or_false] at hb
     rcases hb with rfl|rfl
     · exact(aq5.1 U6).1
     · exact(aq5.1 ln).1
    have pW:∀b∈Z,aX.o b=3∧w3.heap[b]? =w2.heap[b]? :=fun b hb=>by
     have:=n2.ro b (UQ b hb) (.inr (jA hb))
     exact⟨this.1.trans (jA hb),this.2⟩
    have xT:=(pW l uZ).2.trans ln
    have U5:=(pW _ Np).2.trans U6
    have Uw:ir Z γ w aX w3:=(((i4.trans (.wz (c:=3) (.refl Z W))).trans (.of m2)).trans (.wz (c:=3) TG)).trans (.of n2)
    have MQ:bB wr {aI with lk:=lk} bc:=by
     have e1:bB wr {ci with lk:=lk} {ci with lk:=lk,sl:=(p1,av)::ci.sl}:=⟨fun t ht=>by
      have bg:aqH p1 t=false:=by
       cases hb:aqH p1 t with
       |true=>have:=aqK hb;subst this;exact(ht FM).elim
       |false=>rfl
      simp only[au,bg,cond_false],rfl,fun _ _=>rfl,aqM _⟩
     exact((i5.trans e1).trans (m3.mono TJ)).trans (n3.mono TI)
    have q8:∀{a2:Act},@Fr I n L2 a2→∀t v,t∉wr→Dp.look L2 t=some v→Dp.look (iZ a) t=some v:=by
     intro a2 pX t v ht hv
     have g1:=pX.get t v hv
     have su:t<a.tmps.size:=by
      have:=(aq5.1 g1).1
      rw[pX.size] at this
      rw[F_]
      exact this
     have g2:a2.tmps[t]? =some a.tmps[t]:=pX.fix t _ (by
      have hb:bp wr t=false:=by
       cases hb:bp wr t with
       |true=>exact(ht (dK.1 hb)).elim
       |false=>rfl
      rw[hI]
      simp[hb,su])
     rw[g1] at g2
     cases g2
     exact A2.2 (Array.getElem?_eq_getElem su)
    cases o with
    |exit id=>cases n4
    |goto l=>cases n4
    |normal=>
     intro a2 pX
     dsimp only at n4
     rw[S9] at n4
     obtain⟨h2,k_,e⟩:=p9 n4
     cases e
     obtain⟨W4,ra⟩:∃W4,W4=w3.putObj l (.loop (rec .ready none)):=⟨_,rfl⟩
     have xJ:WZ Z w3 W4:=by rw[ra];exact .put uZ
     have qS:k6 step N' h2=some x:=by
      rcases FP with⟨s',e,h⟩|e
      · cases e;exact h
      · cases e
     have hI4:Inv m' W4:=by
      have BD:=n1.wz (c:=3) (.inr rfl) (fun b hb _=> .inr (pW b hb).1) xJ
      refine head (m:=m') qS (σ1:={bc with sl:=(p0,iv .i64 (sj (m':Int) 1) 0)::bc.sl}) (L1:=(p0,.int .i64 ((m':Int)-1))::L2) ⟨BD.sr.cons ⟨rfl,.inl rfl,fun _ h=>by cases h⟩,BD.ob,BD.bR⟩ (MQ.trans ⟨fun t ht=> ?_,rfl,fun _ _=>rfl,aqM _⟩) k_ (Uw.trans (.wz xJ)) (fun b hb=>jA hb) ?_ ?_ ?_
      · have bg:aqH p0 t=false:=by
         cases hb:aqH p0 t with
         |true=>have:=aqK hb;subst this;exact(ht pM).elim
         |false=>rfl
        simp only[au,bg,cond_false]
      · rw[ra];exact World.putObj_heap_same (aq5.1 xT).1
      · rw[ra];exact(World.putObj_heap_other Gg).trans U5
      · intro t v ht hv
        by_cases Mj:p0=t
        · subst Mj
          rw[mK] at hv⊢
          exact hv
        · rw[k7 _ _ Mj] at hv⊢
          exact q8 pX t v (ht.resolve_right fun e=>Mj e.symm) hv
     refine⟨_,_,run_endRound none xT,_,rfl,.inl ⟨rfl, ?_⟩⟩
     have e4:w3.putObj l (.loop {({rec .ready none with state:= .busy}:Loop) with state:=if(none:Option Code).isNone then .ready else .done,pending:=none})=W4:=by
      rw[ra,sx];rfl
     rw[e4]
     exact hI4
    |ret=>
     intro a2 pX
     dsimp only at n4
     rw[Ly _ _ (by simp)] at n4
     obtain⟨W4,ra⟩:∃W4,W4=w3.putObj l (.loop (rec .done (some .ret))):=⟨_,rfl⟩
     have xJ:WZ Z w3 W4:=by rw[ra];exact .put uZ
     have BD:=n1.wz (c:=3) (.inr rfl) (fun b hb _=> .inr (pW b hb).1) xJ
     have hR4:R W4:=by
      have hZ4:∀b∈Z,b<W4.heap.size:=fun b hb=>by
       have h1:=UQ b hb
       have h2:=n2.size
       have h3:=xJ.size
       omega
      obtain⟨tJ,tK,q1,q2,q3,q4⟩:=S1 i1 hs n4 (BD.drop wr) (MQ.trans ⟨fun t ht=>by rw[B7,if_neg ht],rfl,fun _ _=>rfl,aqM _⟩) (fun t ht=>by rw[B7,if_pos ht]) (Uw.trans (.wz xJ)) (fun b hb=>⟨jA hb,hZ4 b hb⟩) (q8 pX)
      rw[Nc]
      refine⟨.done,some .ret,.ret,tJ,tK,by simp, ?_, ?_,q1,q2,q3, ?_,.inr ⟨rfl,rfl⟩⟩
      · rw[ra];exact World.putObj_heap_same (aq5.1 xT).1
      · rw[ra];exact(World.putObj_heap_other Gg).trans U5
      · rw[MB] at q4
        exact q4
     refine⟨_,_,run_endRound (some .ret) xT,_,rfl,.inr ⟨rfl, ?_⟩⟩
     have e4:w3.putObj l (.loop {({rec .ready none with state:= .busy}:Loop) with state:=if(some Code.ret).isNone then .ready else .done,pending:=some .ret})=W4:=by
      rw[ra,sx];rfl
     rw[e4]
     exact hR4
  · intro W hi
    rw[Nm] at hi
    obtain⟨N,h',ci,lD,i1,i2,i3,i4,i5,i6,i7,i8⟩:=hi
    obtain⟨N',y,_,hs,_⟩:=Fp i1
    obtain⟨aap,j7,kk,S9,Ly,hy⟩:=hstep _ _ hs
    rw[i2] at j7
    cases j7
    unfold Ev at hy
    split at hy
    case h_2=>cases hy
    rename_i c K' g' M2
    have eu:=jH i3 M2
    rcases Ce hy with⟨_,hy⟩|⟨iW,_⟩
    · rw[Ly _ _ (by simp)] at hy
      have BL:∀b∈Z,b<W.heap.size:=fun b hb=>by
       rw[hZ] at hb
       simp only[aqR,arc,or_false] at hb
       rcases hb with rfl|rfl
       · exact(aq5.1 i8).1
       · exact(aq5.1 i7).1
      obtain⟨bc,aX,m1,m2,m3,m4⟩:=S1 i1 hs hy (((i3.lk lk).drop wr).wz (c:=3) (.inr rfl) (fun b hb _=> .inl (i6 b hb)) (.refl Z W)) ⟨fun t ht=>by rw[B7,if_neg ht];exact i5.sl t ht,rfl,i5.ob,i5.nx⟩ (fun t ht=>by rw[B7,if_pos ht]) (i4.trans (.wz (.refl Z W))) (fun b hb=>⟨jA hb,BL b hb⟩) (fun t v ht hv=>by
       rw[k7 _ _ (fun e:p0=t=>ht (e▸pM))] at hv
       exact hv)
      rw[Nc]
      refine⟨.ready,none,.normal,bc,aX,by simp,i7,i8,m1,m2,m3, ?_,.inl ⟨rfl,rfl⟩⟩
      rw[MB] at m4
      exact m4
    · exfalso
      have:c<0:=by rw[eu];simp
      simp[this] at iW
  · have h3:Kn {aI with lk:=lk} (iO γ Z 3) W1 ((p0,.int .i64 (sj (len xs) 1))::iZ a):=(bH.lk lk).wz (.inr rfl) (fun b hb aK=>by have:=UP b hb;omega) UR
    unfold ay at hx
    exact head hx h3 (.refl _ _) j9 (.wz UR) (fun b hb=>jA hb) hL1 fc fun t v _ hv=>hv
 refine⟨l,[mark w.heap.size],W1,{target:= .fn (.func f) #[dJ bv 0],args:= #[.func (.yield l) #[] #[]]},W1,f, #[.func (.yield l) #[] #[]]++ #[dJ bv 0],W1, ?_, ?_, ?_, ?_,fun h=>by simp[Rd.F,Fence.wide] at h, ?_⟩
 · rw[←Ga,sx,hl]
   exact run_enterLoop_outer _ _ _ _ _
 · have:a.eval (.tmp g)= .func (.func f) #[] #[dJ bv 0]:=by rw[ail.ev (x:= .tmp g) (v:=gv) Up,aii]
   simp only[resolve,this]
   simp[go_sem]
 · intro f' UE;trivial
 · simp[invoke,go_sem,b2]
 · have h3:=(callsIn_wide (n:=0)).2 aiL
   refine(h3:CallsIn Fence.wide 0 P f _ W1 _).mono ?_
   rintro e w' ⟨v,rfl,hr⟩
   rw[Nc] at hr
   obtain⟨st,jump,o,σ1,aF,r1,r2,r3,r4,r5,r6,r7,r8⟩:=hr
   have aiQ:(rec st jump).state≠.busy:=by rw[sx];exact r1
   have fb:=run_endLoop (P:=P) r2 aiQ
   have ahC:(rec st jump).pending=jump:=by rw[sx]
   rw[ahC] at fb
   refine⟨jump,_,fb, ?_⟩
   have iH:∀(O:Obj) a1,@Fr (Rd.mn w.heap.size) n (iZ a) a1→Q (toX o) a1 (w'.putObj l O):=by
    intro O
    refine hc w.heap.size o σ1 (iO aF Z 2) _ (iZ a) (r4.wz (.inl rfl) (fun b hb _=> .inl (r6 b hb)) (.put uZ)) ((r5.trans (ir.wz (.put uZ))).frame UP fun b hb=>jA hb) (aqM _) ?_ (jA Np) ?_ r7 ?_
    · rw[World.putObj_size];exact(aq5.1 r3).1
    · rw[World.putObj_heap_other Gg];exact r3
    · rcases r8 with⟨_,h⟩|⟨_,h⟩
      · exact .inl h
      · exact .inr h
   have UC: @Fr (Rd.mn w.heap.size) n (iZ a) {a with defers:=[mark w.heap.size]++a.defers}:=by
    refine @Fr.mk (Rd.mn w.heap.size) n (iZ a) _ ha.size ?_ (fun t v h=>A2.1 h) (fun _ _ h=>by cases h)
    show [mark w.heap.size]++a.defers=[mark w.heap.size]
    rw[ha.defers];rfl
   rcases r8 with⟨rfl,rfl⟩|⟨rfl,rfl⟩
   · exact iH _ _ UC
   · exact wpIn_ret (iH _ _ UC)
theorem RI{a:Code}{x:Code×Nat×Nat×Nat×Nat×Code×Code}(h:rP a=some x):a= .seq x.1 (.block x.2.1 (.rangeFunc (.tmp x.2.2.1) #[x.2.2.2.1,x.2.2.2.2.1] x.2.2.2.2.2.1 x.2.2.2.2.2.2)):=by
 unfold rP at h
 split at h
 case h_2=>cases h
 rename_i r id g ps assign body
 split at h
 case h_2=>cases h
 rename_i p0 p1 hp
 cases h
 have:ps= #[p0,p1]:=by
  apply Array.ext'
  rw[hp]
 rw[this]
theorem api(hP:dh P T)(hR:bQ T)(cE:∀c∈Φ,ff P T c)(hm:P.follows .mixedOrders=true){b:Nat}{c:Code}{an:An}{ρ:Type}{σ:S D}{k:Out→S D→Option ρ}{r:ρ}{e9:Gh D}{w0:World}{L:List (Nat×Value)}{Q:Exit→Act→World→Prop}
  (h:eK T Φ c an σ k=some r) (hN:gE c=true) (hS:jB c=true) (hd:∀t∈writes c,aqZ t n=true) (hk:Kn σ γ w L) (cG:Rx.Frame e9 w0 γ w) (hb:w0.heap.size≤b) (q9:b<w.heap.size) (cf:γ.o b=2) (bb:w.heap[b]? =some (.deferred (some [])))
  (hc:∀o σ1 aF w1 L1,Kn σ1 aF w1 L1→Rx.Frame e9 w0 aF w1→aF.o b=2→b<w1.heap.size→w1.heap[b]? =some (.deferred (some []))→k o σ1=some r→∀a1,@Fr (Rd.mn b) n L1 a1→Q (toX o) a1 w1):
  @CW P n (Rd.mn b) c Q L w:=by
 refine vI (I:=Rd.mn b) hP hR cE hm c an hN (.inl rfl) (@Lb.none P (Rd.mn b) _ _ hS) h (fun t ht=>by unfold Rd.ft;rw[hd t ht];rfl) (hk.wz (Z:=[b]) (c:=3) (.inr rfl) (fun b' dY _=>by simp only[aq1] at dY;subst dY;exact .inl cf) (.refl _ w)) ?_
 intro o σ1 aF w1 L1 m1 m2 m3 m4
 obtain⟨q1,q2⟩:=m2.ro b q9 (.inr (jA (by simp)))
 have q1:aF.o b=3:=q1.trans (jA (by simp))
 have dy:b<w1.heap.size:=asb q9 m2.size
 refine hc o σ1 (iO aF [b] 2) w1 L1 (m1.wz (.inl rfl) (fun b' dY _=>by simp only[aq1] at dY;subst dY;exact .inr q1) (.refl _ w1)) ?_ (jA (by simp)) dy (q2.trans bb) m4
 refine ir.frame (Z:=[b]) ((((ir.of cG).trans (.wz (.refl _ w))).trans (.of m2)).trans (.wz (.refl _ w1))) (fun b' dY=> ?_) (fun b' dY=>jA dY)
 simp only[aq1] at dY
 subst dY
 exact hb
theorem ak8(hP:dh P T)(hR:bQ T)(cE:∀c∈Φ,ff P T c)(hm:P.follows .mixedOrders=true){Bk:List (Nat×Nat)}(hB:∀q∈Bk,C7 P T q):∀(c:Code) (an:An) {ρ:Type} {σ:S D} {k:Out→S D→Option ρ} {r:ρ} {γ:Gh D} {w:World} {L:List (Nat×Value)} {Q:Exit→Act→World→Prop},E0 c=true→Cb T Φ Bk c an σ k=some r→(∀t∈writes c,aqZ t n=true)→Kn σ γ w L→
  (∀o σ1 aF w1 L1,Kn σ1 aF w1 L1→Rx.Frame γ w aF w1→k o σ1=some r→NK n (Q (toX o)) L1 w1)→
  (∀b o σ1 aF w1 L1,Kn σ1 aF w1 L1→Rx.Frame γ w aF w1→aF.o b=2→w.heap.size≤b→b<w1.heap.size→w1.heap[b]? =some (.deferred (some []))→k o σ1=some r→∀a1,@Fr (Rd.mn b) n L1 a1→Q (toX o) a1 w1)→CW P n c Q L w:=by
 intro c
 induction c with
 |seq a b oC xG=>
  intro an ρ σ k r γ w L Q hN h hd hk eu gG
  unfold E0 at hN
  simp only[Cb] at h
  have oM:∀t∈writes a,aqZ t n=true:=fun t ht=>hd t (by simp only[writes];exact aqP.2 (.inl ht))
  have oL:∀t∈writes b,aqZ t n=true:=fun t ht=>hd t (by simp only[writes];exact aqP.2 (.inr ht))
  cases Mc:rP (.seq a b) with
  |some x=>
   obtain⟨r0,id,g,p0,p1,assign,body⟩:=x
   rw[Mc] at hN h
   have he:=RI Mc
   dsimp only at hN h he
   injection he with qW pU
   subst qW pU
   simp only[aqL] at hN
   split at h
   case h_2=>cases h
   rename_i j pr E x hx
   obtain⟨dN,fG,h⟩:=ma h
   obtain⟨e9,z1,z2,z3⟩:=l_ fG hk
   intro a' eR
   refine wpIn_seq ?_
   refine vI hP hR cE hm a _ hN.1 (.inl rfl) (Lb.none hN.2) h (fun t ht=>by unfold Rd.ft;rw[oM t ht];rfl) z1 (fun o σ1 aF w1 L1 m1 m2 m3 m4=> ?_) a' eR
   have m2:=z2.trans m2
   cases o with
   |normal=>
    refine R2 hP hR cE hm hB m4 m1 (fun t ht=>oL t ?_) ?_
    · simp only[writes]
      unfold ol at ht
      simp only[aqR,aqP] at ht⊢
      rcases ht with rfl|rfl|ht|ht<;>simp[*]
    · intro b' o bc aX w2 L2 n1 n2 n3 n4 n5 n6 n7 n8
      exact gG b' o bc aX w2 L2 n1 (m2.trans n2) n5 (aq' m2.size n3) n4 n6 n7
   |exit id=>exact eu (.exit id) σ1 aF w1 L1 m1 m2 m4
   |goto l=>exact eu (.goto l) σ1 aF w1 L1 m1 m2 m4
   |ret=>exact eu .ret σ1 aF w1 L1 m1 m2 m4
  |none=>
  rw[Mc] at hN h
  dsimp only at hN h
  cases Mf:rP a with
  |none=>
   rw[Mf] at hN h
   simp only[aqL] at hN
   obtain⟨dN,fG,h⟩:=ma h
   obtain⟨e9,z1,z2,z3⟩:=l_ fG hk
   refine CW.seq fun K hK=> ?_
   refine vI hP hR cE hm a _ hN.1.1 (.inl rfl) (Lb.none hN.1.2) h (fun t ht=>by unfold Rd.ft;rw[oM t ht];rfl) z1 fun o σ1 aF w1 L1 m1 m2 m3 m4=> ?_
   have m2:=z2.trans m2
   cases o with
   |normal=>
    refine hK _ _ (xG _ hN.2 m4 oL m1 (fun o bc aX w2 L2 n1 n2 n3=>eu o bc aX w2 L2 n1 (m2.trans n2) n3) fun b' o bc aX w2 L2 n1 n2 n3 n4 n5 n6 n7=>gG b' o bc aX w2 L2 n1 (m2.trans n2) n3 (aq' m2.size n4) n5 n6 n7)
   |exit id=>exact eu (.exit id) σ1 aF w1 L1 m1 m2 m4
   |goto l=>exact eu (.goto l) σ1 aF w1 L1 m1 m2 m4
   |ret=>exact eu .ret σ1 aF w1 L1 m1 m2 m4
  |some x=>
   obtain⟨r0,id,g,p0,p1,assign,body⟩:=x
   rw[Mf] at hN h
   obtain rfl:=RI Mf
   dsimp only at hN h oM⊢
   simp only[aqL] at hN
   split at h
   case h_2=>cases h
   rename_i j pr E x hx
   obtain⟨dN,fG,h⟩:=ma h
   obtain⟨e9,z1,z2,z3⟩:=l_ fG hk
   intro a' eR
   refine wpIn_seq (wpIn_seq ?_)
   refine vI hP hR cE hm r0 _ hN.1.1.1 (.inl rfl) (Lb.none hN.1.1.2) h (fun t ht=>by unfold Rd.ft;rw[oM t (by simp only[writes];exact aqP.2 (.inl ht))];rfl) z1 (fun o σ1 aF w1 L1 m1 m2 m3 m4=> ?_) a' eR
   have m2:=z2.trans m2
   cases o with
   |normal=>
    refine R2 hP hR cE hm hB m4 m1 (fun t ht=>oM t ?_) ?_
    · simp only[writes]
      unfold ol at ht
      simp only[aqR,aqP] at ht⊢
      rcases ht with rfl|rfl|ht|ht<;>simp[*]
    · intro b' o bc aX w2 L2 n1 n2 n3 n4 n5 n6 n7 n8
      have cG:=m2.trans n2
      rcases n8 with rfl|rfl
      · dsimp only at n7
        refine api hP hR cE hm n7 hN.1.2 hN.2 oL n1 cG (aq' m2.size n3) n4 n5 n6 ?_
        intro o tJ tK w3 L3 q1 q2 q3 q4 q5 q6
        exact gG b' o tJ tK w3 L3 q1 q2 q3 (aq' m2.size n3) q4 q5 q6
      · exact gG b' .ret bc aX w2 L2 n1 cG n5 (aq' m2.size n3) n4 n6 n7
   |exit id=>exact eu (.exit id) σ1 aF w1 L1 m1 m2 m4
   |goto l=>exact eu (.goto l) σ1 aF w1 L1 m1 m2 m4
   |ret=>exact eu .ret σ1 aF w1 L1 m1 m2 m4
 |_=>intro an ρ σ k r γ w L Q hN h;simp[Cb] at h
theorem akQ{f:FuncId}{fn:Func}{c:Code}{l:List Value}{R:Ending→World→Prop}(hf:P.funcs[f]? =some fn)(hb:fn.body=some c)(hn:fn.ntmps=n)(hl:aq2 l.length n=true)
  (h:CW P n c (bodyPostM Fence.wide 0 P fn R) (oZ 0 l) w):Calls P f l.toArray w R:=by
 have Ue:l.length≤n:=by simpa using hl
 refine callsIn_wide.1 (callsIn_of_wp_marks (n:=0) hf hb trivial (h _ ⟨by simp[hn];omega,rfl,fun t v hv=> ?_,fun _ _ h=>by cases h⟩))
 obtain⟨_,h2⟩:=Li l 0 t v hv
 have ht:t<l.length:=(List.getElem?_eq_some_iff.1 h2).1
 simp only[Nat.sub_zero] at h2
 rw[Array.getElem?_append_left (by simpa using ht)]
 simpa using h2
theorem Vk(hP:dh P T)(hR:bQ T)(cE:∀c∈Φ,ff P T c)(hm:P.follows .mixedOrders=true){Bk:List (Nat×Nat)}(hB:∀q∈Bk,C7 P T q){c:ar D}{fn:Func}{code:Code}{rs:List ResultVar}{an:An}
  (jG:∀(args:Array Value) (w:World),(callFunc c.f args).run P w= .ok (.enter c.f args) w)
  (hf:P.funcs[c.f]? =some fn) (hb:fn.body=some code) (jF:fn.results=rs.toArray)
  (bD:((writes code).all (fun t=>aqZ t fn.ntmps)&&aq2 c.args.length fn.ntmps&&pE c.ie c.bG&&jX (c.bG.map aqO)&&c.bG.all (fun p=>aq2 1000 p.1)&&aq2 c.bG.length 40)=true)
  (ve:∀h,J7 T Φ Bk c rs code an h=c.fn h):ff P T c:=by
 simp only[aqL] at bD
 obtain⟨⟨⟨⟨⟨hw,hl⟩,fE⟩,BC⟩,l8⟩,sH⟩:=bD
 refine⟨jG,fE,BC,l8,sH,fun h r hr as di has j_ γ w vs hv bb=> ?_⟩
 rw[←ve] at hr
 unfold J7 at hr
 split at hr
 case h_2=>cases hr
 rename_i fS
 split at hr
 case h_2=>cases hr
 rename_i σ j8
 unfold yi at j8
 dsimp only at j8
 split at j8
 case isFalse=>cases j8
 rename_i hc
 rw[has,j_] at j8
 have j8:=are j8
 subst j8
 simp only[aqL,aq0] at hc l8 hw
 have iS:=Pb (k:=0) hv
 have hlen:=hv.len
 have uY:=A9 has
 refine akQ hf hb rfl (by rw[hlen,uY];exact hl) ?_
 obtain⟨dN,fG,hr⟩:=ma hr
 obtain⟨e9,z1,z2,z3⟩:=l_ fG (γ:=γ) ⟨iS,bb,aqM _⟩
 have fin:∀{aI} {γ':Gh D} {w':World} {L':List (Nat×Value)},Kn aI γ' w' L'→Rx.Frame γ w γ' w'→rQ.fin T c rs aI=some r→∃vs,tF P L' w' rs vs∧jT (fun v w'=>∃U' γ' rs gW,fO T (cN T c.outs r) some id 3000 c.ie=some rs∧gj T (cN T c.outs r) some id 3000 c.bG=some gW∧
   qf U' γ' w' rs v∧(∀p x,cw gW p=some x→OR U' γ' w' p x)∧(∀p,(p,p)∈stay c→γ'.g p=γ.g p)∧Frame0 γ w γ' w') (.returned (rR vs)) w':=by
  intro aI γ' w' L' bH cG ho
  obtain⟨vs,h1,aX,pu,gW,h2,h3,h4,h5,h6,h7⟩:=RK hP hR bH (fun q hq=>aqT (l8 q hq)) (fun q hq=>by
   have:=aqT (hc.2 q hq).2
   omega) ho
  refine⟨vs,h1,_,rfl,_,aX,pu,gW,h2,h3,h4,h5,fun p hp=> ?_,cG.toFrame0.trans h7⟩
  rw[h6 p hp]
  refine cG.gk p ?_
  unfold stay at hp
  obtain⟨q,hq,e⟩:=aqX.1 hp
  cases e
  obtain⟨q',oG⟩:=nB (List.mem_filter.1 hq).2
  have:=aqT (hc.2 _ oG).2
  simp only at this
  omega
 refine ak8 hP hR cE hm hB code an.un fS hr hw z1 (fun o aI γ' w' L' bH cG ho=> ?_) (fun b o aI γ' w' L' bH cG cf hbw aqb xR ho a1 F'=> ?_)
 · have cG:=z2.trans cG
   have one:rQ.fin T c rs aI=some r→∀a,Fr fn.ntmps L' a→LeavesInM Fence.wide 0 P fn a.tmps _ a.defers .returning w':=fun ho a ha=>by
    obtain⟨vs,h1,h2⟩:=fin bH cG ho
    rw[ha.defers]
    exact⟨_,um (fun _ _ hx=>ha.ev hx) jF h1,h2⟩
   cases o with
   |normal=>exact one ho
   |ret=>exact one ho
   |exit id=>cases ho
   |goto l=>cases ho
 · have cG:=z2.trans cG
   obtain⟨w2,eQ⟩:∃w2,w2=w'.putObj b (.deferred none):=⟨_,rfl⟩
   have TH:WZ [b] w' w2:=by rw[eQ];exact .put (by simp)
   have lY:Kn aI (iO γ' [b] 2) w2 L':=bH.wz (.inl rfl) (fun b' dY _=>by simp only[aq1] at dY;subst dY;exact .inl cf) TH
   have aim:Rx.Frame γ w (iO γ' [b] 2) w2:=by
    refine ir.frame (Z:=[b]) ((ir.of cG).trans (.wz TH)) (fun b' dY=> ?_) (fun b' dY=>jA dY)
    simp only[aq1] at dY
    subst dY
    exact hbw
   have one:rQ.fin T c rs aI=some r→LeavesInM Fence.wide 0 P fn a1.tmps _ a1.defers .returning w':=fun ho=>by
    obtain⟨vs,h1,h2⟩:=fin lY aim ho
    rw[@Fr.defers (Rd.mn b) _ _ _ F']
    refine⟨by simp,.inl ⟨b,w2,rfl, ?_, ?_⟩⟩
    · rw[eQ];exact run_takeDeferred xR
    · exact⟨_,um (L:=L') (fun _ _ hx=> @Fr.ev (Rd.mn b) _ _ _ F' _ _ hx) jF h1,h2⟩
   cases o with
   |normal=>exact one ho
   |ret=>exact one ho
   |exit id=>cases ho
   |goto l=>cases ho
abbrev J6(T:aV D)(Φ:List (ar D))(Bk:List (Nat×Nat))(c:ar D)(rs:List ResultVar)(code:Code)(an:An):ar D:=⟨c.f,c.ins,c.outs,c.args,c.ob,c.ie,c.bG,J7 T Φ Bk c rs code an⟩
theorem adw(hP:dh P T)(hR:bQ T)(cE:∀c∈Φ,ff P T c)(hm:P.follows .mixedOrders=true){Bk:List (Nat×Nat)}(hB:∀q∈Bk,C7 P T q){c:ar D}{fn:Func}{code:Code}{rs:List ResultVar}{an:An}
  (jG:∀(args:Array Value) (w:World),(callFunc c.f args).run P w= .ok (.enter c.f args) w)
  (hf:P.funcs[c.f]? =some fn) (hb:fn.body=some code) (jF:fn.results=rs.toArray)
  (bD:((writes code).all (fun t=>aqZ t fn.ntmps)&&aq2 c.args.length fn.ntmps&&pE c.ie c.bG&&jX (c.bG.map aqO)&&c.bG.all (fun p=>aq2 1000 p.1)&&aq2 c.bG.length 40)=true):ff P T (J6 T Φ Bk c rs code an):=
 Vk (c:=J6 T Φ Bk c rs code an) (an:=an) hP hR cE hm hB jG hf hb jF bD fun _=>rfl
end
end Rx
end Go.Proofs.YtncbfgppjfcijaaGreat
