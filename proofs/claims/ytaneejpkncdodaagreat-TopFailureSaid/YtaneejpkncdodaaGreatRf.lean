import Derived.RangeFuncSeq
import Derived.RangeFuncRecord
import Derived.Test.YtaneejpkncdodaaGreatRo
set_option linter.unusedVariables false
set_option linter.unusedSimpArgs false
set_option linter.unusedSectionVars false
noncomputable section
namespace Go.Proofs.YtaneejpkncdodaaGreat
open Go Go.RowKit Dp
namespace Rx
def Ql(ts te ti tb ty:TypeId):Code:=
 .seq (.region 0 #[⟨some 4,.load ts (.tmp 1),ts, "iter.go:28", #[],none⟩,
    ⟨some 5,.call {callee:= .builtin .len,args:= #[.tmp 4],argTypes:= #[ts]},ti, "iter.go:28", #[⟨0,.data⟩],none⟩,
    ⟨some 6,.binOp .sub ti (.tmp 5) (.const (.int .i64 1)) ti,ti, "iter.go:28", #[⟨1,.data⟩],none⟩,
    ⟨some 3,.assign (.tmp 6),ti, "iter.go:28", #[⟨2,.data⟩,⟨0,.phase⟩,⟨1,.phase⟩,⟨2,.phase⟩],none⟩] false)
   (.block 0 (.loop (.seq
     (.seq (.region 1 #[⟨some 7,.move (.tmp 3),ti, "iter.go:28", #[],none⟩,
        ⟨some 8,.binOp .geq ti (.tmp 7) (.const (.int .i64 0)) ti,tb, "iter.go:28", #[⟨0,.data⟩],none⟩] false)
       (.cond (.tmp 8) .skip (.exit 0)))
     (.seq
       (.block 1 (.seq (.region 3 #[⟨some 11,.move (.tmp 0),ty, "iter.go:29", #[],none⟩,
          ⟨some 12,.move (.tmp 3),ti, "iter.go:29", #[],none⟩,
          ⟨some 13,.load ts (.tmp 1),ts, "iter.go:29", #[],none⟩,
          ⟨some 14,.move (.tmp 3),ti, "iter.go:29", #[],none⟩,
          ⟨some 15,.indexAddr ts (.tmp 13) (.tmp 14),0, "iter.go:29", #[⟨2,.data⟩,⟨3,.data⟩],none⟩,
          ⟨some 16,.load te (.tmp 15),te, "iter.go:29", #[⟨4,.data⟩],none⟩,
          ⟨some 17,.call {callee:= .value (.tmp 11),args:= #[.tmp 12,.tmp 16],argTypes:= #[ti,te]},tb, "iter.go:29", #[⟨0,.data⟩,⟨1,.data⟩,⟨5,.data⟩],none⟩,
          ⟨some 18,.unOp .not tb (.tmp 17),tb, "iter.go:29", #[⟨6,.data⟩],none⟩] false)
         (.cond (.tmp 18) .ret .skip)))
       (.region 2 #[⟨some 9,.move (.tmp 3),ti, "iter.go:28", #[],none⟩,
         ⟨some 10,.binOp .sub ti (.tmp 9) (.const (.int .i64 1)) ti,ti, "iter.go:28", #[⟨0,.data⟩],none⟩,
         ⟨some 3,.assign (.tmp 10),ti, "iter.go:28", #[⟨1,.data⟩,⟨0,.phase⟩,⟨1,.phase⟩],none⟩] false)))))
section
variable {P:Program} {Q:Exit→Act→World→Prop} {L:List (Nat×Value)} {w:World} {n:Nat}
theorem OW.round [I:Rd]{o:Oper}{R:Value→World→Prop}(h:∀a,Reads L a→∃l f tmps assign body,(execOp a.eval o).run P w= .ok (.round l f tmps assign body) w∧RoundIn Fence.wide 0 P l f tmps assign body w (jJ R)):OW P Q L o w R:=by
 intro a K ha hK
 obtain⟨l,f,tmps,assign,body,h1,h2⟩:=h a ha
 unfold Oper.wpIn
 rw[DU h1 (fun _ h=>by cases h),Oper.uponIn_round]
 refine⟨fun f _=>trivial,fun h=>by simp[Rd.F,Fence.wide] at h, ?_⟩
 refine(h2:RoundIn Fence.wide 0 P l f tmps assign body w (jJ R)).mono ?_
 rintro e w' ⟨v,rfl,hr⟩
 exact hK v w' hr
theorem OW.yield [I:Rd]{x:Operand}{args:List Operand}{vs:List Value}{l:Nat}{ats:Array TypeId}{d:Option Tmp}{ty:TypeId}{pos:String}{af:Array Edge}{g:Option (Nat×Bool)}{R:Value→World→Prop}(hx:ev L x=some (.func (.yield l) #[] #[]))(ha:lu L args=some vs)
  (hy:YieldAt Fence.wide 0 P l vs.toArray w (jJ R)):OW P Q L ⟨d,.call {callee:= .value x,args:=args.toArray,argTypes:=ats},ty,pos,af,g⟩ w R:=by
 obtain⟨fn,tmps,assign,body,h1,h2⟩:=hy
 refine OW.round fun a hr=>⟨l,fn,tmps,assign,body, ?_,h2⟩
 have h3:args.toArray.map a.eval=vs.toArray:=by rw[←xP hr _ ha];simp
 simp[execOp,resolve,invoke,Deferred.ofValue,hr _ _ hx] at h3⊢
 rw[h3,h1]
def kOf:Option Value→Nat
 |some (.int _ i)=>(i+1).toNat
 |_=>0
def AH(a:Act):Nat:=kOf a.tmps[3]?
theorem Xm [I:Rd]{fn:Func}{R:Value→World→Prop}(oy:fn.results= #[]){L:List (Nat×Value)}(hI:I.ds=[]){w:World}(hR:∀v,R v w):NK n (bodyPost P fn (jJ R) .ret) L w∧NK n (bodyPost P fn (jJ R) .normal) L w:=by
 constructor
 · exact fun a ha=>bodyPost_ret (tN (rs:=[]) (vs:=[]) (fun _ _ hx=>ha.ev hx) (by rw[oy]) trivial) (ha.defers.trans hI) ⟨_,rfl,hR _⟩
 · exact fun a ha=>bodyPost_end (tN (rs:=[]) (vs:=[]) (fun _ _ hx=>ha.ev hx) (by rw[oy]) trivial) (ha.defers.trans hI) ⟨_,rfl,hR _⟩
theorem aby{α:Type}[ad α]{gf:Nat}{fn:Func}{ts te ti tb ty:TypeId}{zs:List Value}{ze:List Value}(hf:P.funcs[gf]? =some fn)(hb:fn.body=some (Ql ts te ti tb ty))(A5:fn.ntmps=19)(oy:fn.results= #[])
  (hu:P.underlying ts=some (.slice te)) (hT:bJ P te α) (Ty:bH P ts false zs) (eK:zs.length=1) (hTe:bH P te (ad.agg α) ze) (hze:ze.length=ad.sz α) (ug:ad.agg α=false→ze.length=1)
  {l b:Nat} {xs:List α} (Inv:Nat→World→Prop) (R:World→Prop)
  (hstep:∀k W,Inv k W→∃(S:Nat→Prop) (u:Value),gm W ⟨b,0,none⟩ [u]∧Rv S W u xs∧∀k' y cs,k=k'+1→xs[k']? =some y→ad.rd S W cs y→
    YieldAt Fence.wide 0 P l #[.int .i64 k',pack (ad.agg α) cs] W (jJ fun v W'=>(v= .bool true∧Inv k' W')∨(v= .bool false∧R W')))
  (afJ:∀W,Inv 0 W→R W) (h0:Inv xs.length w):Calls P gf #[.func (.yield l) #[] #[],dD b 0] w (jJ fun _ w'=>R w'):=by
 refine enter (n:=19) (l:=[.func (.yield l) #[] #[],dD b 0]) hf hb A5 rfl ?_
 refine CW.seq fun K hK=> ?_
 obtain⟨S,u,h1,h2,_⟩:=hstep _ _ h0
 have hlen:xs.length≤maxLen:=by
  obtain⟨p,cap,rfl,e1,e2,_⟩:=n_ h2
  omega
 have hW:Dp.W ((xs.length:Int)-1)=(xs.length:Int)-1:=by
  unfold maxLen at hlen
  exact yM (by omega) (by omega)
 refine CW.region (WL.gP (OW.tW Ty (fun _=>eK) rfl h1 (by rw[eK];rfl)) rfl ?_)
 refine WL.gP (OW.len hu rfl (by exact h2)) rfl ?_
 refine WL.v rfl rfl ?_
 refine WL.v rfl rfl ?_
 refine WL.nil (hK _ _ ?_)
 refine CW.block ?_
 intro a ha
 refine wpIn_loop (fun a w=>∃(k:Nat) (L:List (Nat×Value)),Fr 19 L a∧Dp.sub [(0,.func (.yield l) #[] #[]),(1,dD b 0),(3,.int .i64 ((k:Int)-1))] L∧k≤xs.length∧Inv k w) (fun a _=>AH a) ⟨xs.length,_,ha,⟨rfl,rfl,by rw[←hW];rfl,trivial⟩,Nat.le_refl _,h0⟩ ?_
 rintro a w ⟨k,L,cJ,AY,mN,hinv⟩
 obtain⟨S,u,h1,h2,h3⟩:=hstep _ _ hinv
 have hka:AH a=k:=by
  have:=cJ.get 3 _ (Pp AY rfl)
  unfold AH
  rw[this]
  show((k:Int)-1+1).toNat=k
  omega
 rw[hka]
 obtain⟨K,TD⟩:∃K:Act→World→Prop,K=fun a' w'=>(∃(k:Nat) (L:List (Nat×Value)),Fr 19 L a'∧Dp.sub [(0,.func (.yield l) #[] #[]),(1,dD b 0),(3,.int .i64 ((k:Int)-1))] L∧k≤xs.length∧Inv k w')∧AH a'<k:=⟨_,rfl⟩
 rw[←TD]
 refine CW.sub AY ?_ a cJ
 refine CW.seq fun K1 fv=> ?_
 refine CW.seq fun K2 gy=> ?_
 refine CW.region (WL.v rfl rfl (WL.v rfl rfl ?_))
 refine WL.nil (gy _ _ ?_)
 refine CW.cond rfl (fun hc=>CW.skip (fv _ _ ?_)) (fun hc=>CW.exit ?_)
 · have cZ:0≤(k:Int)-1:=by simpa using hc
   obtain⟨k',rfl⟩:∃k',k=k'+1:=⟨k-1,by omega⟩
   have pH:((k'+1:Nat):Int)-1=(k':Int):=by omega
   rw[pH]
   have Tw:Dp.W ((k':Int)-1)=(k':Int)-1:=by
    unfold maxLen at hlen
    exact yM (by omega) (by omega)
   obtain⟨y,hy⟩:∃y,xs[k']? =some y:=⟨_,List.getElem?_eq_getElem (by omega)⟩
   refine CW.seq fun K3 jy=> ?_
   refine CW.block ?_
   refine CW.seq fun K4 kF=> ?_
   refine CW.region (WL.v rfl rfl (WL.v rfl rfl ?_))
   refine WL.gP (OW.tW Ty (fun _=>eK) rfl h1 (by rw[eK];rfl)) rfl ?_
   refine WL.v rfl rfl ?_
   refine WL.IB (OW.indexAddr (y:=y) hu hT rfl h2 rfl (by unfold idx;simp[hy])) rfl ?_
   rintro v ⟨pa,rfl,⟨cs,d_,gw,hc3⟩,_⟩
   refine WL.gP (OW.tW hTe ug rfl hc3 (by rw[hze];exact ad.len d_)) rfl ?_
   refine WL.step (OW.yield rfl rfl (h3 k' y cs rfl hy d_)) rfl ?_
   rintro v w' (⟨rfl,hi⟩|⟨rfl,hr⟩)
   · refine WL.v rfl rfl (WL.nil (kF _ _ ?_))
     refine CW.cond rfl (fun hc=>by cases hc) (fun _=>CW.skip (jy _ _ ?_))
     refine CW.region (WL.v rfl rfl (WL.v rfl rfl (WL.v rfl rfl (WL.nil ?_))))
     show NK 19 K _ w'
     rw[TD]
     intro a' eY
     refine⟨⟨k',_,eY,⟨rfl,rfl,(by show some (Value.int .i64 (Dp.W ((k':Int)-1)))=_;rw[Tw]),trivial⟩,by omega,hi⟩, ?_⟩
     have:=eY.get 3 _ rfl
     unfold AH
     rw[this]
     show(Dp.W ((k':Int)-1)+1).toNat<k'+1
     rw[Tw]
     omega
   · refine WL.v rfl rfl (WL.nil (kF _ _ ?_))
     refine CW.cond rfl (fun _=> ?_) (fun hc=>by cases hc)
     intro a' eY
     exact wpIn_ret ((Xm (L:=_) oy rfl fun _=>hr).1 a' eY)
 · have lj:k=0:=by
    have:¬(0≤(k:Int)-1):=by simpa using hc
    omega
   subst lj
   intro a' eY
   show(if 0=0 then bodyPost P fn (jJ fun _ w'=>R w') .normal a' w else bodyPost P fn (jJ fun _ w'=>R w') (.exit 0) a' w)
   rw[if_pos rfl]
   exact(Xm (L:=_) oy rfl fun _=>afJ _ hinv).2 a' eY
end
section
variable {D:Nat→Type}
def M2(K:List Nat):List (DV D)→List (A1 D)
 |[]=>[]
 |⟨l,d⟩::r=> .v l d (ua K l) 0::M2 K r
def BR(wr:List Nat)(σ:S D):S D:={σ with sl:=σ.sl.filter fun p=> !(bo wr p.1)}
def D2(T:aV D)(Φ:List (au D))(n:Nat)(xs:List (D n))(K wr:List Nat)(p0 p1:Nat)(assign body:Code)(vC vB:An){ρ:Type}(σ:S D)(k:Out→S D→Option ρ):Option ρ:=match aq σ.sl p0 with
 |some (.c (.one (.v (.int .i64) c _ _)))=>pZ (Kh c 0) (k (.exit 0) (BR wr σ)) (rI (idx xs c) fun y=>match qy (T.ag n) (M2 K (T.out n y)) with
  |some a=>eM T Φ assign vC {σ with sl:=(p1,a)::σ.sl} fun o σ1=>match o with
   | .normal=>eM T Φ body vB σ1 fun o bc=>match o with
     | .normal=>k .normal {bc with sl:=(p0,iv .i64 (rQ c 1) 0)::bc.sl}
     | .ret=>k .ret (BR wr bc)
     |_=>none
   |_=>none
  |none=>none)
 |_=>none
def n9(p0 p1:Nat)(assign body:Code):List Nat:=p0::p1::(writes assign++writes body)
def zR(c:Code):Bool:=gr c&&jt c&&gu c
def Ei(T:aV D)(Φ:List (au D))(Bk:List (Nat×Nat))(g p0 p1:Nat)(assign body:Code)(j:J)(pr:Bool)(E:List (Out×J))(vC vB:An){ρ:Type}(σ:S D)(k:Out→S D→Option ρ):Option ρ:=match aq σ.sl g with
 |some (.c (.one (.fn f fI)))=>match fI with
  |[.ptr i off]=>match aq Bk f,cz σ.ob i with
   |some n,some (.box cs)=>match cs with
    |[.v (.sl n') xs K _]=>if Nat.beq off 0&&Nat.beq n n'&&bo ((kept σ (j.mv++pn E)).map Prod.fst++σ.lk) i&& !(bo (n9 p0 p1 assign body) g)&&j.sl.all (fun p=>Nat.beq p.1 p0)&& !(Nat.beq p0 p1)&&zR assign&&zR body then
       rM T (n9 p0 p1 assign body) j pr E (fun σ k=>D2 T Φ n' xs K (n9 p0 p1 assign body) p0 p1 assign body vC vB σ k) {σ with sl:=(p0,iv .i64 (rQ (len xs) 1) 0)::σ.sl} fun o σ1=>match o with
        | .exit _=>k .normal σ1
        | .ret=>k .ret σ1
        |_=>none
     else none
    |_=>none
   |_,_=>none
  |_=>none
 |_=>none
def rz:Code→Option (Code×Nat×Nat×Nat×Nat×Code×Code)
 | .seq r (.block id (.rangeFunc (.tmp g) ps assign body))=>match ps.toList with
   |[p0,p1]=>some (r,id,g,p0,p1,assign,body)
   |_=>none
 |_=>none
def P5:An→Option (J×Bool×List (Out×J)×An)
 | .loop j pr E x=>some (j,pr,E,x)
 |_=>none
def BW(T:aV D)(Φ:List (au D))(Bk:List (Nat×Nat)):Code→An→∀{ρ:Type},S D→(Out→S D→Option ρ)→Option ρ
 | .seq a b,an,_,σ,k=>match rz (.seq a b) with
   |some (r,id,g,p0,p1,assign,body)=>match P5 an.b with
    |some (j,pr,E,x)=>lq an.a.fz σ fun σ=>eM T Φ r an.a.un σ fun o σ1=>match o with
     | .normal=>Ei T Φ Bk g p0 p1 assign body j pr E x.a x.b σ1 k
     |o=>k o σ1
    |none=>none
   |none=>match rz a with
   |some (r,id,g,p0,p1,assign,body)=>match P5 an.a.b with
    |some (j,pr,E,x)=>lq an.a.a.fz σ fun σ=>eM T Φ r an.a.a.un σ fun o σ1=>match o with
     | .normal=>Ei T Φ Bk g p0 p1 assign body j pr E x.a x.b σ1 fun o bc=>match o with
       | .normal=>eM T Φ b an.b bc k
       |o=>k o bc
     |o=>k o σ1
    |none=>none
   |none=>lq an.a.fz σ fun σ=>eM T Φ a an.a.un σ fun o σ1=>match o with
    | .normal=>BW T Φ Bk b an.b σ1 k
    |o=>k o σ1
 |_,_,_,_,_=>none
def Ev:Code→Bool
 | .seq a b=>(match rz (.seq a b) with
   |some x=>gr x.1&&jt x.1
   |none=>match rz a with
   |some x=>gr x.1&&jt x.1&&gr b&&jt b
   |none=>gr a&&jt a&&Ev b)
 |_=>true
def I'(T:aV D)(Φ:List (au D))(Bk:List (Nat×Nat))(c:au D)(rs:List ResultVar)(code:Code)(an:An)(h:HH D c.ins):Option (HH D c.outs):=match Ev code with
 |true=>match xR T c h with
  |some σ=>lq an.fz σ fun σ=>BW T Φ Bk code an.un σ (rA T c rs)
  |none=>none
 |false=>none
end
section
variable {D:Nat→Type} [∀n,ad (D n)]
variable {P:Program} {T:aV D} {Φ:List (au D)} {n:Nat}
variable {γ γ' vF:Gh D} {w w' o8:World} {Z:List Nat}
structure ik(Z:List Nat)(γ:Gh D)(w:World)(γ':Gh D)(w':World):Prop where
 os:w'.os=w.os
 tape:w'.tape=w.tape
 output:w'.output=w.output
 size:w.heap.size≤w'.heap.size
 ro:∀b,b∉Z→b<w.heap.size→(γ.o b=0∨γ.o b=3)→γ'.o b=γ.o b∧w'.heap[b]? =w.heap[b]?
 back:∀b,b∉Z→b<w'.heap.size→(γ'.o b=0∨γ'.o b=3)→b<w.heap.size∧γ.o b=γ'.o b
 gk:∀i,i<2000→γ'.g i=γ.g i
theorem ik.of(h:Rx.Frame γ w γ' w'):ik Z γ w γ' w':=⟨h.os,h.tape,h.output,h.size,fun b _=>h.ro b,fun b _=>h.back b,h.gk⟩
theorem ik.trans(h:ik Z γ w γ' w')(k:ik Z γ' w' vF o8):ik Z γ w vF o8:=by
 refine⟨k.os.trans h.os,k.tape.trans h.tape,k.output.trans h.output,Nat.le_trans h.size k.size,fun b hz hb hc=> ?_,fun b hz hb hc=> ?_,fun i hi=>(k.gk i hi).trans (h.gk i hi)⟩
 · obtain⟨h1,h2⟩:=h.ro b hz hb hc
   obtain⟨k1,k2⟩:=k.ro b hz (Nat.lt_of_lt_of_le hb h.size) (by rw[h1];exact hc)
   exact⟨k1.trans h1,k2.trans h2⟩
 · obtain⟨k1,k2⟩:=k.back b hz hb hc
   obtain⟨h1,h2⟩:=h.back b hz k1 (by rw[k2];exact hc)
   exact⟨h1,h2.trans k2⟩
theorem ik.frame(h:ik Z γ w γ' w')(h1:∀b∈Z,w.heap.size≤b)(h2:∀b∈Z,γ'.o b=2):Rx.Frame γ w γ' w':=
 ⟨⟨h.os,h.tape,h.output,h.size,fun b hb hc=>h.ro b (fun hz=>by have:=h1 b hz;omega) hb hc,fun b hb hc=>h.back b (fun hz=>by rw[h2 b hz] at hc;omega) hb hc⟩,h.gk⟩
def iK(γ:Gh D)(Z:List Nat)(c:Nat):Gh D:=⟨fun b=>if b∈Z then c else γ.o b,γ.g,γ.v⟩
theorem jr{c b:Nat}(h:b∈Z):(iK γ Z c).o b=c:=by simp[iK,h]
theorem wO{c b:Nat}(h:b∉Z):(iK γ Z c).o b=γ.o b:=by simp[iK,h]
structure WZ(Z:List Nat)(w w':World):Prop where
 os:w'.os=w.os
 tape:w'.tape=w.tape
 output:w'.output=w.output
 size:w.heap.size≤w'.heap.size
 same:∀b,b∉Z→b<w.heap.size→w'.heap[b]? =w.heap[b]?
 new:∀b,b<w'.heap.size→b<w.heap.size∨b∈Z
theorem WZ.refl(Z:List Nat)(w:World):WZ Z w w:=⟨rfl,rfl,rfl,Nat.le_refl _,fun _ _ _=>rfl,fun _ h=> .inl h⟩
theorem WZ.put{l:Nat}{o:Obj}(h:l∈Z):WZ Z w (w.putObj l o):=
 ⟨rfl,rfl,rfl,by simp,fun b hb _=>World.putObj_heap_other fun e=>hb (e▸h),fun b hb=> .inl (by simpa using hb)⟩
theorem ik.wz{c:Nat}(h:WZ Z w w'):ik Z γ w (iK γ Z c) w':=
 ⟨h.os,h.tape,h.output,h.size,fun b hz hb _=>⟨wO hz,h.same b hz hb⟩,fun b hz hb _=>⟨(h.new b hb).resolve_right hz,(wO hz).symm⟩,fun _ _=>rfl⟩
theorem Kn.wz{σ:S D}{L:List (Nat×Value)}{c:Nat}(hk:Kn σ γ w L)(hc:c=2∨c=3)(hZ:∀b∈Z,b<w.heap.size→γ.o b=2∨γ.o b=3)(h:WZ Z w w'):Kn σ (iK γ Z c) w' L:=by
 have dY:fx (fun i=>i<σ.nx) (fun i=>i<σ.nx) γ w (iK γ Z c) w':=⟨fun _ h=>h,fun _ _=>rfl,fun _ _=>rfl,fun b hb aQ=>by
  have hz:b∉Z:=fun hz=>by have:=hZ b hz hb;omega
  exact⟨wO hz,h.same b hz hb⟩⟩
 refine⟨hk.sr.cp dY,⟨fun i x hx=> ?_,fun b hb=> ?_,hk.ob.ro⟩,hk.bS⟩
 · obtain⟨h1,h2,h3⟩:=hk.ob.ob i x hx
   refine⟨h1,h2,h3.cp dY h2 fun b hb FH=> ?_⟩
   have hz:b∉Z:=fun hz=>by have:=hZ b hz hb;omega
   exact⟨wO hz,h.same b hz hb⟩
 · have:=hk.bS
   by_cases hz:b∈Z
   · rw[jr hz]
     show c<σ.nx
     omega
   · rw[wO hz]
     exact hk.ob.cl b ((h.new b hb).resolve_right hz)
def iV(a:Act):List (Nat×Value):=oT 0 a.tmps.toList
theorem Rj:∀(l:List Value) (k t:Nat) (v:Value),k≤t→l[t-k]? =some v→Dp.look (oT k l) t=some v
 |[],k,t,v,_,h=>by simp at h
 |u::r,k,t,v,hk,h=>by
  unfold oT
  by_cases SL:k=t
  · subst SL
    rw[mD]
    simpa using h
  · rw[kX _ _ SL]
    refine Rj r (k+1) t v (by omega) ?_
    rw[show t-k=(t-(k+1))+1 by omega] at h
    simpa using h
theorem AD{a:Act}{t:Nat}{v:Value}:Dp.look (iV a) t=some v↔a.tmps[t]? =some v:=by
 constructor
 · intro h
   obtain⟨_,h2⟩:=JU _ _ _ _ h
   simpa using h2
 · intro h
   exact Rj _ _ _ _ (Nat.zero_le _) (by simpa using h)
theorem Kn.all [Rd]{σ:S D}{L:List (Nat×Value)}{a:Act}(h:Kn σ γ w L)(ha:Fr n L a):Kn σ γ w (iV a):=
 ⟨fun t x hx=>by
   obtain⟨v,h1,h2⟩:=h.sr t x hx
   exact⟨v,AD.2 (ha.get t v h1),h2⟩,h.ob,h.bS⟩
theorem ag7 [Rd]{L:List (Nat×Value)}{a:Act}(ha:Fr n L a):Fr n (iV a) a:=⟨ha.size,ha.defers,fun t v h=>AD.1 h,ha.fix⟩
theorem RU{j:J}{wr mv:List Nat}{σ bc:S D}{h:HH D j.ci}(hi:kZ T j wr mv σ h=some bc){t:Nat}{a:AV D}(ht:aq bc.sl t=some a):(t∈j.sl.map Prod.fst∧t∈wr)∨t∉wr:=by
 unfold kZ at hi
 dsimp only at hi
 split at hi
 case isFalse=>cases hi
 rename_i hc
 split at hi
 case h_2=>cases hi
 rename_i sa sb mJ KF
 cases hi
 simp only[Bool.and_eq_true,List.all_eq_true] at hc
 simp only at ht
 rw[gU] at ht
 cases hl:aq sa t with
 |some x=>
  unfold lQ at mJ
  split at mJ
  case h_2=>cases mJ
  cases mJ
  have hk:=HX hl
  obtain⟨q,hq,e⟩:=List.mem_map.1 hk
  exact .inl ⟨hk,e▸dE.1 (hc.1.2 q hq)⟩
 |none=>
  rw[hl] at ht
  right
  intro hw
  have:=tV (f:=fun t=> !(bo wr t)) (l:=σ.sl) (t:=t)
  rw[dE.2 hw] at this
  simp only[Bool.not_true,Bool.false_eq_true,if_false] at this
  simp only at ht
  rw[this] at ht
  cases ht
theorem ahG{j:J}{σ:S D}{h:HH D j.ci}(hx:vE T j σ h){t:Nat}(ht:t∈j.sl.map Prod.fst):∃a,aq σ.sl t=some a:=by
 obtain⟨dC,l,m,ha,_⟩:=hx.ex
 have key:∀{js:List (Nat×PC)} {dC:List (AV D)},vv σ.sl js=some dC→t∈js.map Prod.fst→∃a,aq σ.sl t=some a:=by
  intro js
  induction js with
  |nil=>intro dC _ h;simp at h
  |cons q js ih=>
   intro dC h hm
   obtain⟨t0,p⟩:=q
   simp only[vv] at h
   split at h
   case h_2=>cases h
   rename_i x y h1 h2
   simp only[List.map_cons,List.mem_cons] at hm
   rcases hm with rfl|hm
   · exact⟨x,h1⟩
   · exact ih h2 hm
 exact key ha ht
theorem BQ{wr:List Nat}{σ:S D}{t:Nat}:aq (BR wr σ).sl t=if t∈wr then none else aq σ.sl t:=by
 have:=tV (f:=fun t=> !(bo wr t)) (l:=σ.sl) (t:=t)
 unfold BR
 simp only
 rw[this]
 by_cases h:t∈wr
 · rw[dE.2 h];simp[h]
 · have:bo wr t=false:=by
    cases hm:bo wr t with
    |true=>exact(h (dE.1 hm)).elim
    |false=>rfl
   rw[this];simp[h]
theorem UH{U:Nat→Prop}{K:List Nat}(hK:cU K):∀{ds:List (DV D)} {us:List Value},bE (In γ.o K) w us ds→cd U γ w (M2 K ds) us
 |[],[],_=>trivial
 |⟨lf,x⟩::ds,u::us,h=>by
  refine⟨⟨?_,.inl rfl, ?_⟩,UH hK h.2⟩
  · have h1:=h.1
    cases lf with
    |sl m=>exact h1
    |_=>exact h1
  · cases lf with
    |sl m=>exact hK
    |_=>exact fun _ h=>by cases h
 |[],_::_,h=>h.elim
 |_::_,[],h=>h.elim
theorem Kn.drop{σ:S D}{L:List (Nat×Value)}(h:Kn σ γ w L)(wr:List Nat):Kn (BR wr σ) γ w L:=
 ⟨fun t x hx=>by
   rw[BQ] at hx
   split at hx
   · cases hx
   · exact h.sr t x hx,h.ob,h.bS⟩
theorem Kn.Qe{σ:S D}{L L':List (Nat×Value)}(h:Kn σ γ w L)(hs:∀t x v,aq σ.sl t=some x→Dp.look L t=some v→Dp.look L' t=some v):Kn σ γ w L':=
 ⟨fun t x hx=>by
   obtain⟨v,h1,h2⟩:=h.sr t x hx
   exact⟨v,hs t x v hx h1,h2⟩,h.ob,h.bS⟩
theorem EQ{σ ρ:Type}{step:σ→Option (σ⊕ρ)}{N:Nat}{s:σ}{r:ρ}(h:kW step N s=some r):∃N' y,N=N'+1∧step s=some y∧((∃s',y= .inl s'∧kW step N' s'=some r)∨y= .inr r):=by
 cases N with
 |zero=>cases h
 |succ N'=>
  rw[Rf] at h
  cases hs:step s with
  |none=>rw[hs] at h;cases h
  |some y=>
   rw[hs] at h
   cases y with
   |inl s'=>exact⟨N',_,rfl,rfl,.inl ⟨s',rfl,h⟩⟩
   |inr r'=>cases h;exact⟨N',_,rfl,rfl,.inr rfl⟩
theorem abT{U:Nat→Prop}{g:Bool}{cs:List (A1 D)}{us:List Value}{x:AV D}(h:cd U γ w cs us)(hx:qy g cs=some x):eP U γ w x (pack g us):=by
 unfold qy at hx
 cases g with
 |true=>cases hx;exact⟨us,rfl,h⟩
 |false=>
  simp only[Bool.false_eq_true,if_false] at hx
  match cs,us,h,hx with
  |[c],[u],h,hx=>cases hx;exact h.1
  |[],[],_,hx=>cases hx
  |c::c'::r,_,_,hx=>cases hx
def CG(P:Program)(T:aV D)(q:Nat×Nat):Prop:=∃(fn:Func) (ts te ti tb ty:TypeId) (cj:gY),Nat.blt q.1 1000000=true∧(∀(args:Array Value) (w:World),(callFunc q.1 args).run P w= .ok (.enter q.1 args) w)∧P.funcs[q.1]? =some fn∧fn.body=some (Ql ts te ti tb ty)∧fn.ntmps=19∧fn.results= #[]∧
 aq T.bV ts=some (te,q.2)∧aq T.ty ts=some (.one (.sl q.2))∧aq T.ty te=some cj∧cj.agg=T.ag q.2∧cj.n T=(T.lv q.2).length
def mark(b:Nat):Deferred:={target:= .collected b,args:= #[]}
@[reducible] def Rd.mj (b:Nat):Rd:=⟨none,[mark b],fun _=>none⟩
theorem Qn(hP:dg P T)(hR:bR T)(cH:∀c∈Φ,il P T c)(hm:P.follows .mixedOrders=true){Bk:List (Nat×Nat)}(hB:∀q∈Bk,CG P T q){id g p0 p1:Nat}{assign body:Code}{j:J}{pr:Bool}{E:List (Out×J)}{vC vB:An}{ρ:Type}{σ:S D}{k:Out→S D→Option ρ}{r:ρ}{γ:Gh D}{w:World}{L:List (Nat×Value)}{Q:Exit→Act→World→Prop}
  (h:Ei T Φ Bk g p0 p1 assign body j pr E vC vB σ k=some r) (hk:Kn σ γ w L) (hd:∀t∈n9 p0 p1 assign body,Nat.blt t n=true)
  (hc:∀b o σ1 aF w1 L1,Kn σ1 aF w1 L1→Rx.Frame γ w aF w1→w.heap.size≤b→b<w1.heap.size→aF.o b=2→w1.heap[b]? =some (.deferred (some []))→k o σ1=some r→o= .normal∨o= .ret→∀a1,@Fr (Rd.mj b) n L1 a1→Q (toX o) a1 w1):
  CW P n (.block id (.rangeFunc (.tmp g) #[p0,p1] assign body)) Q L w:=by
 intro a ha
 refine wpIn_block (wpIn_rangeFunc fun TS _=> ?_)
 unfold Ei at h
 split at h
 case h_2=>cases h
 rename_i f fI hg
 split at h
 case h_2=>cases h
 rename_i i off
 split at h
 case h_2=>cases h
 rename_i nn cs su bb
 split at h
 case h_2=>cases h
 rename_i n' xs K gx
 split at h
 case isFalse=>cases h
 rename_i qS
 obtain⟨wr,AW⟩:∃wr,wr=n9 p0 p1 assign body:=⟨_,rfl⟩
 rw[←AW] at h qS hd
 simp only[Bool.and_eq_true,Bool.not_eq_true'] at qS
 obtain⟨⟨⟨⟨⟨⟨⟨c1,c2⟩,c3⟩,c4⟩,c5⟩,c6⟩,c7⟩,c8⟩:=qS
 have c1:=Nat.eq_of_beq_eq_true c1
 have c2:=Nat.eq_of_beq_eq_true c2
 subst c1 c2
 have alY:p0≠p1:=fun e=>by subst e;simp at c6
 have Lq:g∉wr:=kj c4
 have pD:p0∈wr:=by rw[AW];unfold n9;simp
 have Fk:p1∈wr:=by rw[AW];unfold n9;simp
 have Fv:=hk.all ha
 have afu:=ag7 ha
 have FI:=ha.size
 obtain⟨gv,SX,Gq,S3,hgc⟩:=Fv.sr g _ hg
 obtain⟨bv,LP,FH⟩:∃b,γ.g i=dD b 0∧Gq=[dD b 0]:=by
  match Gq,hgc with
  |[v],⟨⟨_,b,h1,h2⟩,_⟩=>exact⟨b,h1,by rw[h2]⟩
 subst FH
 obtain⟨fn,ts,te,ti,tb,ty,cj,b1,b2,b3,b4,b5,b6,b7,b8,b9,NP,Xt⟩:=hB (f,nn) (cA su)
 dsimp only at b1 b2 b3 b7 b8 NP Xt
 have afq:gv= .func (.func f) #[] #[dD bv 0]:=by rw[S3];unfold pT;rw[if_pos b1]
 obtain⟨aJ,AN⟩:∃aJ:S D,aJ={σ with sl:=(p0,iv .i64 (rQ (len xs) 1) 0)::σ.sl}:=⟨_,rfl⟩
 rw[←AN] at h
 have bB:Kn aJ γ w ((p0,.int .i64 (rQ (len xs) 1))::iV a):=by
  rw[AN]
  exact⟨Fv.sr.cons ⟨rfl,.inl rfl,fun _ h=>by cases h⟩,Fv.ob,Fv.bS⟩
 have aeX:aJ.lk=σ.lk:=by rw[AN]
 have xz:aJ.ob=σ.ob:=by rw[AN]
 unfold rM at h
 obtain⟨h0,jT,h⟩:=pV h
 obtain⟨x,hx,hf⟩:=p_ h
 clear h
 obtain⟨mv,A9⟩:∃mv,mv=j.mv++pn E:=⟨_,rfl⟩
 rw[←A9] at hx hf jT c3
 obtain⟨lk,li⟩:∃lk,lk=(kept aJ mv).map Prod.fst++aJ.lk:=⟨_,rfl⟩
 rw[←li] at hx jT
 have je:i∈lk:=by
  rw[li]
  unfold kept at c3⊢
  rw[xz,aeX]
  exact dE.1 c3
 obtain⟨ub,Le⟩:∃ub:Out→S D→Option ρ,ub=fun o σ1=>match o with
  | .exit _=>k .normal σ1
  | .ret=>k .ret σ1
  |_=>none:=⟨_,rfl⟩
 rw[←Le] at hf hx
 obtain⟨step,hstep,hx⟩:∃step:HH D j.ci→Option (HH D j.ci⊕nP D pr ρ E),(∀h y,step h=some y→∃cn,kZ T j wr mv aJ h=some cn∧∃kk:Out→S D→Option (HH D j.ci⊕nP D pr ρ E),(∀σ1,kk .normal σ1=qX T j σ1 fun h'=>some (.inl h'))∧
   (∀o σ1,o≠.normal→kk o σ1=match toE T pr E o σ1 (ub o {σ1 with lk:=aJ.lk}) with
     |some x=>some (.inr x)
     |none=>none)∧D2 T Φ nn xs K wr p0 p1 assign body vC vB {cn with lk:=lk} kk=some y)∧aC step h0=some x:=by
  refine⟨_,fun h y hy=> ?_,hx⟩
  dsimp only at hy
  split at hy
  case h_2=>cases hy
  rename_i cn jR
  exact⟨cn,jR,_,fun _=>rfl,fun o σ1 ho=>by cases o<;>first|rfl|exact(ho rfl).elim,hy⟩
 obtain⟨rec,r_⟩:∃rec:LoopState→Option Code→Loop,rec=fun st pe=>{state:=st,pending:=pe,fn:=TS,tmps:=a.tmps,params:= #[p0,p1],assign,body,defers:=w.heap.size}:=⟨_,rfl⟩
 obtain⟨W1,FK⟩:∃W1,(w.alloc (.deferred (some []))).alloc (.loop (rec .ready none))=W1:=⟨_,rfl⟩
 obtain⟨l,hl⟩:∃l,l=w.heap.size+1:=⟨_,rfl⟩
 have hL1:W1.heap[l]? =some (.loop (rec .ready none)):=by
  rw[←FK,hl];have:=World.alloc_heap_new (w.alloc (.deferred (some []))) (.loop (rec .ready none));rwa[World.size_alloc] at this
 have fv:W1.heap[w.heap.size]? =some (.deferred (some [])):=by
  rw[←FK];exact(Below.heap_alloc _ _ _ (by simp)).trans (World.alloc_heap_new w _)
 obtain⟨Z,hZ⟩:∃Z:List Nat,Z=[w.heap.size,l]:=⟨_,rfl⟩
 have uC:l∈Z:=by rw[hZ];simp
 have Md:w.heap.size∈Z:=by rw[hZ];simp
 have Tt:∀b∈Z,w.heap.size≤b:=fun b hb=>by
  rw[hZ] at hb
  simp only[List.mem_cons,List.not_mem_nil,or_false] at hb
  omega
 have FR:w.heap.size≠l:=by omega
 have Tv:WZ Z w W1:=by
  rw[←FK]
  refine⟨rfl,rfl,rfl,by simp;omega,fun b hb aQ=> ?_,fun b hb=> ?_⟩
  · rw[Below.heap_alloc _ _ _ (by simp;omega),Below.heap_alloc _ _ _ aQ]
  · rw[World.size_alloc,World.size_alloc] at hb
    rw[hZ]
    simp only[List.mem_cons,List.not_mem_nil,or_false]
    omega
 obtain⟨R,LY⟩:∃R:World→Prop,R=fun W=>∃st jump o σ1 aF,st≠.busy∧W.heap[l]? =some (.loop (rec st jump))∧W.heap[w.heap.size]? =some (.deferred (some []))∧Kn σ1 aF W (iV a)∧ik Z γ w aF W∧(∀b∈Z,aF.o b=2)∧k o σ1=some r∧((jump=none∧o= .normal)∨(jump=some .ret∧o= .ret)):=⟨_,rfl⟩
 obtain⟨Inv,Ma⟩:∃Inv:Nat→World→Prop,Inv=fun(m:Nat) W=>∃N h' cn lD,kW step N h'=some x∧kZ T j wr mv aJ h'=some cn∧Kn cn lD W ((p0,.int .i64 ((m:Int)-1))::iV a)∧ik Z γ w lD W∧bx wr {aJ with lk:=lk} {cn with lk:=lk}∧(∀b∈Z,lD.o b=2)∧W.heap[l]? =some (.loop (rec .ready none))∧W.heap[w.heap.size]? =some (.deferred (some [])):=⟨_,rfl⟩
 have afU:Calls P f #[.func (.yield l) #[] #[],dD bv 0] W1 (jJ fun _ w'=>R w'):=by
  have head:∀{m:Nat} {N:Nat} {s:HH D j.ci} {σ1:S D} {aF:Gh D} {W:World} {L1:List (Nat×Value)},kW step N s=some x→Kn σ1 aF W L1→bx wr {aJ with lk:=lk} σ1→vE T j σ1 s→ik Z γ w aF W→(∀b∈Z,aF.o b=3)→W.heap[l]? =some (.loop (rec .ready none))→W.heap[w.heap.size]? =some (.deferred (some []))→
    (∀t v,t∉wr∨t=p0→Dp.look L1 t=some v→Dp.look ((p0,.int .i64 ((m:Int)-1))::iV a) t=some v)→Inv m W:=by
   intro m N s σ1 aF W L1 hN cZ he hxr cJ cg E8 Sb uo
   obtain⟨N',y,_,hs,_⟩:=EQ hN
   obtain⟨cn,jR,_⟩:=hstep _ _ hs
   obtain⟨aY,k1,k2,k3,_⟩:=uc hR li bB cZ he hxr jR
   have Br:∀b∈Z,b<W.heap.size:=fun b hb=>by
    rw[hZ] at hb
    simp only[List.mem_cons,List.not_mem_nil,or_false] at hb
    rcases hb with rfl|rfl
    · exact(Array.getElem?_eq_some_iff.1 Sb).1
    · exact(Array.getElem?_eq_some_iff.1 E8).1
   have pN:∀b∈Z,aY.o b=3:=fun b hb=>by
    rw[(k2.ro b (Br b hb) (.inr (cg b hb))).1];exact cg b hb
   rw[Ma]
   refine⟨N,s,cn,iK aY Z 2,hN,jR,(k1.wz (.inl rfl) (fun b hb _=> .inr (pN b hb)) (.refl Z W)).Qe fun t y v hy hv=>uo t v ?_ hv,(cJ.trans (.of k2)).trans (.wz (.refl Z W)),k3,fun b hb=>jr hb,E8,Sb⟩
   rcases RU jR hy with⟨h1,_⟩|h1
   · right
     obtain⟨q,hq,rfl⟩:=List.mem_map.1 h1
     exact Nat.eq_of_beq_eq_true (List.all_eq_true.1 c5 q hq)
   · exact .inl h1
  have Rt:∀{o:Out} {s:HH D j.ci} {y:HH D j.ci⊕nP D pr ρ E} {N:Nat} {σ1:S D} {aF:Gh D} {W:World} {L1:List (Nat×Value)},kW step N s=some x→step s=some y→(match toE T pr E o σ1 (ub o {σ1 with lk:=aJ.lk}) with|some x=>some (.inr x)|none=>none)=some y→
    Kn σ1 aF W L1→bx wr {aJ with lk:=lk} σ1→(∀t,t∈wr→aq σ1.sl t=none)→ik Z γ w aF W→(∀b∈Z,aF.o b=3∧b<W.heap.size)→(∀t v,t∉wr→Dp.look L1 t=some v→Dp.look (iV a) t=some v)→∃bc aY,Kn bc aY W (iV a)∧ik Z γ w aY W∧(∀b∈Z,aY.o b=2)∧ub o bc=some r:=by
   intro o s y N σ1 aF W L1 hN hs hz cZ he iw cJ cg uo
   split at hz
   case h_2=>cases hz
   rename_i x' cD
   have hz:=(Option.some.inj hz).symm
   subst hz
   obtain⟨N',y',_,lS,en⟩:=EQ hN
   rw[hs] at lS
   cases lS
   rcases en with⟨s',h1,_⟩|h1
   · cases h1
   cases h1
   have fin:∀{bc:S D} {aY:Gh D},Kn bc aY W L1→Rx.Frame aF W aY W→(∀t x,aq bc.sl t=some x→t∉wr)→ub o bc=some r→∃bc aY,Kn bc aY W (iV a)∧ik Z γ w aY W∧(∀b∈Z,aY.o b=2)∧ub o bc=some r:=by
    intro bc aY k1 k2 k3 k4
    have pN:∀b∈Z,aY.o b=3:=fun b hb=>by
     rw[(k2.ro b (cg b hb).2 (.inr (cg b hb).1)).1];exact(cg b hb).1
    exact⟨bc,iK aY Z 2,(k1.wz (.inl rfl) (fun b hb _=> .inr (pN b hb)) (.refl Z W)).Qe fun t y v hy hv=>uo t v (k3 t y hy) hv,(cJ.trans (.of k2)).trans (.wz (.refl Z W)),fun b hb=>jr hb,k4⟩
   rcases vR cD hf with⟨j',y2,bc,h1,h2,h3⟩|h1
   · obtain⟨aY,k1,k2,k3,_⟩:=uc hR li bB cZ he h1 h2
     refine fin k1 k2 (fun t z ht=> ?_) h3
     rcases RU h2 ht with⟨m1,m2⟩|m1
     · obtain⟨z',kw⟩:=ahG h1 m1
       rw[iw t m2] at kw
       cases kw
     · exact m1
   · refine fin (cZ.lk _) (Rx.Frame.refl _ _) (fun t z ht hw=> ?_) h1
     have ht:aq σ1.sl t=some z:=ht
     rw[iw t hw] at ht
     cases ht
  have jg:∀{aY:Gh D} {W:World} {bc:S D} {m:Nat} {c:Int} {K':List Nat} {g':Nat},Kn bc aY W ((p0,.int .i64 ((m:Int)-1))::iV a)→aq bc.sl p0=some (.c (.one (.v (.int .i64) c K' g')))→c=(m:Int)-1:=by
   intro aY W bc m c K' g' uD hl
   obtain⟨v,h1,h2⟩:=uD.sr p0 _ hl
   rw[mD] at h1
   cases h1
   have h2:Value.int .i64 ((m:Int)-1)= .int .i64 c:=h2.1
   cases h2
   rfl
  refine aby (α:=D nn) (xs:=xs) b3 b4 b5 b6 (hP.bV ts te nn b7).1 (hP.bV ts te nn b7).2 (hP.ty ts _ b8).1 rfl (ze:=vH T cj) ?_ (by rw[vG,Xt,hR.sz]) (fun h=>CJ T cj (by rw[NP,←hR.ag];exact h)) Inv R ?_ ?_ ?_
  · have:=(hP.ty te cj b9).1
    rw[hR.ag,←NP]
    exact this
  · intro m W hi
    rw[Ma] at hi
    obtain⟨N,h',cn,lD,i1,i2,i3,i4,i5,i6,i7,i8⟩:=hi
    have aeQ:cz cn.ob i=some (.box [.v (.sl nn) xs K gx]):=by
     have h1:=i5.ob i je
     unfold cz at bb⊢
     have h1:aq cn.ob i=aq aJ.ob i:=h1
     rw[h1,xz]
     exact bb
    obtain⟨_,_,b',us,t',o1,o2,o3,o4,o5⟩:=i3.ob.ob i _ aeQ
    obtain⟨u,rfl,o6⟩:∃u,us=[u]∧dK (fun i=>i<cn.nx) lD W (.v (.sl nn) xs K gx) u:=by
     match us,o4 with
     |[u],⟨h1,_⟩=>exact⟨u,rfl,h1⟩
    have LR:b'=bv:=by
     have hlg:aq cn.sl g=some (.c (.one (.fn f [.ptr i 0]))):=by
      have h1:aq cn.sl g=aq aJ.sl g:=i5.sl g Lq
      rw[h1,AN]
      have be:Nat.beq p0 g=false:=by
       cases hb:Nat.beq p0 g with
       |true=>have:=Nat.eq_of_beq_eq_true hb;subst this;exact(Lq pD).elim
       |false=>rfl
      simp only[aq,be,cond_false]
      exact hg
     obtain⟨v,v1,Gq,v2,v3⟩:=i3.sr g _ hlg
     rw[kX _ _ (fun e:p0=g=>Lq (e▸pD)),SX] at v1
     cases v1
     rw[S3] at v2
     unfold pT at v2
     rw[if_pos b1,if_pos b1] at v2
     match Gq,v3,v2 with
     |[v],⟨⟨_,b2',h1,h2⟩,_⟩,v2=>
      rw[h2] at v2
      simp at v2
      rw[o1] at h1
      have e1:=(wQ h1).1
      have e2:=(wQ v2).1
      omega
    subst LR
    refine⟨In lD.o K,u, ?_,o6.1,fun m' y cs hm hy sd=> ?_⟩
    · have:=GD o3 0 1
      simpa using this
    subst hm
    have R5:=run_yield (P:=P) (args:= #[.int .i64 (m':Int),pack (ad.agg (D nn)) cs]) i7 (by rw[r_];rfl)
    rw[r_] at R5
    refine⟨TS,_,assign,body,R5,roundIn_of_wpIn trivial ?_⟩
    obtain⟨N',yy,hN',hs,Fo⟩:=EQ i1
    obtain⟨X7,jR,kk,RC,J5,mF⟩:=hstep _ _ hs
    rw[i2] at jR
    cases jR
    unfold D2 at mF
    split at mF
    case h_2=>cases mF
    rename_i c K' g' lZ
    have d_:c=(m':Int):=(jg i3 lZ).trans (by omega)
    subst d_
    rcases BZ mF with⟨jh,_⟩|⟨_,mF⟩
    · exact absurd (of_decide_eq_true jh) (by omega)
    obtain⟨y',E6,mF⟩:=p_ mF
    have hye:y'=y:=by
     unfold idx at E6
     rw[if_pos (by omega)] at E6
     have:((m':Int)).toNat=m':=by omega
     rw[this,hy] at E6
     exact(Option.some.inj E6).symm
    subst hye
    split at mF
    case h_2=>cases mF
    rename_i av hav
    obtain⟨I,hI⟩:∃I:Rd,I=⟨some l,[],fun t=>if bo wr t then none else a.tmps[t]?⟩:=⟨_,rfl⟩
    have hIF:I.F=Fence.wide.inRound l:=by rw[hI];rfl
    have hIr:I.ro=none∨gu assign=true:= .inr (by unfold zR at c7;rw[Bool.and_eq_true] at c7;exact c7.2)
    have agE:I.ro=none∨gu body=true:= .inr (by unfold zR at c8;rw[Bool.and_eq_true] at c8;exact c8.2)
    unfold zR at c7 c8
    simp only[Bool.and_eq_true] at c7 c8
    have SB:∀t∈wr,I.fp n t=true:=fun t ht=>by
     unfold Rd.fp
     rw[hd t ht,hI]
     simp only[dE.2 ht,if_true]
     rfl
    have Sa:∀t∈writes assign,t∈wr:=fun t ht=>by rw[AW];unfold n9;simp[ht]
    have R_:∀t∈writes body,t∈wr:=fun t ht=>by rw[AW];unfold n9;simp[ht]
    have Br:∀b∈Z,b<W.heap.size:=fun b hb=>by
     rw[hZ] at hb
     simp only[List.mem_cons,List.not_mem_nil,or_false] at hb
     rcases hb with rfl|rfl
     · exact(Array.getElem?_eq_some_iff.1 i8).1
     · exact(Array.getElem?_eq_some_iff.1 i7).1
    have qN:Kn {cn with lk:=lk,sl:=(p1,av)::cn.sl} (iK lD Z 3) W ((p1,pack (ad.agg (D nn)) cs)::(p0,.int .i64 (m':Int))::iV a):=by
     have h1:Kn {cn with lk:=lk} (iK lD Z 3) W ((p0,.int .i64 (m':Int))::iV a):=by
      have:=(i3.lk lk).wz (c:=3) (.inr rfl) (fun b hb _=> .inl (i6 b hb)) (.refl Z W)
      rwa[show(((m'+1:Nat):Int)-1)=(m':Int) by omega] at this
     have TC:In (iK lD Z 3).o K=In lD.o K∨True:= .inr trivial
     refine⟨h1.sr.cons ?_,h1.ob,h1.bS⟩
     have aez:ad.rd (In (iK lD Z 3).o K) W cs y':=ad.mono (fun b hb aQ=>by
      refine⟨?_,rfl⟩
      have sw:lD.o b∈K:=hb
      have hz:b∉Z:=fun hz=>by have:=o6.2.2 _ sw;rw[i6 b hz] at this;omega
      show(iK lD Z 3).o b∈K
      rw[wO hz]
      exact sw) sd
     rw[hR.ag]
     exact abT (UH o6.2.2 ((hR.rd nn _ _ _ _).1 aez)) hav
    have afw: @Fr I n ((p1,pack (ad.agg (D nn)) cs)::(p0,.int .i64 (m':Int))::iV a) {tmps:=(#[p0,p1].zip #[.int .i64 (m':Int),pack (ad.agg (D nn)) cs]).foldl (fun tmps (t,a)=>tmps.setIfInBounds t a) a.tmps,defers:=[]}:=by
     have e0:(#[p0,p1].zip #[.int .i64 (m':Int),pack (ad.agg (D nn)) cs]).foldl (fun tmps (t,a)=>tmps.setIfInBounds t a) a.tmps=(a.tmps.setIfInBounds p0 (.int .i64 (m':Int))).setIfInBounds p1 (pack (ad.agg (D nn)) cs):=by simp
     rw[e0]
     have l0:p0<a.tmps.size:=by rw[FI];exact Nat.le_of_ble_eq_true (hd p0 pD)
     have l1:p1<a.tmps.size:=by rw[FI];exact Nat.le_of_ble_eq_true (hd p1 Fk)
     refine @Fr.mk I n _ _ (by simp[FI]) (by rw[hI];rfl) (fun t v hv=> ?_) (fun t v hv=> ?_)
     · by_cases h1:p1=t
       · subst h1
         rw[mD] at hv
         simp[l1]
         exact Option.some.inj hv
       · rw[kX _ _ h1] at hv
         by_cases h0:p0=t
         · subst h0
           rw[mD] at hv
           simp[Array.getElem?_setIfInBounds,h1,l0]
           exact Option.some.inj hv
         · rw[kX _ _ h0] at hv
           simp[Array.getElem?_setIfInBounds,h1,h0]
           exact AD.1 hv
     · rw[hI] at hv
       dsimp only at hv
       split at hv
       · cases hv
       · rename_i hm
         have h1:p1≠t:=fun e=>hm (dE.2 (e▸Fk))
         have h0:p0≠t:=fun e=>hm (dE.2 (e▸pD))
         simp[Array.getElem?_setIfInBounds,h1,h0]
         exact hv
    rw[←hIF]
    refine vc (I:=I) (n:=n) hP hR cH hm assign vC c7.1.1 hIr (Lb.none c7.1.2) mF (fun t ht=>SB t (Sa t ht)) qN ?_ _ afw
    intro o σ1 aF w1 L1 m1 m2 m3 m4
    cases o with
    |exit id=>cases m4
    |goto l=>cases m4
    |ret=>cases m4
    |normal=>
    intro a1 FJ
    have Bn:∀b∈Z,aF.o b=3∧w1.heap[b]? =W.heap[b]? :=fun b hb=>by
     have:=m2.ro b (Br b hb) (.inr (jr hb))
     exact⟨this.1.trans (jr hb),this.2⟩
    have mM:w1.heap[l]? =some (.loop (rec .ready none)):=(Bn l uC).2.trans i7
    have hD1:w1.heap[w.heap.size]? =some (.deferred (some [])):=(Bn _ Md).2.trans i8
    refine⟨_,run_beginRound mM (by rw[r_]), ?_⟩
    obtain⟨w2,eX⟩:∃w2,w2=w1.putObj l (.loop {rec .ready none with state:= .busy}):=⟨_,rfl⟩
    rw[←eX]
    have nz:w2.heap[l]? =some (.loop {rec .ready none with state:= .busy}):=by rw[eX];exact World.putObj_heap_same (Array.getElem?_eq_some_iff.1 mM).1
    have TH:w2.heap[w.heap.size]? =some (.deferred (some [])):=by rw[eX];exact(World.putObj_heap_other FR).trans hD1
    have R8:WZ Z w1 w2:=by rw[eX];exact .put uC
    have lX:Kn σ1 (iK aF Z 3) w2 L1:=m1.wz (.inr rfl) (fun b hb _=> .inr (Bn b hb).1) R8
    refine vc (I:=I) (n:=n) hP hR cH hm body vB c8.1.1 agE (Lb.none c8.1.2) m4 (fun t ht=>SB t (R_ t ht)) lX ?_ _ FJ
    intro o bc aY w3 L2 n1 n2 n3 n4
    have Tu:∀b∈Z,b<w2.heap.size:=fun b hb=>by
     rw[hZ] at hb
     simp only[List.mem_cons,List.not_mem_nil,or_false] at hb
     rcases hb with rfl|rfl
     · exact(Array.getElem?_eq_some_iff.1 TH).1
     · exact(Array.getElem?_eq_some_iff.1 nz).1
    have pN:∀b∈Z,aY.o b=3∧w3.heap[b]? =w2.heap[b]? :=fun b hb=>by
     have:=n2.ro b (Tu b hb) (.inr (jr hb))
     exact⟨this.1.trans (jr hb),this.2⟩
    have xB:=(pN l uC).2.trans nz
    have TG:=(pN _ Md).2.trans TH
    have S8:ik Z γ w aY w3:=(((i4.trans (.wz (c:=3) (.refl Z W))).trans (.of m2)).trans (.wz (c:=3) R8)).trans (.of n2)
    have Ly:bx wr {aJ with lk:=lk} bc:=by
     have e1:bx wr {cn with lk:=lk} {cn with lk:=lk,sl:=(p1,av)::cn.sl}:=⟨fun t ht=>by
      have be:Nat.beq p1 t=false:=by
       cases hb:Nat.beq p1 t with
       |true=>have:=Nat.eq_of_beq_eq_true hb;subst this;exact(ht Fk).elim
       |false=>rfl
      simp only[aq,be,cond_false],rfl,fun _ _=>rfl,Nat.le_refl _⟩
     exact((i5.trans e1).trans (m3.mono Sa)).trans (n3.mono R_)
    have qU:∀{a2:Act},@Fr I n L2 a2→∀t v,t∉wr→Dp.look L2 t=some v→Dp.look (iV a) t=some v:=by
     intro a2 pQ t v ht hv
     have g1:=pQ.get t v hv
     have rY:t<a.tmps.size:=by
      have:=(Array.getElem?_eq_some_iff.1 g1).1
      rw[pQ.size] at this
      rw[FI]
      exact this
     have g2:a2.tmps[t]? =some a.tmps[t]:=pQ.fix t _ (by
      have hb:bo wr t=false:=by
       cases hb:bo wr t with
       |true=>exact(ht (dE.1 hb)).elim
       |false=>rfl
      rw[hI]
      simp[hb,rY])
     rw[g1] at g2
     cases g2
     exact AD.2 (Array.getElem?_eq_getElem rY)
    cases o with
    |exit id=>cases n4
    |goto l=>cases n4
    |normal=>
     intro a2 pQ
     dsimp only at n4
     rw[RC] at n4
     obtain⟨h2,k6,e⟩:=pV n4
     cases e
     obtain⟨W4,qW⟩:∃W4,W4=w3.putObj l (.loop (rec .ready none)):=⟨_,rfl⟩
     have xq:WZ Z w3 W4:=by rw[qW];exact .put uC
     have qL:kW step N' h2=some x:=by
      rcases Fo with⟨s',e,h⟩|e
      · cases e;exact h
      · cases e
     have hI4:Inv m' W4:=by
      have Bg:=n1.wz (c:=3) (.inr rfl) (fun b hb _=> .inr (pN b hb).1) xq
      refine head (m:=m') qL (σ1:={bc with sl:=(p0,iv .i64 (rQ (m':Int) 1) 0)::bc.sl}) (L1:=(p0,.int .i64 ((m':Int)-1))::L2) ⟨Bg.sr.cons ⟨rfl,.inl rfl,fun _ h=>by cases h⟩,Bg.ob,Bg.bS⟩ (Ly.trans ⟨fun t ht=> ?_,rfl,fun _ _=>rfl,Nat.le_refl _⟩) k6 (S8.trans (.wz xq)) (fun b hb=>jr hb) ?_ ?_ ?_
      · have be:Nat.beq p0 t=false:=by
         cases hb:Nat.beq p0 t with
         |true=>have:=Nat.eq_of_beq_eq_true hb;subst this;exact(ht pD).elim
         |false=>rfl
        simp only[aq,be,cond_false]
      · rw[qW];exact World.putObj_heap_same (Array.getElem?_eq_some_iff.1 xB).1
      · rw[qW];exact(World.putObj_heap_other FR).trans TG
      · intro t v ht hv
        by_cases KN:p0=t
        · subst KN
          rw[mD] at hv⊢
          exact hv
        · rw[kX _ _ KN] at hv⊢
          exact qU pQ t v (ht.resolve_right fun e=>KN e.symm) hv
     refine⟨_,_,run_endRound none xB,_,rfl,.inl ⟨rfl, ?_⟩⟩
     have e4:w3.putObj l (.loop {({rec .ready none with state:= .busy}:Loop) with state:=if(none:Option Code).isNone then .ready else .done,pending:=none})=W4:=by
      rw[qW,r_];rfl
     rw[e4]
     exact hI4
    |ret=>
     intro a2 pQ
     dsimp only at n4
     rw[J5 _ _ (by simp)] at n4
     obtain⟨W4,qW⟩:∃W4,W4=w3.putObj l (.loop (rec .done (some .ret))):=⟨_,rfl⟩
     have xq:WZ Z w3 W4:=by rw[qW];exact .put uC
     have Bg:=n1.wz (c:=3) (.inr rfl) (fun b hb _=> .inr (pN b hb).1) xq
     have hR4:R W4:=by
      have hZ4:∀b∈Z,b<W4.heap.size:=fun b hb=>by
       have h1:=Tu b hb
       have h2:=n2.size
       have h3:=xq.size
       omega
      obtain⟨sZ,s8,q1,q2,q3,q4⟩:=Rt i1 hs n4 (Bg.drop wr) (Ly.trans ⟨fun t ht=>by rw[BQ,if_neg ht],rfl,fun _ _=>rfl,Nat.le_refl _⟩) (fun t ht=>by rw[BQ,if_pos ht]) (S8.trans (.wz xq)) (fun b hb=>⟨jr hb,hZ4 b hb⟩) (qU pQ)
      rw[LY]
      refine⟨.done,some .ret,.ret,sZ,s8,by simp, ?_, ?_,q1,q2,q3, ?_,.inr ⟨rfl,rfl⟩⟩
      · rw[qW];exact World.putObj_heap_same (Array.getElem?_eq_some_iff.1 xB).1
      · rw[qW];exact(World.putObj_heap_other FR).trans TG
      · rw[Le] at q4
        exact q4
     refine⟨_,_,run_endRound (some .ret) xB,_,rfl,.inr ⟨rfl, ?_⟩⟩
     have e4:w3.putObj l (.loop {({rec .ready none with state:= .busy}:Loop) with state:=if(some Code.ret).isNone then .ready else .done,pending:=some .ret})=W4:=by
      rw[qW,r_];rfl
     rw[e4]
     exact hR4
  · intro W hi
    rw[Ma] at hi
    obtain⟨N,h',cn,lD,i1,i2,i3,i4,i5,i6,i7,i8⟩:=hi
    obtain⟨N',y,_,hs,_⟩:=EQ i1
    obtain⟨X7,jR,kk,RC,J5,hy⟩:=hstep _ _ hs
    rw[i2] at jR
    cases jR
    unfold D2 at hy
    split at hy
    case h_2=>cases hy
    rename_i c K' g' lZ
    have d_:=jg i3 lZ
    rcases BZ hy with⟨_,hy⟩|⟨jh,_⟩
    · rw[J5 _ _ (by simp)] at hy
      have Br:∀b∈Z,b<W.heap.size:=fun b hb=>by
       rw[hZ] at hb
       simp only[List.mem_cons,List.not_mem_nil,or_false] at hb
       rcases hb with rfl|rfl
       · exact(Array.getElem?_eq_some_iff.1 i8).1
       · exact(Array.getElem?_eq_some_iff.1 i7).1
      obtain⟨bc,aY,m1,m2,m3,m4⟩:=Rt i1 hs hy (((i3.lk lk).drop wr).wz (c:=3) (.inr rfl) (fun b hb _=> .inl (i6 b hb)) (.refl Z W)) ⟨fun t ht=>by rw[BQ,if_neg ht];exact i5.sl t ht,rfl,i5.ob,i5.nx⟩ (fun t ht=>by rw[BQ,if_pos ht]) (i4.trans (.wz (.refl Z W))) (fun b hb=>⟨jr hb,Br b hb⟩) (fun t v ht hv=>by
       rw[kX _ _ (fun e:p0=t=>ht (e▸pD))] at hv
       exact hv)
      rw[LY]
      refine⟨.ready,none,.normal,bc,aY,by simp,i7,i8,m1,m2,m3, ?_,.inl ⟨rfl,rfl⟩⟩
      rw[Le] at m4
      exact m4
    · exfalso
      have:c<0:=by rw[d_];simp
      simp[this] at jh
  · have h3:Kn {aJ with lk:=lk} (iK γ Z 3) W1 ((p0,.int .i64 (rQ (len xs) 1))::iV a):=(bB.lk lk).wz (.inr rfl) (fun b hb aQ=>by have:=Tt b hb;omega) Tv
    unfold aC at hx
    exact head hx h3 (.refl _ _) jT (.wz Tv) (fun b hb=>jr hb) hL1 fv fun t v _ hv=>hv
 refine⟨l,[mark w.heap.size],W1,{target:= .fn (.func f) #[dD bv 0],args:= #[.func (.yield l) #[] #[]]},W1,f, #[.func (.yield l) #[] #[]]++ #[dD bv 0],W1, ?_, ?_, ?_, ?_,fun h=>by simp[Rd.F,Fence.wide] at h, ?_⟩
 · rw[←FK,r_,hl]
   exact run_enterLoop_outer _ _ _ _ _
 · have:a.eval (.tmp g)= .func (.func f) #[] #[dD bv 0]:=by rw[afu.ev (x:= .tmp g) (v:=gv) SX,afq]
   simp only[resolve,this]
   simp[go_sem]
 · intro f' Th;trivial
 · simp[invoke,go_sem,b2]
 · have h3:=(callsIn_wide (n:=0)).2 afU
   refine(h3:CallsIn Fence.wide 0 P f _ W1 _).mono ?_
   rintro e w' ⟨v,rfl,hr⟩
   rw[LY] at hr
   obtain⟨st,jump,o,σ1,aF,r1,r2,r3,r4,r5,r6,r7,r8⟩:=hr
   have afZ:(rec st jump).state≠.busy:=by rw[r_];exact r1
   have fc:=run_endLoop (P:=P) r2 afZ
   have aeJ:(rec st jump).pending=jump:=by rw[r_]
   rw[aeJ] at fc
   refine⟨jump,_,fc, ?_⟩
   have iy:∀(O:Obj) a1,@Fr (Rd.mj w.heap.size) n (iV a) a1→Q (toX o) a1 (w'.putObj l O):=by
    intro O
    refine hc w.heap.size o σ1 (iK aF Z 2) _ (iV a) (r4.wz (.inl rfl) (fun b hb _=> .inl (r6 b hb)) (.put uC)) ((r5.trans (ik.wz (.put uC))).frame Tt fun b hb=>jr hb) (Nat.le_refl _) ?_ (jr Md) ?_ r7 ?_
    · rw[World.putObj_size];exact(Array.getElem?_eq_some_iff.1 r3).1
    · rw[World.putObj_heap_other FR];exact r3
    · rcases r8 with⟨_,h⟩|⟨_,h⟩
      · exact .inl h
      · exact .inr h
   have Tg: @Fr (Rd.mj w.heap.size) n (iV a) {a with defers:=[mark w.heap.size]++a.defers}:=by
    refine @Fr.mk (Rd.mj w.heap.size) n (iV a) _ ha.size ?_ (fun t v h=>AD.1 h) (fun _ _ h=>by cases h)
    show [mark w.heap.size]++a.defers=[mark w.heap.size]
    rw[ha.defers];rfl
   rcases r8 with⟨rfl,rfl⟩|⟨rfl,rfl⟩
   · exact iy _ _ Tg
   · exact wpIn_ret (iy _ _ Tg)
theorem P4{a:Code}{x:Code×Nat×Nat×Nat×Nat×Code×Code}(h:rz a=some x):a= .seq x.1 (.block x.2.1 (.rangeFunc (.tmp x.2.2.1) #[x.2.2.2.1,x.2.2.2.2.1] x.2.2.2.2.2.1 x.2.2.2.2.2.2)):=by
 unfold rz at h
 split at h
 case h_2=>cases h
 rename_i r id g ps assign body
 split at h
 case h_2=>cases h
 rename_i p0 p1 hp
 cases h
 have:ps= #[p0,p1]:=by
  apply Array.ext'
  rw[hp]
 rw[this]
theorem als(hP:dg P T)(hR:bR T)(cH:∀c∈Φ,il P T c)(hm:P.follows .mixedOrders=true){b:Nat}{c:Code}{an:An}{ρ:Type}{σ:S D}{k:Out→S D→Option ρ}{r:ρ}{fa:Gh D}{w0:World}{L:List (Nat×Value)}{Q:Exit→Act→World→Prop}
  (h:eM T Φ c an σ k=some r) (hN:gr c=true) (hS:jt c=true) (hd:∀t∈writes c,Nat.blt t n=true) (hk:Kn σ γ w L) (cJ:Rx.Frame fa w0 γ w) (hb:w0.heap.size≤b) (sw:b<w.heap.size) (cg:γ.o b=2) (bb:w.heap[b]? =some (.deferred (some [])))
  (hc:∀o σ1 aF w1 L1,Kn σ1 aF w1 L1→Rx.Frame fa w0 aF w1→aF.o b=2→b<w1.heap.size→w1.heap[b]? =some (.deferred (some []))→k o σ1=some r→∀a1,@Fr (Rd.mj b) n L1 a1→Q (toX o) a1 w1):
  @CW P n (Rd.mj b) c Q L w:=by
 refine vc (I:=Rd.mj b) hP hR cH hm c an hN (.inl rfl) (@Lb.none P (Rd.mj b) _ _ hS) h (fun t ht=>by unfold Rd.fp;rw[hd t ht];rfl) (hk.wz (Z:=[b]) (c:=3) (.inr rfl) (fun b' dS _=>by simp only[List.mem_singleton] at dS;subst dS;exact .inl cg) (.refl _ w)) ?_
 intro o σ1 aF w1 L1 m1 m2 m3 m4
 obtain⟨q1,q2⟩:=m2.ro b sw (.inr (jr (by simp)))
 have q1:aF.o b=3:=q1.trans (jr (by simp))
 have dy:b<w1.heap.size:=Nat.lt_of_lt_of_le sw m2.size
 refine hc o σ1 (iK aF [b] 2) w1 L1 (m1.wz (.inl rfl) (fun b' dS _=>by simp only[List.mem_singleton] at dS;subst dS;exact .inr q1) (.refl _ w1)) ?_ (jr (by simp)) dy (q2.trans bb) m4
 refine ik.frame (Z:=[b]) ((((ik.of cJ).trans (.wz (.refl _ w))).trans (.of m2)).trans (.wz (.refl _ w1))) (fun b' dS=> ?_) (fun b' dS=>jr dS)
 simp only[List.mem_singleton] at dS
 subst dS
 exact hb
theorem ah6(hP:dg P T)(hR:bR T)(cH:∀c∈Φ,il P T c)(hm:P.follows .mixedOrders=true){Bk:List (Nat×Nat)}(hB:∀q∈Bk,CG P T q):∀(c:Code) (an:An) {ρ:Type} {σ:S D} {k:Out→S D→Option ρ} {r:ρ} {γ:Gh D} {w:World} {L:List (Nat×Value)} {Q:Exit→Act→World→Prop},Ev c=true→BW T Φ Bk c an σ k=some r→(∀t∈writes c,Nat.blt t n=true)→Kn σ γ w L→
  (∀o σ1 aF w1 L1,Kn σ1 aF w1 L1→Rx.Frame γ w aF w1→k o σ1=some r→NK n (Q (toX o)) L1 w1)→
  (∀b o σ1 aF w1 L1,Kn σ1 aF w1 L1→Rx.Frame γ w aF w1→aF.o b=2→w.heap.size≤b→b<w1.heap.size→w1.heap[b]? =some (.deferred (some []))→k o σ1=some r→∀a1,@Fr (Rd.mj b) n L1 a1→Q (toX o) a1 w1)→CW P n c Q L w:=by
 intro c
 induction c with
 |seq a b ot xo=>
  intro an ρ σ k r γ w L Q hN h hd hk d_ gw
  unfold Ev at hN
  simp only[BW] at h
  have nC:∀t∈writes a,Nat.blt t n=true:=fun t ht=>hd t (by simp only[writes];exact List.mem_append.2 (.inl ht))
  have oD:∀t∈writes b,Nat.blt t n=true:=fun t ht=>hd t (by simp only[writes];exact List.mem_append.2 (.inr ht))
  cases KG:rz (.seq a b) with
  |some x=>
   obtain⟨r0,id,g,p0,p1,assign,body⟩:=x
   rw[KG] at hN h
   have he:=P4 KG
   dsimp only at hN h he
   injection he with qP pL
   subst qP pL
   simp only[Bool.and_eq_true] at hN
   split at h
   case h_2=>cases h
   rename_i j pr E x hx
   obtain⟨dJ,fG,h⟩:=l_ h
   obtain⟨fa,z1,z2,z3⟩:=l8 fG hk
   intro a' eY
   refine wpIn_seq ?_
   refine vc hP hR cH hm a _ hN.1 (.inl rfl) (Lb.none hN.2) h (fun t ht=>by unfold Rd.fp;rw[nC t ht];rfl) z1 (fun o σ1 aF w1 L1 m1 m2 m3 m4=> ?_) a' eY
   have m2:=z2.trans m2
   cases o with
   |normal=>
    refine Qn hP hR cH hm hB m4 m1 (fun t ht=>oD t ?_) ?_
    · simp only[writes]
      unfold n9 at ht
      simp only[List.mem_cons,List.mem_append] at ht⊢
      rcases ht with rfl|rfl|ht|ht<;>simp[*]
    · intro b' o bc aY w2 L2 n1 n2 n3 n4 n5 n6 n7 n8
      exact gw b' o bc aY w2 L2 n1 (m2.trans n2) n5 (Nat.le_trans m2.size n3) n4 n6 n7
   |exit id=>exact d_ (.exit id) σ1 aF w1 L1 m1 m2 m4
   |goto l=>exact d_ (.goto l) σ1 aF w1 L1 m1 m2 m4
   |ret=>exact d_ .ret σ1 aF w1 L1 m1 m2 m4
  |none=>
  rw[KG] at hN h
  dsimp only at hN h
  cases KJ:rz a with
  |none=>
   rw[KJ] at hN h
   simp only[Bool.and_eq_true] at hN
   obtain⟨dJ,fG,h⟩:=l_ h
   obtain⟨fa,z1,z2,z3⟩:=l8 fG hk
   refine CW.seq fun K hK=> ?_
   refine vc hP hR cH hm a _ hN.1.1 (.inl rfl) (Lb.none hN.1.2) h (fun t ht=>by unfold Rd.fp;rw[nC t ht];rfl) z1 fun o σ1 aF w1 L1 m1 m2 m3 m4=> ?_
   have m2:=z2.trans m2
   cases o with
   |normal=>
    refine hK _ _ (xo _ hN.2 m4 oD m1 (fun o bc aY w2 L2 n1 n2 n3=>d_ o bc aY w2 L2 n1 (m2.trans n2) n3) fun b' o bc aY w2 L2 n1 n2 n3 n4 n5 n6 n7=>gw b' o bc aY w2 L2 n1 (m2.trans n2) n3 (Nat.le_trans m2.size n4) n5 n6 n7)
   |exit id=>exact d_ (.exit id) σ1 aF w1 L1 m1 m2 m4
   |goto l=>exact d_ (.goto l) σ1 aF w1 L1 m1 m2 m4
   |ret=>exact d_ .ret σ1 aF w1 L1 m1 m2 m4
  |some x=>
   obtain⟨r0,id,g,p0,p1,assign,body⟩:=x
   rw[KJ] at hN h
   obtain rfl:=P4 KJ
   dsimp only at hN h nC⊢
   simp only[Bool.and_eq_true] at hN
   split at h
   case h_2=>cases h
   rename_i j pr E x hx
   obtain⟨dJ,fG,h⟩:=l_ h
   obtain⟨fa,z1,z2,z3⟩:=l8 fG hk
   intro a' eY
   refine wpIn_seq (wpIn_seq ?_)
   refine vc hP hR cH hm r0 _ hN.1.1.1 (.inl rfl) (Lb.none hN.1.1.2) h (fun t ht=>by unfold Rd.fp;rw[nC t (by simp only[writes];exact List.mem_append.2 (.inl ht))];rfl) z1 (fun o σ1 aF w1 L1 m1 m2 m3 m4=> ?_) a' eY
   have m2:=z2.trans m2
   cases o with
   |normal=>
    refine Qn hP hR cH hm hB m4 m1 (fun t ht=>nC t ?_) ?_
    · simp only[writes]
      unfold n9 at ht
      simp only[List.mem_cons,List.mem_append] at ht⊢
      rcases ht with rfl|rfl|ht|ht<;>simp[*]
    · intro b' o bc aY w2 L2 n1 n2 n3 n4 n5 n6 n7 n8
      have cJ:=m2.trans n2
      rcases n8 with rfl|rfl
      · dsimp only at n7
        refine als hP hR cH hm n7 hN.1.2 hN.2 oD n1 cJ (Nat.le_trans m2.size n3) n4 n5 n6 ?_
        intro o sZ s8 w3 L3 q1 q2 q3 q4 q5 q6
        exact gw b' o sZ s8 w3 L3 q1 q2 q3 (Nat.le_trans m2.size n3) q4 q5 q6
      · exact gw b' .ret bc aY w2 L2 n1 cJ n5 (Nat.le_trans m2.size n3) n4 n6 n7
   |exit id=>exact d_ (.exit id) σ1 aF w1 L1 m1 m2 m4
   |goto l=>exact d_ (.goto l) σ1 aF w1 L1 m1 m2 m4
   |ret=>exact d_ .ret σ1 aF w1 L1 m1 m2 m4
 |_=>intro an ρ σ k r γ w L Q hN h;simp[BW] at h
theorem ahS{f:FuncId}{fn:Func}{c:Code}{l:List Value}{R:Ending→World→Prop}(hf:P.funcs[f]? =some fn)(hb:fn.body=some c)(hn:fn.ntmps=n)(hl:Nat.ble l.length n=true)
  (h:CW P n c (bodyPostM Fence.wide 0 P fn R) (oT 0 l) w):Calls P f l.toArray w R:=by
 have SK:l.length≤n:=by simpa using hl
 refine callsIn_wide.1 (callsIn_of_wp_marks (n:=0) hf hb trivial (h _ ⟨by simp[hn];omega,rfl,fun t v hv=> ?_,fun _ _ h=>by cases h⟩))
 obtain⟨_,h2⟩:=JU l 0 t v hv
 have ht:t<l.length:=(List.getElem?_eq_some_iff.1 h2).1
 simp only[Nat.sub_zero] at h2
 rw[Array.getElem?_append_left (by simpa using ht)]
 simpa using h2
theorem TU(hP:dg P T)(hR:bR T)(cH:∀c∈Φ,il P T c)(hm:P.follows .mixedOrders=true){Bk:List (Nat×Nat)}(hB:∀q∈Bk,CG P T q){c:au D}{fn:Func}{code:Code}{rs:List ResultVar}{an:An}
  (kD:∀(args:Array Value) (w:World),(callFunc c.f args).run P w= .ok (.enter c.f args) w)
  (hf:P.funcs[c.f]? =some fn) (hb:fn.body=some code) (jw:fn.results=rs.toArray)
  (bN:((writes code).all (fun t=>Nat.blt t fn.ntmps)&&Nat.ble c.args.length fn.ntmps&&qA c.ir c.bI&&kh (c.bI.map Prod.fst)&&c.bI.all (fun p=>Nat.ble 1000 p.1)&&Nat.ble c.bI.length 40)=true)
  (Bm:∀h,I' T Φ Bk c rs code an h=c.fn h):il P T c:=by
 simp only[Bool.and_eq_true] at bN
 obtain⟨⟨⟨⟨⟨hw,hl⟩,fE⟩,Bf⟩,l7⟩,sn⟩:=bN
 refine⟨kD,fE,Bf,l7,sn,fun h r hr as dm has kB γ w vs hv bb=> ?_⟩
 rw[←Bm] at hr
 unfold I' at hr
 split at hr
 case h_2=>cases hr
 rename_i dz
 split at hr
 case h_2=>cases hr
 rename_i σ jS
 unfold xR at jS
 dsimp only at jS
 split at jS
 case isFalse=>cases jS
 rename_i hc
 rw[has,kB] at jS
 have jS:=Option.some.inj jS
 subst jS
 simp only[Bool.and_eq_true,List.all_eq_true] at hc l7 hw
 have iN:=NS (k:=0) hv
 have hlen:=hv.len
 have uB:=AK has
 refine ahS hf hb rfl (by rw[hlen,uB];exact hl) ?_
 obtain⟨dJ,fG,hr⟩:=l_ hr
 obtain⟨fa,z1,z2,z3⟩:=l8 fG (γ:=γ) ⟨iN,bb,Nat.le_refl _⟩
 have fin:∀{aJ} {γ':Gh D} {w':World} {L':List (Nat×Value)},Kn aJ γ' w' L'→Rx.Frame γ w γ' w'→rA.fin T c rs aJ=some r→∃vs,sW P L' w' rs vs∧jJ (fun v w'=>∃U' γ' rs gT,fP T (cM T c.outs r) some id 3000 c.ir=some rs∧gh T (cM T c.outs r) some id 3000 c.bI=some gT∧
   qd U' γ' w' rs v∧(∀p x,cz gT p=some x→OR U' γ' w' p x)∧(∀p,(p,p)∈stay c→γ'.g p=γ.g p)∧Frame0 γ w γ' w') (.returned (rB vs)) w':=by
  intro aJ γ' w' L' bB cJ ho
  obtain⟨vs,h1,aY,pd,gT,h2,h3,h4,h5,h6,h7⟩:=P6 hP hR bB (fun q hq=>Nat.le_of_ble_eq_true (l7 q hq)) (fun q hq=>by
   have:=Nat.le_of_ble_eq_true (hc.2 q hq).2
   omega) ho
  refine⟨vs,h1,_,rfl,_,aY,pd,gT,h2,h3,h4,h5,fun p hp=> ?_,cJ.toFrame0.trans h7⟩
  rw[h6 p hp]
  refine cJ.gk p ?_
  unfold stay at hp
  obtain⟨q,hq,e⟩:=List.mem_map.1 hp
  cases e
  obtain⟨q',oz⟩:=nq (List.mem_filter.1 hq).2
  have:=Nat.le_of_ble_eq_true (hc.2 _ oz).2
  simp only at this
  omega
 refine ah6 hP hR cH hm hB code an.un dz hr hw z1 (fun o aJ γ' w' L' bB cJ ho=> ?_) (fun b o aJ γ' w' L' bB cJ cg hbw amh xz ho a1 FJ=> ?_)
 · have cJ:=z2.trans cJ
   have one:rA.fin T c rs aJ=some r→∀a,Fr fn.ntmps L' a→LeavesInM Fence.wide 0 P fn a.tmps _ a.defers .returning w':=fun ho a ha=>by
    obtain⟨vs,h1,h2⟩:=fin bB cJ ho
    rw[ha.defers]
    exact⟨_,tN (fun _ _ hx=>ha.ev hx) jw h1,h2⟩
   cases o with
   |normal=>exact one ho
   |ret=>exact one ho
   |exit id=>cases ho
   |goto l=>cases ho
 · have cJ:=z2.trans cJ
   obtain⟨w2,eX⟩:∃w2,w2=w'.putObj b (.deferred none):=⟨_,rfl⟩
   have R9:WZ [b] w' w2:=by rw[eX];exact .put (by simp)
   have lX:Kn aJ (iK γ' [b] 2) w2 L':=bB.wz (.inl rfl) (fun b' dS _=>by simp only[List.mem_singleton] at dS;subst dS;exact .inl cg) R9
   have afv:Rx.Frame γ w (iK γ' [b] 2) w2:=by
    refine ik.frame (Z:=[b]) ((ik.of cJ).trans (.wz R9)) (fun b' dS=> ?_) (fun b' dS=>jr dS)
    simp only[List.mem_singleton] at dS
    subst dS
    exact hbw
   have one:rA.fin T c rs aJ=some r→LeavesInM Fence.wide 0 P fn a1.tmps _ a1.defers .returning w':=fun ho=>by
    obtain⟨vs,h1,h2⟩:=fin lX afv ho
    rw[@Fr.defers (Rd.mj b) _ _ _ FJ]
    refine⟨by simp,.inl ⟨b,w2,rfl, ?_, ?_⟩⟩
    · rw[eX];exact run_takeDeferred xz
    · exact⟨_,tN (L:=L') (fun _ _ hx=> @Fr.ev (Rd.mj b) _ _ _ FJ _ _ hx) jw h1,h2⟩
   cases o with
   |normal=>exact one ho
   |ret=>exact one ho
   |exit id=>cases ho
   |goto l=>cases ho
abbrev I_(T:aV D)(Φ:List (au D))(Bk:List (Nat×Nat))(c:au D)(rs:List ResultVar)(code:Code)(an:An):au D:=⟨c.f,c.ins,c.outs,c.args,c.ob,c.ir,c.bI,I' T Φ Bk c rs code an⟩
theorem aaJ(hP:dg P T)(hR:bR T)(cH:∀c∈Φ,il P T c)(hm:P.follows .mixedOrders=true){Bk:List (Nat×Nat)}(hB:∀q∈Bk,CG P T q){c:au D}{fn:Func}{code:Code}{rs:List ResultVar}{an:An}
  (kD:∀(args:Array Value) (w:World),(callFunc c.f args).run P w= .ok (.enter c.f args) w)
  (hf:P.funcs[c.f]? =some fn) (hb:fn.body=some code) (jw:fn.results=rs.toArray)
  (bN:((writes code).all (fun t=>Nat.blt t fn.ntmps)&&Nat.ble c.args.length fn.ntmps&&qA c.ir c.bI&&kh (c.bI.map Prod.fst)&&c.bI.all (fun p=>Nat.ble 1000 p.1)&&Nat.ble c.bI.length 40)=true):il P T (I_ T Φ Bk c rs code an):=
 TU (c:=I_ T Φ Bk c rs code an) (an:=an) hP hR cH hm hB kD hf hb jw bN fun _=>rfl
end
end Rx
end Go.Proofs.YtaneejpkncdodaaGreat
