import Derived.Test.YtncbfgppjfcijaaGreatRg
import Derived.MapKept
import Derived.ChangeKeysEq
set_option linter.unusedVariables false
set_option linter.unusedSimpArgs false
set_option linter.unusedSectionVars false
open Bool renaming and_eq_true→aqL,false_eq_true→aqG
open List renaming all_eq_true→aq0,drop_drop→arp,flatten_cons→arn,length_cons→arz,map_cons→arb,mem_cons→aqR,mem_cons_of_mem→aq7,mem_of_getElem?→art,pairwise_cons→ar',replicate→aqS,take_append_drop→arv
open Nat renaming eq_of_beq_eq_true→aqK
open Option.some renaming injEq→aq3
namespace Go.Proofs.YtncbfgppjfcijaaGreat
open Go Go.RowKit Dp
namespace Rx
section
variable {D:Nat→Type} [∀n,ab (D n)]
variable {P:Program} {T:aV D} {Qx:Exit→Act→World→Prop} {U:Nat→Prop} {ah:Nat} {γ:Gh D} {w:World} {sl:List (Nat×AV D)} {L:List (Nat×Value)} {ob:List (Nat×Option (AO D))}
 {d:Option Tmp} {ty:TypeId} {pos:String} {af:Array Edge} {gd:Option (Nat×Bool)} {e:bT D} {l:List Nat}
theorem afr [Rd](hx:Cx U ah γ w sl L ob){t:TypeId}{n:Nat}:
  OW P Qx L ⟨d,.makeMap t none,ty,pos,af,gd⟩ w (fun v w'=>∃γ',cJ U ah γ w ob ⟨.c (.one (.own ah)),[(ah,some (.mp n []))],[]⟩ γ' v w'):=by
 have bh:=ba.alloc γ.o w (.map #[] 0) ah
 refine OW.run fun a ha=>⟨.map (some w.heap.size),w.alloc (.map #[] 0), ?_, ?_⟩
 · simp[execOp,Instr.makeMap,newObj]
   rfl
 · refine⟨_,mkPost (M:=[]) (N:=[ah]) (ps:=[]) (g':=ij γ.g ah (.map (some w.heap.size))) (v':=γ.v) hx.ob bh (by simp) (by simp) (by simp) hx.bR (fun i hi=>oP hx hi) (fun _ _=>rfl) ⟨kM,(kI _ _ _).symm,rfl⟩ ?_⟩
   intro j x hj gY
   obtain⟨rfl,cA⟩:=jZ hj
   cases cA
   exact⟨hx.bR,kM,w.heap.size, #[],0,kI _ _ _,nM γ.o w ah _ (Nat.le_refl _),heap_alloc_new w _,by simp,trivial⟩
theorem afh{us vs:List Value}(hl:us.length=vs.length)(h:ep us=ep vs):us=vs:=by
 match us,vs,hl with
 |[],[],_=>rfl
 |[u],[v],_=>simpa[ep] using h
 |u::u'::us,v::v'::vs,_=>simpa[ep] using h
theorem N0(hR:bQ T){n:Nat}{S:Nat→Prop}:∀{aw:List (List Value)} {xs:List (D n)},bC (ab.rd S w) aw xs→bK S w aw.flatten (xs.flatMap (T.out n))
 |[],[],_=>trivial
 |c::aw,x::xs,h=>by
  rw[arn,List.flatMap_cons]
  exact bK.append ((hR.rd _ _ _ _ _).1 h.1) (N0 hR h.2)
 |[],_::_,h=>h.elim
 |_::_,[],h=>h.elim
theorem Ta(hR:bQ T){k:AV D}{v:Value}{ks:List (DV D)}{g:Bool}(h:Fw T k=some (ks,g))(hv:eM U γ w k v):∃vs,bK (fun _=>True) w vs ks∧(g=true∧v= .agg vs.toArray∨g=false∧vs=[v]):=by
 unfold Fw at h
 split at h
 · cases h
   obtain⟨⟨aw,h1,h2⟩,_⟩:=hv
   exact⟨aw.flatten,(N0 hR h2).weaken fun _ _=>trivial,.inl ⟨rfl,h1⟩⟩
 · cases h
   exact⟨[v],⟨hv.1.weaken fun _ _=>trivial,trivial⟩,.inr ⟨rfl,rfl⟩⟩
 · split at h
   case h_2=>cases h
   rename_i x hx
   cases h
   obtain⟨us,rfl,h2⟩:=hv
   exact⟨us,GO hx h2,.inl ⟨rfl,rfl⟩⟩
 · cases h
theorem S_{n:Nat}{ks:List (DV D)}{g:Bool}(h:Fv T n ks g=true){vs:List Value}{v:Value}(hl:bK (fun _=>True) w vs ks)(hv:g=true∧v= .agg vs.toArray∨g=false∧vs=[v]):ks.map DV.l=(T.lv n).dropLast∧v=ep vs:=by
 unfold Fv at h
 simp only[aqL,decide_eq_true_eq] at h
 obtain⟨h1,h2⟩:=h
 refine⟨h1, ?_⟩
 rcases hv with⟨rfl,rfl⟩|⟨rfl,rfl⟩
 · have hlen:=hl.length
   match ks,vs,hlen,h2 with
   |[],[],_,_=>rfl
   |[_],[_],_,h2=>cases h2
   |_::_::_,_::_::_,_,_=>rfl
 · rfl
theorem Tb{S S':Nat→Prop}{w':World}:∀{us vs:List Value} {xs ks:List (DV D)} {u:Value},bK S w (us++[u]) xs→bK S' w' vs ks→ks.map DV.l=(xs.map DV.l).dropLast→(xs.map DV.l).all jr=true→(j6 xs ks=true↔us=vs)
 |[],[],[x],[],u,h,_,_,_=>by simp[j6]
 |us,vs,[],ks,u,h,_,_,_=>by
  have:=h.length
  simp at this
 |us,vs,[x],y::ks,u,h,_,hk,_=>by simp at hk
 |us,v::vs,[x],[],u,h,h',_,_=>h'.elim
 |us,vs,x::x'::xs,[],u,h,h',hk,_=>by simp at hk
 |[],vs,x::x'::xs,y::ks,u,h,h',hk,hf=>by
  have:=h.length
  simp at this
 |a::us,[],x::x'::xs,y::ks,u,h,h',hk,hf=>h'.elim
 |a::us,v::vs,x::x'::xs,y::ks,u,h,h',hk,hf=>by
  simp only[arb,List.dropLast_cons_cons,List.cons.injEq] at hk
  simp only[arb,List.all_cons,aqL] at hf
  have e1:=VF (u:=a) (v:=v) h.1 h'.1 hk.1.symm hf.1
  have ih:=Tb (us:=us) (vs:=vs) (xs:=x'::xs) (ks:=ks) h.2 h'.2 (by simpa using hk.2) (by simp[hf.2.1,hf.2.2])
  cases ks with
  |nil=>
   have hv0:vs=[]:=by
    cases vs with
    |nil=>rfl
    |cons _ _=>exact h'.2.elim
   have j9:xs=[]:=by
    have:=hk.2
    cases xs with
    |nil=>rfl
    |cons _ _=>simp at this
   subst hv0 j9
   have FE:us=[]:=by
    have:=h.2.length
    simp at this
    exact this
   subst FE
   simp only[j6,e1]
   simp
  |cons y' ks=>
   simp only[j6,HU,aqL,e1]
   simp only[j6] at ih
   rw[ih]
   simp
 |a::us,[],[x],[],u,h,_,_,_=>by
  have:=h.length
  simp at this
section
variable {α:Type} {R:MapEntry→α→Prop} {K:Value} {f:α→Bool}
theorem gR.length:∀{es:List MapEntry} {xs:List α},gR R es xs→es.length=xs.length
 |[],[],_=>rfl
 |_::_,_::_,h=>by simp[gR.length h.2]
 |[],_::_,h=>h.elim
 |_::_,[],h=>h.elim
theorem gR.append:∀{es oV:List MapEntry} {xs qp:List α},gR R es xs→gR R oV qp→gR R (es++oV) (xs++qp)
 |[],_,[],_,_,h'=>h'
 |_::_,_,_::_,_,h,h'=>⟨h.1,gR.append h.2 h'⟩
 |[],_,_::_,_,h,_=>h.elim
 |_::_,_,[],_,h,_=>h.elim
theorem gR.key:∀{es:List MapEntry} {xs:List α},gR R es xs→∀e∈es,∃x,R e x
 |e::es,x::xs,h,e',he=>by
  rcases aqR.1 he with rfl|he
  · exact⟨x,h.1⟩
  · exact gR.key h.2 e' he
 |[],[],_,e,he=>by cases he
 |[],_::_,h,_,_=>h.elim
 |_::_,[],h,_,_=>h.elim
theorem NM(hf:∀e x,R e x→(f x=true↔e.key=K)):∀{es:List MapEntry} {xs:List α},gR R es xs→(∀e∈es,e.key≠K)→xs.find? f=none∧xs.any f=false
 |[],[],_,_=>⟨rfl,rfl⟩
 |e::es,x::xs,h,hn=>by
  obtain⟨i1,i2⟩:=NM hf h.2 fun e he=>hn e (aq7 _ he)
  have h1:f x=false:=by
   cases hx:f x with
   |false=>rfl
   |true=>exact(hn e (by simp) ((hf e x h.1).1 hx)).elim
  simp[h1,i1,i2]
 |[],_::_,h,_=>h.elim
 |_::_,[],h,_=>h.elim
theorem NN(hf:∀e x,R e x→(f x=true↔e.key=K)):∀{es:List MapEntry} {xs:List α},gR R es xs→es.Pairwise (fun a b=>a.key≠b.key)→∀{j:Nat} {e0:MapEntry},es[j]? =some e0→e0.key=K→∃x,xs.find? f=some x∧R e0 x∧xs.any f=true
 |[],[],_,_,j,e0,hj,_=>by simp at hj
 |e::es,x::xs,h,hp,0,e0,hj,hk=>by
  cases hj
  have h1:=(hf e x h.1).2 hk
  exact⟨x,by simp[h1],h.1,by simp[h1]⟩
 |e::es,x::xs,h,hp,j+1,e0,hj,hk=>by
  obtain⟨p1,p2⟩:=ar'.1 hp
  have et:es[j]? =some e0:=by simpa using hj
  obtain⟨y,i1,i2,i3⟩:=NN hf h.2 p2 et hk
  have h1:f x=false:=by
   cases hx:f x with
   |false=>rfl
   |true=>exact(p1 e0 (art et) (((hf e x h.1).1 hx).trans hk.symm)).elim
  exact⟨y,by simp[h1,i1],i2,by simp[i3]⟩
 |[],_::_,h,_,_,_,_,_=>h.elim
 |_::_,[],h,_,_,_,_,_=>h.elim
theorem SD(hf:∀e x,R e x→(f x=true↔e.key=K)){z:α}:∀{es:List MapEntry} {xs:List α},gR R es xs→(∀e∈es,e.key≠K)→(xs.map fun x=>if f x=true then z else x)=xs
 |[],[],_,_=>rfl
 |e::es,x::xs,h,hn=>by
  have i1:=SD hf (z:=z) h.2 fun e he=>hn e (aq7 _ he)
  have h1:f x=false:=by
   cases hx:f x with
   |false=>rfl
   |true=>exact(hn e (by simp) ((hf e x h.1).1 hx)).elim
  rw[arb,i1,h1]
  rfl
 |[],_::_,h,_=>h.elim
 |_::_,[],h,_=>h.elim
theorem VC(hf:∀e x,R e x→(f x=true↔e.key=K)){z:α}{g:MapEntry→MapEntry}:∀{es:List MapEntry} {xs:List α},gR R es xs→es.Pairwise (fun a b=>a.key≠b.key)→∀{j:Nat} {e0:MapEntry},es[j]? =some e0→e0.key=K→R (g e0) z→(g e0).key=e0.key→
  gR R (es.modify j g) (xs.map fun x=>if f x=true then z else x)∧(es.modify j g).map (·.key)=es.map (·.key)
 |[],[],_,_,j,e0,hj,_,_,_=>by simp at hj
 |e::es,x::xs,h,hp,0,e0,hj,hk,hz,hg=>by
  cases hj
  obtain⟨p1,p2⟩:=ar'.1 hp
  have h1:=(hf e x h.1).2 hk
  have h2:=SD hf (z:=z) h.2 fun e' iI=>by rw[←hk];exact(p1 e' iI).symm
  rw[arb,h2,if_pos h1]
  exact⟨⟨hz,h.2⟩,by simp[hg]⟩
 |e::es,x::xs,h,hp,j+1,e0,hj,hk,hz,hg=>by
  obtain⟨p1,p2⟩:=ar'.1 hp
  have et:es[j]? =some e0:=by simpa using hj
  obtain⟨i1,i2⟩:=VC hf (z:=z) h.2 p2 et hk hz hg
  have h1:f x=false:=by
   cases hx:f x with
   |false=>rfl
   |true=>exact(p1 e0 (art et) (((hf e x h.1).1 hx).trans hk.symm)).elim
  rw[arb,h1]
  exact⟨⟨h.1,i1⟩,by simp[i2]⟩
 |[],_::_,h,_,_,_,_,_,_,_=>h.elim
 |_::_,[],h,_,_,_,_,_,_,_=>h.elim
end
theorem xk(T:aV D)(n:Nat)(x:D n):(T.out n x).map DV.l=T.lv n:=xn _ _
theorem S7{S:Nat→Prop}{lf:Lf}:∀{us:List Value} {xs:List (DV D)} {u:Value},bK S w (us++[u]) xs→sh (xs.map DV.l)=some lf→cq S w u ⟨lf,xx lf xs⟩
 |us,[],u,h,_=>by
  have:=h.length
  simp at this
 |[],[x],u,h,hl=>by
  obtain⟨l,x⟩:=x
  simp only[arb,List.map_nil,sh,aq3] at hl
  subst hl
  simp only[xx,dif_pos]
  exact h.1
 |a::us,[x],u,h,_=>by
  have:=h.length
  simp at this
 |[],x::y::xs,u,h,_=>by
  have:=h.length
  simp at this
 |a::us,x::y::xs,u,h,hl=>by
  have h2:bK S w (us++[u]) (y::xs):=h.2
  have:=S7 (us:=us) (xs:=y::xs) h2 (by simpa[sh] using hl)
  simpa[xx] using this
theorem aat{S:Nat→Prop}{lf:Lf}(hf:jr lf=true):cq (D:=D) S w (pack false (qk [lf])) ⟨lf,zo lf⟩:=by
 cases lf with
 |sl n=>cases hf
 |_=>rfl
theorem S8:∀{ls:List Lf} {lf:Lf},sh ls=some lf→lf∈ls
 |[],lf,h=>by cases h
 |[l],lf,h=>by cases h;simp
 |l::m::r,lf,h=>by
  have:=S8 (ls:=m::r) (by simpa[sh] using h)
  exact aq7 _ this
theorem Sw(hR:bQ T){t kt vt n:Nat}(hM:PE P T t kt vt n){o:bL}{i:Nat}{v:Value}{xs:List (D n)}(h:nl o i w v xs){ks:List (DV D)}{vs:List Value}(hl:bK (fun _=>True) w vs ks)(hk:ks.map DV.l=(T.lv n).dropLast):
  eN (T.lv n).dropLast vs∧∃r es clock,v= .map (some r)∧o r=i∧w.heap[r]? =some (.map es clock)∧es.toList.Pairwise (fun a b=>a.key≠b.key)∧
   gR (fun e x=>∃us:List Value,e.key=ep us∧ab.rd (fun _=>False) w (us++[e.val]) x) es.toList xs∧
   (∀(e:MapEntry) (x:D n),(∃us:List Value,e.key=ep us∧ab.rd (fun _=>False) w (us++[e.val]) x)→(j6 (T.out n x) ks=true↔e.key=ep vs))∧
   ((Instr.findKey kt (ep vs) es.toList).run P w= .ok none w∧(∀e∈es.toList,e.key≠ep vs)∨∃j e,(Instr.findKey kt (ep vs) es.toList).run P w= .ok (some (j,e.val)) w∧es.toList[j]? =some e∧e.key=ep vs):=by
 have dG:((T.lv n).dropLast).all jr=true:=by
  rw[aq0]
  intro l hl
  exact aq0.1 hM.flat l (by rw[List.dropLast_eq_take] at hl;exact List.mem_of_mem_take hl)
 have lX:eN (T.lv n).dropLast vs:=by
  rw[←hk]
  exact C4 hl (by rw[hk];exact dG)
 refine⟨lX, ?_⟩
 obtain⟨r,es,clock,h1,h2,h3,h4,h5⟩:=h
 have UW:∀(e:MapEntry) (x:D n),(∃us:List Value,e.key=ep us∧ab.rd (fun _=>False) w (us++[e.val]) x)→(j6 (T.out n x) ks=true↔e.key=ep vs)∧∃us,eN (T.lv n).dropLast us∧e.key=ep us:=by
  rintro e x ⟨us,k1,k2⟩
  rw[hR.rd] at k2
  have e1:=Tb (us:=us) (vs:=vs) (ks:=ks) k2 hl (by rw[xk,hk]) (by rw[xk];exact hM.flat)
  have e2:us.length=vs.length:=by
   have a1:=k2.length
   have a2:=hl.length
   have a3:=congrArg List.length hk
   have a4:=congrArg List.length (xk T n x)
   simp at a1 a3 a4
   omega
  refine⟨e1.trans ⟨fun h=>by rw[k1,h],fun h=>afh e2 (k1.symm.trans h)⟩,us, ?_,k1⟩
  have a5:bK (fun _=>False) w us (T.out n x).dropLast:=by
   have:=k2.take us.length
   rw[List.take_left] at this
   have a1:=k2.length
   have e3:(T.out n x).take us.length=(T.out n x).dropLast:=by
    rw[List.dropLast_eq_take]
    congr 1
    simp at a1
    omega
   rwa[e3] at this
  have a6:(T.out n x).dropLast.map DV.l=(T.lv n).dropLast:=by rw[←xk T n x,List.map_dropLast]
  have:=C4 a5 (by rw[a6];exact dG)
  rwa[a6] at this
 refine⟨r,es,clock,h1,h2,h3,h4,h5,fun e x he=>(UW e x he).1, ?_⟩
 exact hM.key.find w vs lX es.toList fun e he=>by
  obtain⟨x,hx⟩:=h5.key e he
  exact(UW e x hx).2
theorem afk [Rd](hP:dh P T)(hR:bQ T)(hx:Cx U ah γ w sl L ob){t:TypeId}{kt vt n:Nat}{m x:Operand}{a k:AV D}(ht:au T.ou t=some (kt,vt,n))(ha:dm sl m=some a)(hb:dm sl x=some k)(h:Q.R ob (KV T n (ah+16) a k) l e):
  OW P Qx L ⟨d,.lookup t m x false,ty,pos,af,gd⟩ w (fun v w'=>∃γ',cJ U ah γ w ob e γ' v w'):=by
 have hM:=hP.ou t kt vt n ht
 obtain⟨va,h1,h2⟩:=bJ hx.sr ha
 obtain⟨vk,h3,h4⟩:=bJ hx.sr hb
 unfold KV at h
 split at h
 case h_2=>exact(h:False).elim
 rename_i i ks kg fE
 obtain⟨ao,l',ho,rfl,h⟩:=h
 cases ao with
 |box=>exact h.elim
 |sl=>exact h.elim
 |bU=>exact h.elim
 |fi=>exact h.elim
 |fz=>exact h.elim
 |mp n' xs=>
  dsimp only at h
  split at h
  case isFalse=>exact h.elim
  rename_i hc
  simp only[aqL] at hc
  have hn:=aqK hc.1
  subst hn
  split at h
  case h_2=>exact h.elim
  rename_i lf BA
  obtain⟨_,rfl⟩:=h
  obtain⟨vs,k1,k2⟩:=Ta hR fE h4
  obtain⟨k3,rfl⟩:=S_ hc.2 k1 k2
  obtain⟨_,_,Ms⟩:=hx.ob.ob i _ ho
  obtain⟨lX,r,es,clock,m1,m2,m3,m4,m5,m6,m7⟩:=Sw hR hM Ms k1 k3
  obtain⟨_,rfl,_⟩:=h2
  rw[m1] at h1
  obtain⟨vl,v1,v2⟩:=hM.val
  rw[BA] at v1
  cases v1
  have aip:jr lf=true:=aq0.1 hM.flat lf (S8 BA)
  have iH:∃u,(Instr.lookup t (.map (some r)) (ep vs) false).run P w= .ok u w∧cq (In γ.o []) w u ⟨lf,Fb (fun x=>j6 (T.out n x) ks) (fun x=>xx lf (T.out n x)) (zo lf) xs⟩:=by
   rcases m7 with⟨f1,f2⟩|⟨j,e0,f1,f2,f3⟩
   · have pO:=NM (f:=fun x=>j6 (T.out n x) ks) m6 m5 f2
     refine⟨pack false (qk [lf]), ?_, ?_⟩
     · simp[Instr.lookup,run_underlying hM.qu,MapKept.run_getObj_map m3,hM.key.check _ _ _ lX,f1,v2.zero,Result.andThen]
     · unfold Fb
       rw[pO.1]
       exact aat aip
   · obtain⟨y,g1,⟨us,g2,g3⟩,_⟩:=NN (f:=fun x=>j6 (T.out n x) ks) m6 m5 m4 f2 f3
     refine⟨e0.val, ?_, ?_⟩
     · simp[Instr.lookup,run_underlying hM.qu,MapKept.run_getObj_map m3,hM.key.check _ _ _ lX,f1,Result.andThen]
     · unfold Fb
       rw[g1]
       rw[hR.rd] at g3
       exact(S7 g3 (by rw[xk];exact BA)).weaken fun _ h=>h.elim
  obtain⟨u,u1,u2⟩:=iH
  refine b_ (v:=u) (OW.run fun c hc=>⟨_,w, ?_,rfl,rfl⟩) (cQ hx u2)
  simp[execOp,hc _ _ h1,hc _ _ h3,u1]
theorem afg [Rd](hP:dh P T)(hR:bQ T)(hx:Cx U ah γ w sl L ob){t:TypeId}{kt vt n:Nat}{m x u:Operand}{a k b:AV D}(ht:au T.ou t=some (kt,vt,n))(ha:dm sl m=some a)(hb:dm sl x=some k)(hu:dm sl u=some b)(h:Q.R ob (KP T n a k b) l e):
  OW P Qx L ⟨d,.mapUpdate t m x u,ty,pos,af,gd⟩ w (fun v w'=>∃γ',cJ U ah γ w ob e γ' v w'):=by
 have hM:=hP.ou t kt vt n ht
 obtain⟨va,h1,h2⟩:=bJ hx.sr ha
 obtain⟨vk,h3,h4⟩:=bJ hx.sr hb
 obtain⟨vu,h5,h6⟩:=bJ hx.sr hu
 unfold KP at h
 split at h
 case h_2=>exact(h:False).elim
 rename_i i ks kg lf dd K g fE
 obtain⟨ao,l',ho,rfl,h⟩:=h
 cases ao with
 |box=>exact h.elim
 |sl=>exact h.elim
 |bU=>exact h.elim
 |fi=>exact h.elim
 |fz=>exact h.elim
 |mp n' xs=>
  dsimp only at h
  split at h
  case isFalse=>exact h.elim
  rename_i hc
  simp only[aqL] at hc
  have hn:=aqK hc.1
  subst hn
  split at h
  case h_2=>exact h.elim
  rename_i z hz
  obtain⟨_,rfl⟩:=h
  obtain⟨vs,k1,k2⟩:=Ta hR fE h4
  obtain⟨k3,rfl⟩:=S_ hc.2 k1 k2
  obtain⟨eJ,MI,Ms⟩:=hx.ob.ob i _ ho
  obtain⟨lX,r,es,clock,m1,m2,m3,m4,m5,m6,m7⟩:=Sw hR hM Ms k1 k3
  obtain⟨_,rfl,_⟩:=h2
  rw[m1] at h1
  have FN:=hR.gi hz
  have dG:(T.out n z).map DV.l=T.lv n:=xk T n z
  have TA:ab.rd (fun _=>False) w (vs++[vu]) z:=by
   rw[hR.rd,FN]
   have lr:(ks++[⟨lf,dd⟩]:List (DV D)).map DV.l=T.lv n:=by rw[←FN];exact dG
   have key:∀{vs:List Value} {ks:List (DV D)},bK (fun _=>True) w vs ks→(ks.map DV.l).all jr=true→bK (fun _=>False) w vs ks:=by
    intro vs
    induction vs with
    |nil=>intro ks h _;cases ks with|nil=>trivial|cons _ _=>exact h.elim
    |cons v vs ih=>
     intro ks h hf
     cases ks with
     |nil=>exact h.elim
     |cons y ks=>
      simp only[arb,List.all_cons,aqL] at hf
      refine⟨?_,ih h.2 hf.2⟩
      obtain⟨l,y⟩:=y
      cases l with
      |sl n=>cases hf.1
      |_=>exact h.1
   exact key (bK.append k1 ⟨h6.1.weaken fun _ _=>trivial,trivial⟩) (by rw[lr];exact hM.flat)
  have iT:r<w.heap.size:=(Array.getElem?_eq_some_iff.1 m3).1
  have iH:∃oV yG,(Instr.mapUpdate t (.map (some r)) (ep vs) vu).run P w= .ok () {w with heap:=w.heap.setIfInBounds r (.map oV yG)}∧oV.toList.Pairwise (fun a b=>a.key≠b.key)∧
    gR (fun e x=>∃us:List Value,e.key=ep us∧ab.rd (fun _=>False) w (us++[e.val]) x) oV.toList (E8 (fun x=>j6 (T.out n x) ks) z xs):=by
   rcases m7 with⟨f1,f2⟩|⟨j,e0,f1,f2,f3⟩
   · have pO:=NM (f:=fun x=>j6 (T.out n x) ks) m6 m5 f2
     refine⟨es.push ⟨ep vs,vu,clock⟩,clock+1, ?_, ?_, ?_⟩
     · simp[Instr.mapUpdate,run_underlying hM.qu,MapKept.run_getObj_map m3,hM.key.check _ _ _ lX,f1,MapKept.run_setObj_map _ m3,Result.andThen]
     · rw[Array.toList_push,List.pairwise_append]
       refine⟨m4,by simp,fun e he e' iI=> ?_⟩
       simp only[List.mem_singleton] at iI
       subst iI
       exact f2 e he
     · unfold E8
       rw[if_neg (by simp[pO.2]),Array.toList_push]
       exact m5.append ⟨⟨vs,rfl,TA⟩,trivial⟩
   · obtain⟨y,g1,_,g3⟩:=NN (f:=fun x=>j6 (T.out n x) ks) m6 m5 m4 f2 f3
     have hj:es[j]? =some e0:=by simpa using f2
     obtain⟨s1,s2⟩:=VC (f:=fun x=>j6 (T.out n x) ks) (z:=z) (g:=fun e=>{e with key:=ep vs,val:=vu}) m6 m5 m4 f2 f3 ⟨vs,rfl,TA⟩ f3.symm
     refine⟨es.modify j fun e=>{e with key:=ep vs,val:=vu},clock, ?_, ?_, ?_⟩
     · simp[Instr.mapUpdate,run_underlying hM.qu,MapKept.run_getObj_map m3,hM.key.check _ _ _ lX,f1,hj,f3,hM.key.stays _ _ lX,MapKept.run_setObj_map _ m3,Result.andThen]
     · rw[Array.toList_modify]
       have p1:=List.pairwise_map.2 m4
       rw[←s2] at p1
       exact List.pairwise_map.1 p1
     · unfold E8
       rw[if_pos g3,Array.toList_modify]
       exact s1
  obtain⟨oV,yG,u1,u2,u3⟩:=iH
  obtain⟨uM,xM⟩:=MapKept.heap_set (w:=w) (r:=r) (o':= .map oV yG) m3
  have bh:ba [i] [] γ.o w γ.o {w with heap:=w.heap.setIfInBounds r (.map oV yG)}:=by
   refine⟨rfl,rfl,rfl,by simp,fun _ _=>rfl,fun b h1 h2=> ?_,fun b hb hm=> ?_⟩
   · simp at h2
     omega
   · refine xM b fun e=>hm ?_
     subst e
     simp[m2]
  refine OW.Eu fun c hc=>⟨{w with heap:=w.heap.setIfInBounds r (.map oV yG)}, ?_, ?_⟩
  rotate_left
  · refine⟨_,mkPost (M:=[i]) (N:=[]) (ps:=[]) (g':=γ.g) (v':=γ.v) hx.ob bh (by simp[eJ,MI,bT.wr]) (by simp) (by simp) hx.bR (fun _ _=>rfl) (fun _ _=>rfl) rfl ?_⟩
    intro q z' hq gY
    obtain⟨rfl,kD⟩:=jZ hq
    cases kD
    exact⟨eJ,.inl MI,r,oV,yG,m1,m2,uM,u2,u3.mono fun e x ⟨us,a1,a2⟩=>⟨us,a1,ab.mono (fun b hb _=>hb.elim) a2⟩⟩
  · simp[execOp,hc _ _ h1,hc _ _ h3,hc _ _ h5,u1]
end
section
variable {P:Program}
theorem o9.plain{kt:TypeId}{l:Lf}{d:TypeDesc}(hd:P.underlying kt=some d)(hk:∀v,eN [l] [v]→MapKept.IsKey d v):o9 P kt [l]:=by
 have one:∀{us:List Value},eN [l] us→∃v,us=[v]∧MapKept.IsKey d v:=fun{us} h=>by
  match us,h with
  |[v],h=>exact⟨v,rfl,hk v h⟩
  |[],h=>exact h.elim
  |_::_::_,h=>exact h.2.elim
 refine⟨fun w em ks h=> ?_,fun w ks h es lZ=> ?_,fun w ks h=> ?_⟩
 · obtain⟨v,rfl,h1⟩:=one h
   exact MapKept.run_checkKey hd h1 em 9999
 · obtain⟨v,rfl,h1⟩:=one h
   have fE:∀y∈es,MapKept.IsKey d y.key:=fun y hy=>by
    obtain⟨us,h2,h3⟩:=lZ y hy
    obtain⟨u,rfl,h4⟩:=one h2
    rw[h3]
    exact h4
   rcases MapKept.findNow_spec h1 es 0 fE with⟨g1,g2⟩|⟨j,e0,g1,g2,g3⟩
   · exact .inl ⟨MapKept.run_findKey hd g1,g2⟩
   · exact .inr ⟨j,e0,by have:=MapKept.run_findKey (P:=P) (w:=w) hd g1;rw[Nat.zero_add] at this;exact this,g2,g3⟩
 · obtain⟨v,rfl,h1⟩:=one h
   exact MapKept.run_keyThatStays h1
theorem o9.int{kt:TypeId}{k:IntKind}(hd:P.underlying kt=some (.int k)):o9 P kt [.int k]:=o9.plain hd fun v ⟨⟨a,h⟩,_⟩=>by subst h;rfl
theorem o9.str{kt:TypeId}(hd:P.underlying kt=some .string):o9 P kt [.str]:=o9.plain hd fun v ⟨⟨a,h⟩,_⟩=>by subst h;trivial
theorem eN.len:∀{ls:List Lf} {us:List Value},eN ls us→us.length=ls.length
 |[],[],_=>rfl
 |_::_,_::_,h=>by simp[eN.len h.2]
 |[],_::_,h=>h.elim
 |_::_,[],h=>h.elim
theorem eN.split:∀{l1 l2:List Lf} {us:List Value},eN (l1++l2) us→eN l1 (us.take l1.length)∧eN l2 (us.drop l1.length)
 |[],l2,us,h=>⟨by simp[eN],by simpa using h⟩
 |l::l1,l2,u::us,h=>by
  obtain⟨h1,h2⟩:=eN.split (l1:=l1) h.2
  exact⟨by rw[arz,List.take_succ_cons];exact⟨h.1,h1⟩,by rw[arz,List.drop_succ_cons];exact h2⟩
 |_::_,_,[],h=>h.elim
theorem fB.int{t:TypeId}{k:IntKind}(h:P.underlying t=some (.int k)):fB P t false [.int k] 1:=by
 intro d w us vs h1 h2
 match us,vs,h1,h2 with
 |[u],[v],h1,h2=>
  obtain⟨⟨a,rfl⟩,_⟩:=h1
  obtain⟨⟨b,rfl⟩,_⟩:=h2
  have:=run_equalIn_int (P:=P) w d t k k a b h
  exact⟨a==b,by simpa[pack] using this,by simp⟩
 |[],_,h1,_=>exact h1.elim
 |_::_::_,_,h1,_=>exact h1.2.elim
 |[_],[],_,h2=>exact h2.elim
 |[_],_::_::_,_,h2=>exact h2.2.elim
theorem fB.bool{t:TypeId}(h:P.underlying t=some .bool):fB P t false [.bool] 1:=by
 intro d w us vs h1 h2
 match us,vs,h1,h2 with
 |[u],[v],h1,h2=>
  obtain⟨⟨a,rfl⟩,_⟩:=h1
  obtain⟨⟨b,rfl⟩,_⟩:=h2
  have:=run_equalIn_bool' (P:=P) w d t a b h
  exact⟨a==b,by simpa[pack] using this,by simp⟩
 |[],_,h1,_=>exact h1.elim
 |_::_::_,_,h1,_=>exact h1.2.elim
 |[_],[],_,h2=>exact h2.elim
 |[_],_::_::_,_,h2=>exact h2.2.elim
theorem fB.str{t:TypeId}(h:P.underlying t=some .string):fB P t false [.str] 1:=by
 intro d w us vs h1 h2
 match us,vs,h1,h2 with
 |[u],[v],h1,h2=>
  obtain⟨⟨a,rfl⟩,_⟩:=h1
  obtain⟨⟨b,rfl⟩,_⟩:=h2
  have:=run_equalIn_string (P:=P) w d t a b h
  rw[←beq_toListBytes] at this
  refine⟨a==b,by simpa[pack] using this, ?_⟩
  have:∀p q:ByteArray,(p==q)=true↔p=q:=fun⟨a⟩ ⟨b⟩=>by
   show(a==b)=true↔_
   simp
  rw[this]
  simp
 |[],_,h1,_=>exact h1.elim
 |_::_::_,_,h1,_=>exact h1.2.elim
 |[_],[],_,h2=>exact h2.elim
 |[_],_::_::_,_,h2=>exact h2.2.elim
theorem fB.up{t:TypeId}{g:Bool}{ls:List Lf}{k k':Nat}(h:fB P t g ls k)(hk:k≤k'):fB P t g ls k':=fun d w us vs h1 h2=>by
 have:=h (d+(k'-k)) w us vs h1 h2
 rwa[show d+(k'-k)+k=d+k' by omega] at this
theorem AP{t:TypeId}{g:Bool}{z us:List Value}{off:Nat}(hT:bt P t g z)(hz:g=false→z.length=1)(h:off+z.length≤us.length)(w:World):(part t us.toArray off).run P w= .ok (pack g ((us.drop off).take z.length)) w:=by
 unfold part
 rw[Sem.run_bind,hT.isAgg]
 simp only[Result.andThen_ok]
 cases g with
 |true=>
  simp only[if_true,Sem.run_bind,hT.sizeOf,Result.andThen_ok,Sem.run_pure,pack]
  congr 2
  apply Array.toList_inj.1
  simp[List.take_drop]
 |false=>
  have h1:=hz rfl
  rw[h1] at h⊢
  have aK:off<us.length:=by omega
  simp only[aqG,if_false]
  have:us.toArray[off]? =some us[off]:=by simp[aK]
  rw[this]
  simp only[Sem.run_pure,pack,aqG,if_false]
  rw[List.drop_eq_getElem_cons aK]
  rfl
def PG(P:Program)(k:Nat):Nat→List Field→List Lf→Prop
 |off,[],ls=>ls=[]
 |off,f::fs,ls=>f.name≠ "_" ∧f.offset=off∧∃g l1 l2 z,ls=l1++l2∧bt P f.type g z∧z.length=l1.length∧(g=false→l1.length=1)∧fB P f.type g l1 k∧PG P k (off+l1.length) fs l2
theorem VA{k d:Nat}{xs ys:List Value}{w:World}:∀{fs:List Field} {off:Nat} {ls:List Lf},PG P k off fs ls→eN ls (xs.drop off)→eN ls (ys.drop off)→off≤xs.length→off≤ys.length→∃r:Bool,(Op.eqFields (d+k) xs.toArray ys.toArray fs).run P w= .ok r w∧(r=true↔xs.drop off=ys.drop off)
 |[],off,ls,h,hx,hy,_,_=>by
  have h:ls=[]:=h
  subst h
  have e1:xs.drop off=[]:=by
   generalize xs.drop off=a at hx
   cases a with
   |nil=>rfl
   |cons _ _=>exact hx.elim
  have e2:ys.drop off=[]:=by
   generalize ys.drop off=a at hy
   cases a with
   |nil=>rfl
   |cons _ _=>exact hy.elim
  rw[e1,e2]
  exact⟨true,by simp[Op.eqFields],by simp⟩
 |f::fs,off,ls,h,hx,hy,T7,hoy=>by
  obtain⟨h1,rfl,g,l1,l2,z,rfl,h2,h3,h4,h5,h6⟩:=h
  have lx:=hx.len
  have ly:=hy.len
  simp at lx ly
  obtain⟨x1,x2⟩:=hx.split
  obtain⟨y1,y2⟩:=hy.split
  rw[arp] at x2 y2
  have hz:g=false→z.length=1:=fun hg=>by rw[h3];exact h4 hg
  have hle:f.offset+l1.length≤xs.length:=by omega
  · have p1:=AP (us:=xs) (off:=f.offset) h2 hz (by omega) w
    have p2:=AP (us:=ys) (off:=f.offset) h2 hz (by omega) w
    rw[h3] at p1 p2
    obtain⟨r3,p3,q3⟩:=h5 d w _ _ x1 y1
    obtain⟨ri,ih,qi⟩:=VA (d:=d) (w:=w) h6 x2 y2 (by omega) (by omega)
    simp only[Op.eqFields,ne_eq,h1,not_false_eq_true,if_true,Sem.run_bind,p1,p2,p3,Result.andThen_ok]
    have ex:xs.drop f.offset=(xs.drop f.offset).take l1.length++xs.drop (f.offset+l1.length):=by rw[←arp,arv]
    have ey:ys.drop f.offset=(ys.drop f.offset).take l1.length++ys.drop (f.offset+l1.length):=by rw[←arp,arv]
    cases r3 with
    |true=>
     have he:=q3.1 rfl
     refine⟨ri,by simpa using ih,qi.trans ⟨fun e=>by rw[ex,ey,he,e],fun e=>by rw[←arp,←arp,e]⟩⟩
    |false=>
     refine⟨false,by simp,by simp;intro e;have:=q3.2 (by rw[e]);cases this⟩
theorem fB.struct{t:TypeId}{fs:Array Field}{ls:List Lf}{k:Nat}(h:P.underlying t=some (.struct fs))(hp:P.stoodInHeld t=false)(hF:PG P k 0 fs.toList ls):fB P t true ls (k+1):=by
 intro d w us vs h1 h2
 have Uz:P.fieldsOf t=fs:=by simp[Program.fieldsOf,h]
 have e1:=run_equalIn_struct (P:=P) w (d+k) t us.toArray vs.toArray (by rw[Uz];exact h) hp
 obtain⟨r,e2,e3⟩:=VA (P:=P) (d:=d) (w:=w) hF (xs:=us) (ys:=vs) (by simpa using h1) (by simpa using h2) (by simp) (by simp)
 rw[Uz,e2] at e1
 exact⟨r,e1,by simpa using e3⟩
theorem Vz{t:TypeId}{g:Bool}{l1:List Lf}{k d:Nat}{z xs ys:List Value}{w:World}(h2:bt P t g z)(h3:z.length=l1.length)(h4:g=false→l1.length=1)(h5:fB P t g l1 k){i:TypeInfo}(hi:P.cellsOf t=l1.length):
  ∀{n s:Nat},eN (aqS n l1).flatten (xs.drop (s*l1.length))→eN (aqS n l1).flatten (ys.drop (s*l1.length))→s*l1.length≤xs.length→s*l1.length≤ys.length→∃r:Bool,(Op.eqItems (d+k) t (P.cellsOf t) xs.toArray ys.toArray (List.range' s n)).run P w= .ok r w∧(r=true↔xs.drop (s*l1.length)=ys.drop (s*l1.length))
 |0,s,hx,hy,_,_=>by
  have e1:xs.drop (s*l1.length)=[]:=by
   generalize xs.drop (s*l1.length)=a at hx
   cases a with
   |nil=>rfl
   |cons _ _=>exact hx.elim
  have e2:ys.drop (s*l1.length)=[]:=by
   generalize ys.drop (s*l1.length)=a at hy
   cases a with
   |nil=>rfl
   |cons _ _=>exact hy.elim
  rw[e1,e2]
  exact⟨true,by simp[Op.eqItems],by simp⟩
 |n+1,s,hx,hy,Mv,hly=>by
  rw[List.replicate_succ,arn] at hx hy
  have lx:=hx.len
  have ly:=hy.len
  simp at lx ly
  obtain⟨x1,x2⟩:=hx.split
  obtain⟨y1,y2⟩:=hy.split
  rw[arp] at x2 y2
  have hs:(s+1)*l1.length=s*l1.length+l1.length:=by rw[Nat.succ_mul]
  have hz:g=false→z.length=1:=fun hg=>by rw[h3];exact h4 hg
  have p1:=AP (us:=xs) (off:=s*l1.length) h2 hz (by omega) w
  have p2:=AP (us:=ys) (off:=s*l1.length) h2 hz (by omega) w
  rw[h3] at p1 p2
  obtain⟨r3,p3,q3⟩:=h5 d w _ _ x1 y1
  obtain⟨ri,ih,qi⟩:=Vz (d:=d) (xs:=xs) (ys:=ys) (w:=w) h2 h3 h4 h5 (i:=i) hi (n:=n) (s:=s+1) (by rw[hs];exact x2) (by rw[hs];exact y2) (by omega) (by omega)
  rw[hi] at ih⊢
  rw[List.range'_succ]
  simp only[Op.eqItems,Sem.run_bind,p1,p2,p3,Result.andThen_ok]
  have ex:xs.drop (s*l1.length)=(xs.drop (s*l1.length)).take l1.length++xs.drop ((s+1)*l1.length):=by rw[hs,←arp,arv]
  have ey:ys.drop (s*l1.length)=(ys.drop (s*l1.length)).take l1.length++ys.drop ((s+1)*l1.length):=by rw[hs,←arp,arv]
  cases r3 with
  |true=>
   have he:=q3.1 rfl
   refine⟨ri,by simpa using ih,qi.trans ⟨fun e=>by rw[ex,ey,he,e],fun e=>by rw[hs,←arp,←arp,e]⟩⟩
  |false=>
   refine⟨false,by simp,by simp;intro e;have:=q3.2 (by rw[e]);cases this⟩
theorem fB.array{t e:TypeId}{m k:Nat}{g:Bool}{l1 ls:List Lf}{z:List Value}(h:P.underlying t=some (.array m e))(h2:bt P e g z)(h3:z.length=l1.length)(h4:g=false→l1.length=1)(h5:fB P e g l1 k)(hl:ls=(aqS m l1).flatten):fB P t true ls (k+1):=by
 intro d w us vs c1 c2
 obtain⟨i,dX,cF,_⟩:=h2.jD
 subst hl
 have e1:=run_equalIn_array (P:=P) w (d+k) us.toArray vs.toArray h dX
 have hc:P.cellsOf e=l1.length:=by simp[Program.cellsOf,dX,cF,h3]
 obtain⟨r,e2,e3⟩:=Vz (d:=d) (xs:=us) (ys:=vs) (w:=w) h2 h3 h4 h5 (i:=i) hc (n:=m) (s:=0) (by simpa using c1) (by simpa using c2) (by simp) (by simp)
 rw[List.range_eq_range',e2] at e1
 exact⟨r,e1,by simpa using e3⟩
theorem eN.ints{k:IntKind}:∀{m:Nat} {us:List Value},eN (aqS m (.int k)) us→∃xs:List Int,us=xs.map (Value.int k)∧xs.length=m
 |0,[],_=>⟨[],rfl,rfl⟩
 |0,_::_,h=>h.elim
 |m+1,[],h=>h.elim
 |m+1,u::us,h=>by
  obtain⟨⟨a,rfl⟩,h2⟩:=(h:(∃a,u= .int k a)∧eN (aqS m (.int k)) us)
  obtain⟨xs,rfl,h3⟩:=eN.ints h2
  exact⟨a::xs,rfl,by simp[h3]⟩
theorem afi{us:List Value}(h:us.length≠1):ep us= .agg us.toArray:=by
 match us,h with
 |[],_=>rfl
 |[_],h=>exact(h rfl).elim
 |_::_::_,_=>rfl
theorem o9.nU{kt e:TypeId}{m:Nat}{k:IntKind}{z:List Value}(h:P.underlying kt=some (.array m e))(hm:m≠1)(he:P.underlying e=some (.int k))(hT:bt P e false z)(hz:z.length=1):o9 P kt (aqS m (.int k)):=by
 have hE:fB P kt true (aqS m (.int k)) 2:=fB.array (l1:=[.int k]) h hT (by simpa using hz) (fun _=>rfl) (fB.int he) (by
  clear h hm
  induction m with
  |zero=>rfl
  |succ m ih=>rw[List.replicate_succ,List.replicate_succ,arn,←ih];rfl)
 have hk:∀{us:List Value},eN (aqS m (.int k)) us→ep us= .agg us.toArray:=fun{us} hu=>afi (by rw[hu.len,List.length_replicate];exact hm)
 refine⟨fun w em ks hc=> ?_,fun w ks hc es lZ=> ?_,fun w ks hc=> ?_⟩
 · rw[hk hc]
   obtain⟨xs,rfl,LU⟩:=hc.ints
   unfold Instr.checkKey
   simp only[Sem.run_bind,run_underlying h,Result.andThen_ok]
   simp only[Std.Legacy.Range.forIn_eq_forIn_range',Std.Legacy.Range.size,Nat.sub_zero,Nat.add_one_sub_one,Nat.div_one]
   have key:∀{n s:Nat},s+n=m→(forIn (List.range' s n) PUnit.unit (fun i (r:PUnit)=>do
     let v ←part e (xs.map (Value.int k)).toArray (i*(←sizeOf e))
     Instr.checkKey em 9999 e v
     pure (ForInStep.yield PUnit.unit)):Sem PUnit).run P w= .ok PUnit.unit w:=by
    intro n
    induction n with
    |zero=>intro s _;simp
    |succ n ih=>
     intro s hs
     have p1:=AP (us:=xs.map (Value.int k)) (off:=s) hT (fun _=>hz) (by simp;omega) w
     have aK:s<xs.length:=by omega
     have p2:pack false (((xs.map (Value.int k)).drop s).take z.length)= .int k xs[s]:=by
      rw[hz,List.drop_eq_getElem_cons (by simpa using aK)]
      simp[pack]
     rw[p2] at p1
     have p3:=MapKept.run_checkKey (P:=P) (w:=w) (k:= .int k xs[s]) he rfl em 9998
     have p4:=hT.sizeOf w
     rw[hz] at p4
     rw[List.range'_succ,List.forIn_cons]
     simp only[Sem.run_bind,p4,Result.andThen_ok,Nat.mul_one,p1,p3,Sem.run_pure]
     exact ih (by omega)
   have:=key (n:=m) (s:=0) (by omega)
   rw[this]
   rfl
 · rw[hk hc]
   have UG:∀e'∈es,∃us,eN (aqS m (.int k)) us∧e'.key= .agg us.toArray:=fun e' iI=>by
    obtain⟨us,h1,h2⟩:=lZ e' iI
    exact⟨us,h1,by rw[h2,hk h1]⟩
   have gZ:∀e'∈es,∃r:Bool,(Op.equal kt (.agg ks.toArray) e'.key).run P w= .ok r w∧(r=true↔e'.key= .agg ks.toArray):=fun e' iI=>by
    obtain⟨us,h1,h2⟩:=UG e' iI
    obtain⟨r,e1,e2⟩:=hE 9998 w ks us hc h1
    rw[h2]
    simp only[pack,if_true] at e1
    exact⟨r,e1,e2.trans ⟨fun h=>by rw[h],fun h=>by simpa using h.symm⟩⟩
   have aiY:∀(l:List MapEntry) (i:Nat),(∀e'∈l,e'∈es)→((Instr.findAsking kt (.agg ks.toArray) l i).run P w= .ok none w∧∀e'∈l,e'.key≠.agg ks.toArray)∨∃j e',(Instr.findAsking kt (.agg ks.toArray) l i).run P w= .ok (some (i+j,e'.val)) w∧l[j]? =some e'∧e'.key= .agg ks.toArray:=by
    intro l
    induction l with
    |nil=>intro i _;exact .inl ⟨rfl,by simp⟩
    |cons e' l ih=>
     intro i hl
     obtain⟨r,h1,iY⟩:=gZ e' (hl e' (by simp))
     unfold Instr.findAsking
     simp only[Sem.run_bind,h1,Result.andThen_ok]
     cases r with
     |true=>exact .inr ⟨0,e',by simp,rfl,iY.1 rfl⟩
     |false=>
      have bH:e'.key≠.agg ks.toArray:=fun h=>by have:=iY.2 h;cases this
      rcases ih (i+1) (fun x hx=>hl x (aq7 _ hx)) with⟨g1,g2⟩|⟨j,e2,g1,g2,g3⟩
      · refine .inl ⟨by simp[g1],fun x hx=> ?_⟩
        rcases aqR.1 hx with rfl|hx
        · exact bH
        · exact g2 x hx
      · refine .inr ⟨j+1,e2, ?_,by simpa using g2,g3⟩
        simp only[aqG,if_false]
        rw[g1]
        congr 3
        omega
   have hfk:(Instr.findKey kt (.agg ks.toArray) es).run P w=(Instr.findAsking kt (.agg ks.toArray) es).run P w:=by
    unfold Instr.findKey
    simp only[Sem.run_bind,run_underlying h,Result.andThen_ok]
    cases es with
    |nil=>rfl
    |cons e' es=>
     obtain⟨us,_,h2⟩:=UG e' (by simp)
     simp[Instr.findNow,Instr.sameNow]
   rw[hfk]
   rcases aiY es 0 (fun _ h=>h) with⟨g1,g2⟩|⟨j,e2,g1,g2,g3⟩
   · exact .inl ⟨g1,g2⟩
   · exact .inr ⟨j,e2,by simpa using g1,g2,g3⟩
 · rw[hk hc]
   obtain⟨xs,rfl,LU⟩:=hc.ints
   have:Instr.sameBits 10000 (.agg (xs.map (Value.int k)).toArray) (.agg (xs.map (Value.int k)).toArray)=true:=by
    simp only[Instr.sameBits,BEq.rfl,Bool.true_and]
    rw[aq0]
    rintro⟨x,y⟩ xI
    simp only[List.zip_map,List.mem_map] at xI
    have hz:∀(l:List Int) (p:Int×Int),p∈l.zip l→p.1=p.2:=by
     intro l
     induction l with
     |nil=>intro p hp;simp at hp
     |cons a l ih=>
      intro p hp
      simp only[List.zip_cons_cons,aqR] at hp
      rcases hp with rfl|hp
      · rfl
      · exact ih p hp
    obtain⟨p,hp,h2⟩:=xI
    have h3:=hz xs p hp
    cases h2
    simp[Instr.sameBits,h3]
   simp[Instr.keyThatStays,this]
end
end Rx
end Go.Proofs.YtncbfgppjfcijaaGreat
