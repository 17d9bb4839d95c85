import Derived.ScopeJumps
import Derived.Test.YtncbfgppjfcijaaGreatRm
set_option linter.unusedVariables false
set_option linter.unusedSimpArgs false
set_option linter.unusedSectionVars false
open Array renaming getD→arJ,getElem?_eq_some_iff→aq5
open Bool renaming and_eq_true→aqL,false_eq_true→aqG,not_eq_true'→arC,or_eq_true→arW
open List renaming all_eq_true→aq0,filter_cons_of_neg→arA,filter_cons_of_pos→ari,getD_eq_getElem?_getD→arL,getElem?_eq_getElem→arx,length_cons→arz,mem_append→aqP,mem_cons→aqR,mem_filter→arf,mem_map→aqX,mem_of_getElem?→art,mem_range→aqV,range→aqN
open Nat renaming beq→aqH,ble→aq2,ble_eq_true_of_le→ash,blt→aqZ,eq_of_beq_eq_true→aqK,le_of_ble_eq_true→aqT,le_refl→aqM,zero_add→arD
open Option.some renaming inj→are
open Prod renaming fst→aqO
noncomputable section
namespace Go.Proofs.YtncbfgppjfcijaaGreat
open Go Go.RowKit Dp
namespace Rx
section
variable {α:Type} {g:Nat→List (Nat×α)} {l0:List (Nat×α)} {D D':Nat→Bool} {i p:Nat}
def acc(g:Nat→List (Nat×α))(l0:List (Nat×α))(D:Nat→Bool):Nat→List (Nat×α)
 |0=>l0
 |n+1=>cond (D n) (g n++acc g l0 D n) (acc g l0 D n)
theorem zd:∀{n:Nat},(∀q,q<n→i∈(g q).map aqO→D q=D' q)→au (acc g l0 D n) i=au (acc g l0 D' n) i
 |0,_=>rfl
 |n+1,h=>by
  have ih:=zd (n:=n) fun q hq=>h q (by omega)
  simp only[acc]
  by_cases hi:i∈(g n).map aqO
  · rw[h n (by omega) hi]
    cases D' n with
    |true=>simp only[cond_true,gX,ih]
    |false=>exact ih
  · have hn:=lP.2 hi
    have e:∀l,au (g n++l) i=au l i:=fun l=>by rw[gX,hn]
    cases D n<;>cases D' n<;>simp only[cond_true,cond_false,e,ih]
theorem ZP(hp:D p=true)(hi:i∈(g p).map aqO):∀{n:Nat},p<n→(∀q,p<q→q<n→D q=true→i∉(g q).map aqO)→au (acc g l0 D n) i=au (g p) i
 |0,h,_=>by omega
 |n+1,h,hq=>by
  simp only[acc]
  by_cases hpn:p=n
  · subst hpn
    rw[hp]
    simp only[cond_true,gX]
    cases hl:au (g p) i with
    |none=>exact(lP.1 hl hi).elim
    |some a=>rfl
  · have ih:=ZP hp hi (n:=n) (by omega) fun q h1 h2=>hq q h1 (by omega)
    cases hD:D n with
    |false=>exact ih
    |true=>
     simp only[cond_true,gX,lP.2 (hq n (by omega) (by omega) hD)]
     exact ih
theorem Pl:∀{n:Nat},(∀q,q<n→D q=D' q)→acc g l0 D n=acc g l0 D' n
 |0,_=>rfl
 |n+1,h=>by
  simp only[acc]
  rw[Pl (n:=n) fun q hq=>h q (by omega),h n (by omega)]
theorem CV:∀{n k:Nat},(∀q,n≤q→D q=false)→acc g l0 D (n+k)=acc g l0 D n
 |n,0,_=>rfl
 |n,k+1,h=>by
  rw[Nat.add_succ]
  simp only[acc]
  rw[h (n+k) (by omega)]
  exact CV h
theorem ZO{n N:Nat}(h:n≤N):acc g l0 (fun _=>true) n=acc g l0 (fun q=>aqZ q n) N:=by
 obtain⟨k,rfl⟩:∃k,N=n+k:=⟨N-n,by omega⟩
 rw[CV fun q hq=>by
  cases hb:aqZ q n with
  |true=>have:=aqT hb;omega
  |false=>rfl]
 refine Pl fun q hq=> ?_
 exact(ash hq).symm
theorem CX:∀{n:Nat},acc g l0 (fun _=>true) (n+1)=acc (fun q=>g (q+1)) (g 0++l0) (fun _=>true) n
 |0=>rfl
 |n+1=>by
  have:=CX (n:=n)
  simp only[acc,cond_true] at this⊢
  rw[this]
def ins(D:Nat→Bool)(p:Nat):Nat→Bool:=fun j=>D j||aqH j p
theorem Tg(D:Nat→Bool)(p:Nat):ins D p p=true:=by simp[ins]
theorem A7{q:Nat}(h:q≠p):ins D p q=D q:=by
 have:aqH q p=false:=by
  cases hb:aqH q p with
  |true=>exact(h (aqK hb)).elim
  |false=>rfl
 simp[ins,this]
theorem ZQ{n:Nat}(hp:p<n)(hD:D p=false)(h:∀i∈(g p).map aqO,∀q,p<q→q<n→D q=true→i∉(g q).map aqO)(i:Nat):au (acc g l0 (ins D p) n) i=au (g p++acc g l0 D n) i:=by
 by_cases hi:i∈(g p).map aqO
 · rw[ZP (Tg D p) hi hp fun q h1 h2 h3=>h i hi q h1 h2 (by rw[A7 (by omega)] at h3;exact h3),gX]
   cases hl:au (g p) i with
   |none=>exact(lP.1 hl hi).elim
   |some a=>rfl
 · rw[gX,lP.2 hi]
   refine zd fun q hq hm=> ?_
   by_cases lh:q=p
   · subst lh;exact(hi hm).elim
   · exact A7 lh
end
section
variable {D:Nat→Type} [∀n,ab (D n)]
variable {P:Program} {T:aV D} {Φ:List (ar D)} {n:Nat}
inductive RS(D:Nat→Type)|run (e:bT D) (l:List Nat)|skip
def dl(d:Option Nat)(a:AV D):List (Nat×AV D):=match d with
 |some d=>[(d,a)]
 |none=>[]
def gS(o:Oper):RS D→List (Nat×AV D)
 | .run e _=>dl o.dst e.dst
 | .skip=>dl o.dst (.c (.one .undef))
def gO:RS D→List (Nat×Option (AO D))
 | .run e _=>e.fz.map (fun i=>(i,none))++e.nt
 | .skip=>[]
def rL(σ:S D)(o:Oper)(x:RS D):S D:=⟨gS o x++σ.sl,gO x++σ.ob,σ.nx+64,σ.lk⟩
theorem ac3{σ:S D}{o:Oper}{e:bT D}{l:List Nat}:rL σ o (.run e l)=tA σ o.dst e:=by
 cases h:o.dst<;>simp[rL,tA,gS,gO,dl,h]
theorem ac2{σ:S D}{o:Oper}:rL σ o .skip=pt σ o.dst:=by
 cases h:o.dst<;>simp[rL,pt,gS,gO,dl,h]
theorem ajM{o:Oper}{x:RS D}{t:Nat}:t∈(gS o x).map aqO↔o.dst=some t:=by
 cases x<;>cases h:o.dst<;>simp[gS,dl,h,eq_comm]
theorem ajN{e:bT D}{l:List Nat}{i:Nat}(h:i∈(gO (.run e l)).map aqO):i∈e.wr:=by
 unfold bT.wr
 simp only[gO,List.map_append,List.map_map,aqP,aqX] at h⊢
 rcases h with⟨x,h,rfl⟩|h
 · exact .inr h
 · exact .inl h
def Z9(T:aV D)(Φ:List (ar D))(ops:List Oper)(σ:S D)(o:Oper):RS D→Prop
 | .run e l=>(∀j b,o.guard=some (j,b)→∃og d K g,ops[j]? =some og∧og.dst=some d∧au σ.sl d=some (.c (.one (.v .bool b K g))))∧
     ∃as,dk σ.sl o.op.operands.toList=some as∧Q.R σ.ob (uo T Φ σ.nx o.op as) l e∧yj σ.lk e=true
 | .skip=>∃j b og d a,o.guard=some (j,b)∧ops[j]? =some og∧og.dst=some d∧au σ.sl d=some a∧((∃K g,a= .c (.one (.v .bool (!b) K g)))∨a= .c (.one .undef))
def Tr(T:aV D)(Φ:List (ar D))(ops:List Oper):List Oper→List (RS D)→S D→Prop
 |[],[],_=>True
 |o::r,x::xs,σ=>Z9 T Φ ops σ o x∧Tr T Φ ops r xs (rL σ o x)
 |_,_,_=>False
def runT:List Oper→List (RS D)→S D→S D
 |o::r,x::xs,σ=>runT r xs (rL σ o x)
 |_,_,σ=>σ
def uA:List (RS D)→Nat→List Lg→List Lg
 |[],_,lg=>lg
 | .run e l::xs,p,lg=>uA xs (p+1) (⟨p,l.reverse,e.wr⟩::lg)
 | .skip::xs,p,lg=>uA xs (p+1) lg
structure o_(σ aI:S D):Prop where
 sl:∀t,au σ.sl t=au aI.sl t
 ob:σ.ob=aI.ob
 nx:σ.nx=aI.nx
 lk:σ.lk=aI.lk
theorem NJ{sl wQ:List (Nat×AV D)}:∀{l:List Operand},(∀t,.tmp t∈l→au sl t=au wQ t)→dk sl l=dk wQ l
 |[],_=>rfl
 |x::l,h=>by
  simp only[dk]
  rw[NJ (l:=l) fun t ht=>h t (by simp[ht])]
  have:dm sl x=dm wQ x:=by
   cases x with
   |tmp t=>exact h t (by simp)
   |_=>rfl
  rw[this]
theorem o_.st{σ aI:S D}(h:o_ σ aI)(o:Oper)(x:RS D):o_ (rL σ o x) (rL aI o x):=by
 refine⟨fun t=> ?_, ?_, ?_,h.lk⟩
 · show au (gS o x++σ.sl) t=au (gS o x++aI.sl) t
   rw[gX,gX,h.sl]
 · show gO x++σ.ob=gO x++aI.ob
   rw[h.ob]
 · show σ.nx+64=aI.nx+64
   rw[h.nx]
theorem trace{ops:List Oper}:∀{l:List Oper} {p:Nat} {σ aI:S D} {lg:List Lg} {ρ:Type} {k:S D→List Lg→Option ρ} {r:ρ},im T Φ ops l p aI lg k=some r→o_ σ aI→∃rs kP,Tr T Φ ops l rs σ∧o_ (runT l rs σ) kP∧k kP (uA rs p lg)=some r
 |[],p,σ,aI,lg,ρ,k,r,h,he=>⟨[],aI,trivial,he,h⟩
 |o::l,p,σ,aI,lg,ρ,k,r,h,he=>by
  have run:∀{dN:S D},o_ σ dN→(∀j b,o.guard=some (j,b)→∃og d K g,ops[j]? =some og∧og.dst=some d∧au σ.sl d=some (.c (.one (.v .bool b K g))))→ue T Φ p o dN lg (fun σ lg=>im T Φ ops l (p+1) σ lg k)=some r→
    ∃rs kP,Tr T Φ ops (o::l) rs σ∧o_ (runT (o::l) rs σ) kP∧k kP (uA rs p lg)=some r:=by
   intro dN mV hg h
   obtain⟨as,e,l',h1,h2,h3,h4⟩:=Q4 h
   rw[←ac3 (l:=l')] at h4
   obtain⟨rs,kP,t1,t2,t3⟩:=trace h4 (mV.st o (.run e l'))
   refine⟨.run e l'::rs,kP,⟨⟨hg,as, ?_, ?_, ?_⟩,t1⟩,t2,t3⟩
   · rw[NJ fun t _=>mV.sl t];exact h1
   · rw[mV.ob,mV.nx];exact h2
   · rw[mV.lk];exact h3
  have pass:∀{dN:S D},o_ σ dN→(∃j b og d a,o.guard=some (j,b)∧ops[j]? =some og∧og.dst=some d∧au σ.sl d=some a∧((∃K g,a= .c (.one (.v .bool (!b) K g)))∨a= .c (.one .undef)))→im T Φ ops l (p+1) (pt dN o.dst) lg k=some r→
    ∃rs kP,Tr T Φ ops (o::l) rs σ∧o_ (runT (o::l) rs σ) kP∧k kP (uA rs p lg)=some r:=by
   intro dN mV hg h
   rw[←ac2] at h
   obtain⟨rs,kP,t1,t2,t3⟩:=trace h (mV.st o .skip)
   exact⟨.skip::rs,kP,⟨hg,t1⟩,t2,t3⟩
  simp only[im] at h
  split at h
  · rename_i hg
    exact run he (fun j b hb=>by rw[hg] at hb;cases hb) h
  · rename_i j b hg
    split at h
    case h_1=>cases h
    rename_i d a pS
    obtain⟨og,ho,xY,hl⟩:=Nr pS
    rw[←he.sl] at hl
    split at h
    · rename_i c K g
      have pJ:∀c',c=c'→o_ σ (iC aI d c' K g):=fun c' hc=>by
       subst hc
       exact⟨fun t=>by
        show _=au ((d,_)::aI.sl) t
        rw[Lj (by rw[←he.sl];exact hl)]
        exact he.sl t,he.ob,he.nx,he.lk⟩
      have fb:c=b→∀j' b',o.guard=some (j',b')→∃og d K g,ops[j']? =some og∧og.dst=some d∧au σ.sl d=some (.c (.one (.v .bool b' K g))):=fun q7 j' b' hb=>by
       rw[hg] at hb
       cases hb
       exact⟨og,d,K,g,ho,xY,by rw[hl,q7]⟩
      have T4:c=(!b)→∃j b og d a,o.guard=some (j,b)∧ops[j]? =some og∧og.dst=some d∧au σ.sl d=some a∧((∃K g,a= .c (.one (.v .bool (!b) K g)))∨a= .c (.one .undef)):=fun q7=>
       ⟨j,b,og,d,_,hg,ho,xY,hl,.inl ⟨K,g,by rw[q7]⟩⟩
      rcases Ce h with⟨hc,h⟩|⟨hc,h⟩
      · cases b with
        |true=>exact run (pJ true hc) (fb hc) h
        |false=>exact pass (pJ true hc) (T4 hc) h
      · cases b with
        |true=>exact pass (pJ false hc) (T4 hc) h
        |false=>exact run (pJ false hc) (fb hc) h
    · split at h
      case isFalse=>cases h
      rename_i hu
      have ha:a= .c (.one .undef):=by
       unfold LD at hu
       split at hu
       · rfl
       · cases hu
      exact pass he ⟨j,b,og,d,a,hg,ho,xY,hl,.inr ha⟩ h
def gA(l:List Oper)(rs:List (RS D))(q:Nat):List (Nat×AV D):=match l[q]?,rs[q]? with
 |some o,some x=>gS o x
 |_,_=>[]
def gB(rs:List (RS D))(q:Nat):List (Nat×Option (AO D)):=match rs[q]? with
 |some x=>gO x
 |none=>[]
theorem ajP{l:List Oper}{rs:List (RS D)}{q:Nat}{o:Oper}{x:RS D}(h:l[q]? =some o)(hx:rs[q]? =some x):gA l rs q=gS o x:=by simp[gA,h,hx]
theorem ajO{rs:List (RS D)}{q:Nat}{x:RS D}(hx:rs[q]? =some x):gB rs q=gO x:=by simp[gB,hx]
theorem Gq{l:List Oper}{rs:List (RS D)}{q t:Nat}(h:t∈(gA l rs q).map aqO):∃o,l[q]? =some o∧o.dst=some t:=by
 unfold gA at h
 split at h
 · rename_i o x ho hx
   exact⟨o,ho,ajM.1 h⟩
 · simp at h
theorem Gp{rs:List (RS D)}{q i:Nat}(h:i∈(gB rs q).map aqO):∃e l,rs[q]? =some (.run e l)∧i∈e.wr:=by
 unfold gB at h
 split at h
 · rename_i x hx
   cases x with
   |run e l=>exact⟨e,l,hx,ajN h⟩
   |skip=>simp[gO] at h
 · simp at h
theorem ZS{ops:List Oper}:∀{l:List Oper} {rs:List (RS D)} {σ:S D},Tr T Φ ops l rs σ→rs.length=l.length
 |[],[],_,_=>rfl
 |_::_,_::_,_,h=>by simp[ZS h.2]
 |[],_::_,_,h=>h.elim
 |_::_,[],_,h=>h.elim
theorem Po{ops:List Oper}:∀{l:List Oper} {rs:List (RS D)} {σ:S D},Tr T Φ ops l rs σ→∀{i:Nat} {o:Oper} {x:RS D},l[i]? =some o→rs[i]? =some x→
  Z9 T Φ ops ⟨acc (gA l rs) σ.sl (fun _=>true) i,acc (gB rs) σ.ob (fun _=>true) i,σ.nx+64*i,σ.lk⟩ o x
 |[],[],_,_,i,o,x,hi,_=>by simp at hi
 |o'::l,x'::rs,σ,h,0,o,x,hi,hx=>by
  have e1:o'=o:=by simpa using hi
  have e2:x'=x:=by simpa using hx
  subst e1 e2
  exact h.1
 |o'::l,x'::rs,σ,h,i+1,o,x,hi,hx=>by
  have:=Po h.2 (i:=i) (o:=o) (x:=x) (by simpa using hi) (by simpa using hx)
  rw[CX,CX,show σ.nx+64*(i+1)=σ.nx+64+64*i from by omega]
  exact this
 |[],_::_,_,h,_,_,_,_,_=>h.elim
 |_::_,[],_,h,_,_,_,_,_=>h.elim
theorem RC{ops:List Oper}:∀{l:List Oper} {rs:List (RS D)} {σ:S D},Tr T Φ ops l rs σ→runT l rs σ=⟨acc (gA l rs) σ.sl (fun _=>true) l.length,acc (gB rs) σ.ob (fun _=>true) l.length,σ.nx+64*l.length,σ.lk⟩
 |[],[],_,_=>rfl
 |o::l,x::rs,σ,h=>by
  simp only[runT,arz]
  rw[RC h.2,CX,CX,show σ.nx+64*(l.length+1)=σ.nx+64+64*l.length from by omega]
  rfl
 |[],_::_,_,h=>h.elim
 |_::_,[],_,h=>h.elim
theorem Lr{an:List Nat}:∀{rs:List (RS D)} {p:Nat} {lg:List Lg},uz an (uA rs p lg)=true→
  uz an lg=true∧(∀j e l,rs[j]? =some (.run e l)→∀b∈lg,bit (an.getD (p+j) 0) b.i=true∨xv ⟨p+j,l.reverse,e.wr⟩ b=true)∧
  ∀i j e l e' l',i<j→rs[i]? =some (.run e l)→rs[j]? =some (.run e' l')→bit (an.getD (p+j) 0) (p+i)=true∨xv ⟨p+j,l'.reverse,e'.wr⟩ ⟨p+i,l.reverse,e.wr⟩=true
 |[],p,lg,h=>⟨h,fun j e l hj=>by simp at hj,fun i j e l e' l' _ hi=>by simp at hi⟩
 | .skip::rs,p,lg,h=>by
   obtain⟨h1,h2,h3⟩:=Lr (rs:=rs) (p:=p+1) (lg:=lg) h
   refine⟨h1,fun j e l hj b hb=> ?_,fun i j e l e' l' iV hi hj=> ?_⟩
   · cases j with
     |zero=>simp at hj
     |succ j=>
      have:=h2 j e l (by simpa using hj) b hb
      rw[show p+(j+1)=p+1+j from by omega]
      exact this
   · cases i with
     |zero=>simp at hi
     |succ i=>
      cases j with
      |zero=>omega
      |succ j=>
       have:=h3 i j e l e' l' (by omega) (by simpa using hi) (by simpa using hj)
       rw[show p+(j+1)=p+1+j from by omega,show p+(i+1)=p+1+i from by omega]
       exact this
 | .run e0 l0::rs,p,lg,h=>by
   obtain⟨h1,h2,h3⟩:=Lr (rs:=rs) (p:=p+1) (lg:=⟨p,l0.reverse,e0.wr⟩::lg) h
   simp only[uz,aqL,aq0,arW] at h1
   refine⟨h1.2,fun j e l hj b hb=> ?_,fun i j e l e' l' iV hi hj=> ?_⟩
   · cases j with
     |zero=>
      have:RS.run e0 l0= .run e l:=by simpa using hj
      cases this
      exact h1.1 b hb
     |succ j=>
      have:=h2 j e l (by simpa using hj) b (by simp[hb])
      rw[show p+(j+1)=p+1+j from by omega]
      exact this
   · cases j with
     |zero=>omega
     |succ j=>
      rw[show p+(j+1)=p+1+j from by omega]
      cases i with
      |zero=>
       have:RS.run e0 l0= .run e l:=by simpa using hi
       cases this
       exact h2 j e' l' (by simpa using hj) ⟨p,l0.reverse,e0.wr⟩ (by simp)
      |succ i=>
       have:=h3 i j e l e' l' (by omega) (by simpa using hi) (by simpa using hj)
       rw[show p+(i+1)=p+1+i from by omega]
       exact this
theorem Jr{ops:List Oper}{an:List Nat}:∀{r:List Oper} {j:Nat} {seen:List (Nat×Oper)},wC ops an j r seen=true→
  (∀q b,r[q]? =some b→(∀s∈seen,bit (an.getD (j+q) 0) s.1=true∨apart ops s.2 b=true)∧∀e∈b.after.toList,Region.binds .any e=true→e.on<j+q)∧
  ∀p q a b,p<q→r[p]? =some a→r[q]? =some b→bit (an.getD (j+q) 0) (j+p)=true∨apart ops a b=true
 |[],j,seen,h=>⟨fun q b hq=>by simp at hq,fun p q a b _ hp=>by simp at hp⟩
 |o::r,j,seen,h=>by
  simp only[wC,aqL,aq0,arW] at h
  obtain⟨⟨h1,h2⟩,h3⟩:=h
  obtain⟨k1,k2⟩:=Jr (r:=r) (j:=j+1) (seen:=(j,o)::seen) h3
  refine⟨fun q b hq=> ?_,fun p q a b iU hp hq=> ?_⟩
  · cases q with
    |zero=>
     have e:o=b:=by simpa using hq
     subst e
     refine⟨h1,fun e he hb=> ?_⟩
     rcases h2 e he with h4|h4
     · rw[hb] at h4;cases h4
     · exact aqT h4
    |succ q=>
     obtain⟨m1,m2⟩:=k1 q b (by simpa using hq)
     rw[show j+(q+1)=j+1+q from by omega]
     exact⟨fun s hs=>m1 s (by simp[hs]),m2⟩
  · cases q with
    |zero=>omega
    |succ q=>
     rw[show j+(q+1)=j+1+q from by omega]
     cases p with
     |zero=>
      have e:o=a:=by simpa using hp
      subst e
      exact(k1 q b (by simpa using hq)).1 (j,o) (by simp)
     |succ p=>
      have:=k2 p q a b (by omega) (by simpa using hp) (by simpa using hq)
      rw[show j+(p+1)=j+1+p from by omega]
      exact this
theorem O0(m i:Nat):bit m i=m.testBit i:=by
 unfold bit
 rw[Nat.testBit_eq_decide_div_mod_eq,Nat.shiftRight_eq_div_pow]
 cases h:aqH (m/2^i% 2) 1 with
 |true=>rw[aqK h];rfl
 |false=>
  have:¬m/2^i% 2=1:=fun e=>by rw[e] at h;cases h
  simp[this]
theorem ZK{f:Nat→Nat}{i:Nat}:∀{es:List Edge} {s:Nat},bit (es.foldl (fun s e=>if Region.binds .any e then s|||(1<<<e.on)|||(f e.on) else s) s) i=true→
  bit s i=true∨∃e∈es,Region.binds .any e=true∧(i=e.on∨bit (f e.on) i=true)
 |[],s,h=> .inl h
 |e::es,s,h=>by
  rw[List.foldl_cons] at h
  rcases ZK h with h|⟨e',h1,h2⟩
  · split at h
    · rename_i hb
      rw[O0,Nat.testBit_or,Nat.testBit_or,arW,arW] at h
      rcases h with(h|h)|h
      · exact .inl (by rw[O0];exact h)
      · refine .inr ⟨e,by simp,hb,.inl ?_⟩
        rw[Nat.one_shiftLeft,Nat.testBit_two_pow] at h
        exact(of_decide_eq_true h).symm
      · exact .inr ⟨e,by simp,hb,.inr (by rw[O0];exact h)⟩
    · exact .inl h
  · exact .inr ⟨e',by simp[h1],h2⟩
theorem ZH:∀{l:List Oper} {acc:List Nat},∃s,gN l acc=acc.reverse++s
 |[],acc=>⟨[],by simp[gN]⟩
 |o::r,acc=>by
  obtain⟨s,h⟩:=ZH (l:=r) (acc:=vY acc o::acc)
  exact⟨vY acc o::s,by simp only[gN];rw[h];simp⟩
theorem ZI:∀{l:List Oper} {acc:List Nat} {q:Nat} {o:Oper},l[q]? =some o→∃m,gN l acc=m++(gN l acc).drop (acc.length+q)∧m.length=acc.length+q∧(gN l acc)[acc.length+q]? =some (vY m.reverse o)
 |[],acc,q,o,h=>by simp at h
 |o'::r,acc,0,o,h=>by
  have e:o'=o:=by simpa using h
  subst e
  obtain⟨s,h⟩:=ZH (l:=r) (acc:=vY acc o'::acc)
  refine⟨acc.reverse, ?_,by simp, ?_⟩
  · simp only[gN]
    rw[h]
    simp
  · simp only[gN]
    rw[h]
    simp
 |o'::r,acc,q+1,o,h=>by
  obtain⟨m,h1,h2,h3⟩:=ZI (l:=r) (acc:=vY acc o'::acc) (q:=q) (o:=o) (by simpa using h)
  simp only[arz] at h1 h2 h3
  rw[show acc.length+1+q=acc.length+(q+1) from by omega] at h1 h2 h3
  exact⟨m,h1,h2,h3⟩
theorem ZJ{l:List Oper}{q i:Nat}{o:Oper}(h:l[q]? =some o)(hb:bit ((gN l []).getD q 0) i=true):∃e∈o.after.toList,Region.binds .any e=true∧(i=e.on∨bit ((gN l []).getD e.on 0) i=true):=by
 obtain⟨m,h1,h2,h3⟩:=ZI (acc:=[]) h
 simp only[List.length_nil,arD] at h1 h2 h3
 rw[arL,h3] at hb
 simp only[Option.getD_some] at hb
 unfold vY at hb
 rcases ZK (f:=fun x=>m.reverse.reverse.getD x 0) hb with hb|⟨e,k1,k2,k3⟩
 · simp[bit] at hb
 · refine⟨e,k1,k2, ?_⟩
   rcases k3 with k3|k3
   · exact .inl k3
   · right
     rw[List.reverse_reverse] at k3
     rw[h1]
     by_cases aK:e.on<m.length
     · rw[arL,List.getElem?_append_left aK,←arL]
       exact k3
     · rw[arL,List.getElem?_eq_none (by omega)] at k3
       simp[bit] at k3
theorem Q.apr{α:Type}{ob bG:List (Nat×Option (AO D))}:∀{q:Q D α} {l:List Nat} {a:α},(∀i∈l,au ob i=au bG i)→Q.R ob q l a→Q.R bG q l a:=by
 intro q
 induction q with
 |ret b=>intro l a _ h;exact h
 |fail=>intro l a _ h;exact h
 |obj i f ih=>
  intro l a he h
  obtain⟨x,l',h1,rfl,h2⟩:=h
  refine⟨x,l', ?_,rfl,ih x (fun i hi=>he i (by simp[hi])) h2⟩
  unfold cw at h1⊢
  rw[←he i (by simp)]
  exact h1
 |part o f ih=>
  intro l a he h
  obtain⟨y,h1,h2⟩:=h
  exact⟨y,h1,ih y he h2⟩
def UD(D:Nat→Bool)(nx N:Nat):Nat→Prop:=fun i=>i<nx∨∃q,q<N∧D q=true∧nx+64*q≤i∧i<nx+64*q+64
theorem ZR{Dn:Nat→Bool}{nx N p:Nat}(hp:p<N):fY (UD Dn nx N) (nx+64*p)=UD (ins Dn p) nx N:=by
 funext i
 apply propext
 unfold fY UD
 constructor
 · rintro((h|⟨q,h1,h2,h3⟩)|h)
   · exact .inl h
   · exact .inr ⟨q,h1,by simp[ins,h2],h3⟩
   · exact .inr ⟨p,hp,Tg _ _,h⟩
 · rintro(h|⟨q,h1,h2,h3⟩)
   · exact .inl (.inl h)
   · by_cases hq:q=p
     · subst hq
       exact .inr h3
     · rw[A7 hq] at h2
       exact .inl (.inr ⟨q,h1,h2,h3⟩)
structure Dr(l:List Oper)(rs:List (RS D))(σ:S D)(e9:Gh D)(w0:World)(Dn:Nat→Bool)(γ:Gh D)(w:World)(L:List (Nat×Value)):Prop where
 sr:SR (UD Dn σ.nx l.length) γ w (acc (gA l rs) σ.sl Dn l.length) L
 ob:OB (UD Dn σ.nx l.length) γ w (acc (gB rs) σ.ob Dn l.length)
 fr:Frame e9 w0 γ w
 cl:∀q o,Dn q=true→l[q]? =some o→∀e∈o.after.toList,Region.binds .any e=true→Dn e.on=true
 bR:2000≤σ.nx
theorem SR.eqv{U:Nat→Prop}{γ:Gh D}{w:World}{sl wQ:List (Nat×AV D)}{L:List (Nat×Value)}(h:SR U γ w sl L)(he:∀t,au wQ t=au sl t):SR U γ w wQ L:=fun t a ha=>h t a (by rw[←he];exact ha)
theorem OB.eqv{U:Nat→Prop}{γ:Gh D}{w:World}{ob bG:List (Nat×Option (AO D))}(h:OB U γ w ob)(he:∀t,au bG t=au ob t):OB U γ w bG:=
 ⟨fun i x hx=>h.ob i x (by unfold cw at hx⊢;rw[←he];exact hx),h.cl,h.ro⟩
theorem bB.of{wr:List Nat}{σ aI:S D}(h1:∀t,t∉wr→au aI.sl t=au σ.sl t)(h2:aI.lk=σ.lk)(h3:∀i∈σ.lk,au aI.ob i=au σ.ob i)(h4:σ.nx≤aI.nx):bB wr σ aI:=⟨h1,h2,h3,h4⟩
theorem ZG{ops:List Oper}{a b:Oper}{d:Nat}(h:apart ops a b=true)(hd:a.dst=some d):d∉tmpsOf ops b∧b.dst≠some d:=by
 unfold apart at h
 rw[hd] at h
 simp only[aqL,arC] at h
 refine⟨kz h.1,fun hb=> ?_⟩
 rw[hb] at h
 simp at h
theorem apc{ops:List Oper}{a b:Oper}{d:Nat}(h:apart ops a b=true)(hd:b.dst=some d):d∉tmpsOf ops a:=by
 unfold apart at h
 rw[hd] at h
 split at h
 · simp only[arC] at h
   exact kz h
 · simp only[aqL,arC] at h
   exact kz h.2.2
theorem acp{ops:List Oper}{o:Oper}{t:Nat}(h:Operand.tmp t∈o.op.operands.toList):t∈tmpsOf ops o:=by
 unfold tmpsOf
 exact aqP.2 (.inl (List.mem_filterMap.2 ⟨.tmp t,h,rfl⟩))
theorem acq{ops:List Oper}{o og:Oper}{j d:Nat}{b:Bool}(h:o.guard=some (j,b))(ho:ops[j]? =some og)(hd:og.dst=some d):d∈tmpsOf ops o:=by
 unfold tmpsOf
 refine aqP.2 (.inr ?_)
 simp[h,ho,hd]
section
variable (hP:dh P T) (hR:bQ T) (cE:∀c∈Φ,ff P T c)
include hP hR cE
theorem Dr.step [Rd]{l:List Oper}{rs:List (RS D)}{σ:S D}{e9 γ:Gh D}{w0 w:World}{Dn:Nat→Bool}{L:List (Nat×Value)}{Qx:Exit→Act→World→Prop}(h:Dr l rs σ e9 w0 Dn γ w L)(hT:Tr T Φ l l rs σ)(hs:wC l (gN l []) 0 l []=true)(hl:uz (gN l []) (uA rs 0 [])=true)
  {p:Nat} {o:Oper} {x:RS D} (hp:l[p]? =some o) (hx:rs[p]? =some x) (hD:Dn p=false) (hr:∀e∈o.after.toList,Region.binds .any e=true→Dn e.on=true):
  match x with
  | .run e l'=>(∀a,Fr n L a→Region.wanted o (yielded l.toArray a.tmps)=true)∧OW P Qx L o w (fun v w'=>∃γ',Dr l rs σ e9 w0 (ins Dn p) γ' w' (mI o.dst v L))
  | .skip=>(∀a,Fr n L a→Region.wanted o (yielded l.toArray a.tmps)=false)∧Dr l rs σ e9 w0 (ins Dn p) γ w (mI o.dst undef L):=by
 have lT:p<l.length:=(List.getElem?_eq_some_iff.1 hp).1
 obtain⟨s1,s2⟩:=Jr hs
 obtain⟨_,_,g3⟩:=Lr hl
 simp only[arD] at s1 s2 g3
 have down:∀q,Dn q=true→∀i,bit ((gN l []).getD q 0) i=true→Dn i=true:=by
  intro q
  induction q using Nat.strongRecOn with
  |_ q ih=>
   intro hq i hi
   by_cases Bo:q<l.length
   · obtain⟨e,k1,k2,k3⟩:=ZJ (arx Bo) hi
     have oH:=h.cl q _ hq (arx Bo) e k1 k2
     rcases k3 with rfl|k3
     · exact oH
     · exact ih e.on ((s1 q _ (arx Bo)).2 e k1 k2) oH i k3
   · exfalso
     have hlen:(gN l []).length≤q:=by
      have:∀{l:List Oper} {acc:List Nat},(gN l acc).length=acc.length+l.length:=by
       intro l
       induction l with
       |nil=>intro acc;simp[gN]
       |cons o r ih=>intro acc;simp only[gN];rw[ih];simp;omega
      rw[this]
      simp
      omega
     rw[arL,List.getElem?_eq_none hlen] at hi
     simp[bit] at hi
 have QP:∀i,bit ((gN l []).getD p 0) i=true→Dn i=true:=fun i hi=>by
  obtain⟨e,k1,k2,k3⟩:=ZJ hp hi
  rcases k3 with rfl|k3
  · exact hr e k1 k2
  · exact down e.on (hr e k1 k2) i k3
 have FD:∀q,Dn q=true→¬bit ((gN l []).getD q 0) p=true:=fun q hq hb=>by
  rw[down q hq p hb] at hD
  cases hD
 have bg:∀q,Dn q=true→q≠p:=fun q hq e=>by subst e;rw[hq] at hD;cases hD
 have FT:∀t∈tmpsOf l o,au (acc (gA l rs) σ.sl Dn l.length) t=au (acc (gA l rs) σ.sl (fun _=>true) p) t:=by
  intro t ht
  rw[ZO (Nat.le_of_lt lT)]
  refine zd fun q hq hm=> ?_
  obtain⟨oq,FO,F4⟩:=Gq hm
  rcases Nat.lt_trichotomy q p with lh|rfl|lh
  · have:aqZ q p=true:=ash lh
    rw[this]
    rcases s2 q p oq o lh FO hp with hb|hb
    · exact QP q hb
    · exact((ZG hb F4).1 ht).elim
  · rw[hD]
    cases hb:aqZ q q with
    |true=>have:=aqT hb;omega
    |false=>rfl
  · have:aqZ q p=false:=by
     cases hb:aqZ q p with
     |true=>have:=aqT hb;omega
     |false=>rfl
    rw[this]
    cases No:Dn q with
    |false=>rfl
    |true=>
     rcases s2 p q o oq lh hp FO with hb|hb
     · exact(FD q No hb).elim
     · exact(apc hb F4 ht).elim
 have Ul:∀t,au (acc (gA l rs) σ.sl (ins Dn p) l.length) t=au (gS o x++acc (gA l rs) σ.sl Dn l.length) t:=by
  rw[←ajP hp hx]
  refine ZQ lT hD fun t ht q h1 h2 h3 hm=> ?_
  obtain⟨oq,FO,F4⟩:=Gq hm
  obtain⟨o',lU,qX⟩:=Gq ht
  rw[hp] at lU
  cases lU
  rcases s2 p q o oq h1 hp FO with hb|hb
  · exact FD q h3 hb
  · exact(ZG hb qX).2 F4
 have Um:∀t,au (acc (gB rs) σ.ob (ins Dn p) l.length) t=au (gO x++acc (gB rs) σ.ob Dn l.length) t:=by
  rw[←ajO hx]
  refine ZQ lT hD fun t ht q h1 h2 h3 hm=> ?_
  obtain⟨e',l2,FK,eQ⟩:=Gp hm
  obtain⟨e1,l1,T2,uL⟩:=Gp ht
  rcases g3 p q _ _ _ _ h1 T2 FK with hb|hb
  · exact FD q h3 hb
  · simp only[xv,aqL] at hb
    exact p_ hb.2 eQ uL
 have cf:∀q o',ins Dn p q=true→l[q]? =some o'→∀e∈o'.after.toList,Region.binds .any e=true→ins Dn p e.on=true:=by
  intro q o' hq lU e he hb
  have:Dn e.on=true:=by
   by_cases lh:q=p
   · subst lh
     rw[hp] at lU
     cases lU
     exact hr e he hb
   · rw[A7 lh] at hq
     exact h.cl q o' hq lU e he hb
  simp[ins,this]
 have UX:=Po hT hp hx
 have Uq:∀(j d:Nat) (b:Bool) (og:Oper) (av:AV D),o.guard=some (j,b)→l[j]? =some og→og.dst=some d→au (acc (gA l rs) σ.sl (fun _=>true) p) d=some av→∃v,Dp.look L d=some v∧eM (UD Dn σ.nx l.length) γ w av v:=by
  intro j d b og av hg ho hd hl
  exact h.sr d av (by rw[FT d (acq hg ho hd)];exact hl)
 cases x with
 |run e l'=>
  obtain⟨hg,as,he,hq,xX⟩:=UX
  dsimp only at hg he hq xX
  refine⟨fun a ha=> ?_, ?_⟩
  · cases pS:o.guard with
    |none=>simp[Region.wanted,pS]
    |some jb=>
     obtain⟨j,b⟩:=jb
     obtain⟨og,d,K,g,h1,h2,h3⟩:=hg j b pS
     obtain⟨v,ss,iR⟩:=Uq j d b og _ pS h1 h2 h3
     have iR:v= .bool b:=iR.1
     subst iR
     simp[Region.wanted,pS,I5 ha h1 h2 ss]
  · have iI:dk (acc (gA l rs) σ.sl Dn l.length) o.op.operands.toList=some as:=by
     rw[NJ fun t ht=>FT t (acp ht)]
     exact he
    have oG:Q.R (acc (gB rs) σ.ob Dn l.length) (uo T Φ (σ.nx+64*p) o.op as) l' e:=by
     refine Q.apr (fun i hi=> ?_) hq
     rw[ZO (Nat.le_of_lt lT)]
     refine zd fun q hq hm=> ?_
     obtain⟨e',l2,FK,eQ⟩:=Gp hm
     rcases Nat.lt_trichotomy q p with lh|rfl|lh
     · have:aqZ q p=true:=ash lh
       rw[this]
       rcases g3 q p _ _ _ _ lh FK hx with hb|hb
       · exact(QP q hb).symm
       · simp only[xv,aqL] at hb
         exact(p_ hb.1.2 eQ (by simpa using hi)).elim
     · rw[hD]
       cases hb:aqZ q q with
       |true=>have:=aqT hb;omega
       |false=>rfl
     · have:aqZ q p=false:=by
        cases hb:aqZ q p with
        |true=>have:=aqT hb;omega
        |false=>rfl
       rw[this]
       cases No:Dn q with
       |false=>rfl
       |true=>
        rcases g3 p q _ _ _ _ lh hx FK with hb|hb
        · exact(FD q No hb).elim
        · simp only[xv,aqL] at hb
          exact(p_ hb.1.1 eQ (by simpa using hi)).elim
    have hcx:Cx (UD Dn σ.nx l.length) (σ.nx+64*p) γ w (acc (gA l rs) σ.sl Dn l.length) L (acc (gB rs) σ.ob Dn l.length):=by
     refine⟨h.sr,h.ob,fun i h1 h2 h3=> ?_,by have:=h.bR;omega⟩
     rcases h3 with h3|⟨q,k1,k2,k3,k4⟩
     · omega
     · have:=bg q k2
       omega
    have:=Sh (Qx:=Qx) (d:=o.dst) (ty:=o.type) (pos:=o.pos) (af:=o.after) (gd:=o.guard) hP hR cE hcx iI oG
    refine OW.mono this ?_
    rintro v w' ⟨γ',kF⟩
    have eb:=kF.kp
    have vi:=kF.dst
    have bb:=kF.ob
    rw[ZR lT] at eb vi bb
    refine⟨γ',⟨SR.eqv ?_ Ul,OB.eqv bb fun t=>by rw[Um];rfl,h.fr.trans kF.fr,cf,h.bR⟩⟩
    show SR _ γ' w' (dl o.dst e.dst++_) _
    cases hd:o.dst with
    |none=>exact h.sr.cj eb
    |some t=>exact(h.sr.cj eb).cons vi
 |skip=>
  obtain⟨j,b,og,d,av,hg,h1,h2,h3,h4⟩:=UX
  obtain⟨v,ss,iR⟩:=Uq j d b og _ hg h1 h2 h3
  refine⟨fun a ha=> ?_, ?_⟩
  · rcases h4 with⟨K,g,rfl⟩|rfl
    · have iR:v= .bool (!b):=iR.1
      subst iR
      cases b<;>simp[Region.wanted,hg,I5 ha h1 h2 ss]
    · have iR:v=undef:=iR
      subst iR
      simp[Region.wanted,hg,Qv ha h1 h2 ss]
  · have eb:fA (UD Dn σ.nx l.length) (UD (ins Dn p) σ.nx l.length) γ w γ w:=⟨fun i hi=>by
     rw[←ZR lT]
     exact .inl hi,fun _ _=>rfl,fun _ _=>rfl,fun _ _ _=>⟨rfl,rfl⟩⟩
    refine⟨SR.eqv ?_ Ul,OB.eqv ⟨fun i x hx=> ?_,fun b hb=>eb.u _ (h.ob.cl b hb),fun x hx=>eb.u _ (h.ob.ro x hx)⟩ Um,h.fr,cf,h.bR⟩
    · show SR _ γ w (dl o.dst _++_) _
      cases hd:o.dst with
      |none=>exact h.sr.cj eb
      |some t=>exact(h.sr.cj eb).cons rfl
    · obtain⟨h1,h2,h3⟩:=h.ob.ob i x hx
      exact⟨h1,eb.u _ h2,h3.cj eb h2 fun _ _ _=>⟨rfl,rfl⟩⟩
end
theorem filter_lt{p q:Nat→Bool}(h:∀x,q x=true→p x=true){i:Nat}(hp:p i=true)(hq:q i=false):∀{l:List Nat},i∈l→(l.filter q).length<(l.filter p).length
 |[],hi=>by cases hi
 |x::l,hi=>by
  have hle:(l.filter q).length≤(l.filter p).length:=by
   clear hi
   induction l with
   |nil=>simp
   |cons y l ih=>
    by_cases hy:q y=true
    · rw[ari hy,ari (h y hy)]
      simpa using ih
    · rw[arA hy]
      by_cases er:p y=true
      · rw[ari er]
        simp
        omega
      · rw[arA er]
        exact ih
  by_cases hx:x=i
  · subst hx
    rw[arA (by simp[hq]),ari hp]
    simp
    omega
  · have ke:i∈l:=by
     rcases aqR.1 hi with e|hh
     · exact(hx e.symm).elim
     · exact hh
    have ih:=filter_lt h hp hq ke
    by_cases hy:q x=true
    · rw[ari hy,ari (h x hy)]
      simpa using ih
    · rw[arA hy]
      by_cases er:p x=true
      · rw[ari er]
        simp
        omega
      · rw[arA er]
        exact ih
section
variable (hP:dh P T) (hR:bQ T) (cE:∀c∈Φ,ff P T c) (hm:P.follows .mixedOrders=true)
include hP hR cE hm
theorem apd [I:Rd]{id:Nat}{ops:List Oper}{ρ:Type}{σ:S D}{k:S D→Option ρ}{r:ρ}{γ:Gh D}{w:World}{L:List (Nat×Value)}{Qx:Exit→Act→World→Prop}(hs:wC ops (gN ops []) 0 ops []=true)
  (h:im T Φ ops ops 0 σ [] (fun aI lg=>match uz (gN ops []) lg with
    |true=>k aI
    |false=>none)=some r) (hd:∀t∈dstsOf ops,I.ft n t=true) (hk:Kn σ γ w L)
  (hc:∀aI γ' w' L',Kn aI γ' w' L'→Frame γ w γ' w'→bB (dstsOf ops) σ aI→k aI=some r→NK n (Qx .normal) L' w'):CW P n (.region id ops.toArray true) Qx L w:=by
 obtain⟨rs,kP,hT,gZ,iH⟩:=trace h (o_.mk (fun _=>rfl) rfl rfl rfl)
 split at iH
 case h_2=>cases iH
 rename_i hl
 have hlen:=ZS hT
 rw[RC hT] at gZ
 intro a ha
 refine wpIn_region_any hm ?_
 have fin:∀(Dn:Nat→Bool) (γ':Gh D) (w':World) (L':List (Nat×Value)) (a':Act),Dr ops rs σ γ w Dn γ' w' L'→Fr n L' a'→(∀i,i<ops.length→Dn i=true)→Qx .normal a' w':=by
  intro Dn γ' w' L' a' sJ cG lr
  have hU:UD Dn σ.nx ops.length=fun i=>i<kP.nx:=by
   rw[←gZ.nx]
   funext i
   apply propext
   show UD Dn σ.nx ops.length i↔i<σ.nx+64*ops.length
   unfold UD
   constructor
   · rintro(h|⟨q,h1,h2,h3,h4⟩)<;>omega
   · intro h
     by_cases h0:i<σ.nx
     · exact .inl h0
     · exact .inr ⟨(i-σ.nx)/64,by omega,lr _ (by omega),by omega,by omega⟩
  have iS:=sJ.sr
  have bb:=sJ.ob
  rw[hU] at iS bb
  rw[Pl (D':=fun _=>true) fun q hq=>lr q hq] at iS bb
  have l8:=sJ.bR
  have sC:=gZ.nx
  dsimp only at sC
  refine hc kP γ' w' L' ⟨iS.eqv fun t=>(gZ.sl t).symm, ?_,by omega⟩ sJ.fr (bB.of (fun t ht=> ?_) gZ.lk.symm (fun i hi=> ?_) (by omega)) iH a' cG
  · rw[←gZ.ob]
    exact bb
  · rw[←gZ.sl]
    show au (acc (gA ops rs) σ.sl (fun _=>true) ops.length) t=_
    have:au (acc (gA ops rs) σ.sl (fun _=>true) ops.length) t=au (acc (gA ops rs) σ.sl (fun _=>false) ops.length) t:=zd fun q hq hm=>by
     obtain⟨o,ho,qX⟩:=Gq hm
     exact(ht (List.mem_filterMap.2 ⟨o,art ho,qX⟩)).elim
    rw[this]
    have:=CV (g:=gA ops rs) (l0:=σ.sl) (D:=fun _=>false) (n:=0) (k:=ops.length) fun _ _=>rfl
    rw[arD] at this
    rw[this]
    rfl
  · rw[←gZ.ob]
    show au (acc (gB rs) σ.ob (fun _=>true) ops.length) i=_
    have:au (acc (gB rs) σ.ob (fun _=>true) ops.length) i=au (acc (gB rs) σ.ob (fun _=>false) ops.length) i:=zd fun q hq hm=>by
     obtain⟨e,l,hx,hw⟩:=Gp hm
     obtain⟨_,as,_,_,xX⟩:=Po hT (arx hq) hx
     unfold yj at xX
     simp only[aqL] at xX
     unfold bT.wr at hw
     rcases aqP.1 hw with hw|hw
     · exact(p_ xX.1 hw hi).elim
     · exact(p_ xX.2 hw hi).elim
    rw[this]
    have:=CV (g:=gB rs) (l0:=σ.ob) (D:=fun _=>false) (n:=0) (k:=ops.length) fun _ _=>rfl
    rw[arD] at this
    rw[this]
    rfl
 have akS:∀q (hq:q<ops.length),∀e∈(ops[q]).after.toList,Region.binds .any e=true→e.on<q:=fun q hq e he hb=>by
  have:=(Jr hs).1 q _ (arx hq)
  simp only[arD] at this
  exact this.2 e he hb
 have TX:∀(bI:Array Bool),Region.ready .any ops.toArray bI=[]→bI.size=ops.length→∀i,i<ops.length→bI.getD i false=true:=by
  intro bI hr dy i
  induction i using Nat.strongRecOn with
  |_ i ih=>
   intro hi
   cases nH:bI.getD i false with
   |true=>rfl
   |false=>
    exfalso
    have fk:i∈Region.ready .any ops.toArray bI:=by
     have hb:i<bI.size:=by omega
     refine mem_ready.2 ⟨?_,ops[i],by simp[hi],fun e he hbn=> ?_⟩
     · simp[arJ,hb] at nH⊢
       exact nH
     · have h3:=akS i hi e (by simpa using he) hbn
       exact ih e.on h3 (by omega)
    rw[hr] at fk
    cases fk
 have main:∀(gH:Nat) (bI:Array Bool) (a:Act) (w':World) (γ':Gh D) (L':List (Nat×Value)),bI.size=ops.length→((aqN ops.length).filter fun i=> !bI.getD i true).length≤gH→
   Dr ops rs σ γ w (fun j=>bI.getD j false) γ' w' L'→Fr n L' a→wpAnyIn I.F 0 P .any ops.toArray Qx gH bI a w':=by
  intro gH
  induction gH with
  |zero=>
   intro bI a w' γ' L' dy aiE hJ hf
   have hr:Region.ready .any ops.toArray bI=[]:=by
    refine List.eq_nil_iff_forall_not_mem.2 fun i hi=> ?_
    obtain⟨h1,o,h2,_⟩:=mem_ready.1 hi
    have u7:i<ops.length:=by simpa using(aq5.1 h2).1
    have fk:i∈(aqN ops.length).filter fun i=> !bI.getD i true:=arf.2 ⟨aqV.2 u7,by simp only[h1];rfl⟩
    have:=List.length_pos_of_mem fk
    omega
   exact⟨hr,fin _ _ _ _ _ hJ hf (TX bI hr dy)⟩
  |succ gH ih=>
   intro bI a w' γ' L' dy aiE hJ hf
   refine⟨fun hr=>fin _ _ _ _ _ hJ hf (TX bI hr dy),fun i hi=> ?_⟩
   obtain⟨nH,o,u7,haf⟩:=mem_ready.1 hi
   have ke:i<ops.length:=by simpa using(aq5.1 u7).1
   have Uk:ops[i]? =some o:=by simpa using u7
   have kh:i<bI.size:=by omega
   have BA:bI.getD i false=false:=by
    simp[arJ,kh] at nH⊢
    exact nH
   have LU:i<rs.length:=by omega
   have next:∀{aX:Gh D} {w2:World} {L2:List (Nat×Value)} {a2:Act},Dr ops rs σ γ w (ins (fun j=>bI.getD j false) i) aX w2 L2→Fr n L2 a2→wpAnyIn I.F 0 P .any ops.toArray Qx gH (bI.setIfInBounds i true) a2 w2:=by
    intro aX w2 L2 a2 sJ cG
    refine ih (bI.setIfInBounds i true) a2 w2 aX L2 (by simp[dy]) ?_ ?_ cG
    · have aK:=filter_lt (p:=fun i=> !bI.getD i true) (q:=fun j=> !(bI.setIfInBounds i true).getD j true) (i:=i) (fun x hx=>by
       by_cases Be:x=i
       · subst Be
         simp[arJ,kh] at hx
       · rw[getD_set_ne true (Ne.symm Be)] at hx
         exact hx) (by simp only[nH];rfl) (by simp[arJ,kh]) (aqV.2 ke)
      omega
    · have e:(fun j=>(bI.setIfInBounds i true).getD j false)=ins (fun j=>bI.getD j false) i:=by
       funext j
       by_cases ed:j=i
       · subst ed
         simp[arJ,kh,ins]
       · rw[A7 ed]
         exact getD_set_ne false (Ne.symm ed)
      rw[e]
      exact sJ
   have qX:∀t,o.dst=some t→I.ft n t=true:=fun t ht=>hd t (List.mem_filterMap.2 ⟨o,art Uk,ht⟩)
   obtain⟨x,hx⟩:∃x,rs[i]? =some x:=⟨_,arx LU⟩
   have hstep:=Dr.step (n:=n) (Qx:=Qx) hP hR cE hJ hT hs hl Uk hx BA (fun e he hb=>haf e (by simpa using he) hb)
   unfold wpOpIn
   rw[u7]
   simp only
   cases x with
   |run e l'=>
    rw[if_pos (hstep.1 a hf)]
    refine hstep.2 a _ (fun x v hx=>hf.ev hx) ?_
    rintro v w2 ⟨aX,sJ⟩
    exact next sJ (Fr.mI hf qX v)
   |skip=>
    rw[if_neg (by rw[hstep.1 a hf];simp)]
    exact⟨fun _ _=>trivial,next hstep.2 (Fr.mI hf qX undef)⟩
 have fG:∀j,(Array.replicate ops.toArray.size false).getD j false=false:=by
  intro j
  simp[arJ]
 have hD0:(fun j=>(Array.replicate ops.toArray.size false).getD j false)=fun _=>false:=funext fG
 refine main _ _ a _ γ L (by simp) ?_ ?_ ha
 · have:=List.length_filter_le (fun i=> !(Array.replicate ops.toArray.size false).getD i true) (aqN ops.length)
   simpa using this
 · rw[hD0]
   have hU:UD (fun _=>false) σ.nx ops.length=fun i=>i<σ.nx:=by
    funext i
    apply propext
    unfold UD
    constructor
    · rintro(h|⟨q,h1,h2,h3⟩)
      · exact h
      · cases h2
    · exact .inl
   have hz:∀{α:Type} {g:Nat→List (Nat×α)} {l0:List (Nat×α)},acc g l0 (fun _=>false) ops.length=l0:=by
    intro α g l0
    have:=CV (g:=g) (l0:=l0) (D:=fun _=>false) (n:=0) (k:=ops.length) fun _ _=>rfl
    rw[arD] at this
    exact this
   have eb:fA (fun i=>i<σ.nx) (fun i=>i<σ.nx) γ w γ {w with drawn:=w.drawn+1}:=⟨fun _ h=>h,fun _ _=>rfl,fun _ _=>rfl,fun _ _ _=>⟨rfl,rfl⟩⟩
   refine⟨?_, ?_,⟨⟨rfl,rfl,rfl,aqM _,fun _ _ _=>⟨rfl,rfl⟩,fun b hb _=>⟨hb,rfl⟩⟩,fun _ _=>rfl⟩,fun q o hq=>(by cases hq),hk.bR⟩
   · rw[hU,hz]
     exact hk.sr.cj eb
   · rw[hU,hz]
     exact⟨fun i x hx=>by
      obtain⟨h1,h2,h3⟩:=hk.ob.ob i x hx
      exact⟨h1,h2,h3.cj eb h2 fun _ _ _=>⟨rfl,rfl⟩⟩,hk.ob.cl,hk.ob.ro⟩
end
end
end Rx
end Go.Proofs.YtncbfgppjfcijaaGreat
namespace Go.Proofs.YtncbfgppjfcijaaGreat
open Go Go.RowKit Dp
namespace Rx
section
variable {D:Nat→Type} [∀n,ab (D n)]
variable {P:Program} {T:aV D} {Φ:List (ar D)} {n:Nat}
def toX:Out→Exit
 | .normal=> .normal
 | .exit id=> .exit id
 | .goto l=> .goto l
 | .ret=> .ret
def xD(l:Nat)(J:Act→World→Prop)(Q:Exit→Act→World→Prop):Exit→Act→World→Prop
 | .goto l',a,w=>if l'=l then J a w else Q (.goto l') a w
 |e,a,w=>Q e a w
def Lb [I:Rd](P:Program)(c:Code)(Qx:Exit→Act→World→Prop):Prop:=∀l b,qy c=some (l,b)→∃Jm:Nat→Act→World→Prop,
 (∀m a w,b.wpIn I.F 0 P (xD l (Jm m) Qx) a w→Jm (m+1) a w)∧∀m a w,Jm m a w→Qx (.goto l) a w
theorem Lb.none [Rd]{c:Code}{Qx:Exit→Act→World→Prop}(h:jB c=true):Lb P c Qx:=by
 intro l b hs
 unfold jB at h
 rw[hs] at h
 cases h
theorem LG{c:Code}{l:Nat}(h:sn c=some l):c= .label l:=by
 unfold sn at h
 split at h
 · cases h;rfl
 · cases h
theorem ae'(l:Nat):∀(c:Code),jB c=true→gE c=true→findLabel c l=none:=by
 intro c
 induction c with
 |seq x y Tv LM=>
  intro h1 h2
  unfold jB at h1
  unfold qy at h1
  unfold gE at h2
  cases hl:sn x with
  |some q=>rw[hl] at h1;cases h1
  |none=>
   rw[hl] at h1 h2
   simp only[aqL] at h2
   unfold findLabel
   rw[Tv h2.1.1 h2.1.2]
   exact LM h1 h2.2
 |label q=>intro h1 _;cases h1
 |_=>intros;rfl
theorem ac7 [I:Rd]:∀(c:Code) {l:Nat} {b:Code},qy c=some (l,b)→gE c=true→∃rest,findLabel c l=some rest∧∀(Q:Exit→Act→World→Prop) a w,b.wpIn I.F 0 P Q a w→rest.wpIn I.F 0 P Q a w:=by
 intro c
 induction c with
 |seq x y Tv LM=>
  intro l b h1 h2
  unfold qy at h1
  unfold gE at h2
  cases hl:sn x with
  |some q=>
   rw[hl] at h1
   cases h1
   obtain rfl:=LG hl
   refine⟨.seq .skip y,by simp[findLabel],fun Q a w h=>wpIn_seq (wpIn_skip h)⟩
  |none=>
   rw[hl] at h1 h2
   simp only[aqL] at h2
   obtain⟨rest,h3,h4⟩:=LM h1 h2.2
   refine⟨rest, ?_,h4⟩
   unfold findLabel
   rw[ae' l x h2.1.1 h2.1.2]
   exact h3
 |label q=>
  intro l b h1 _
  cases h1
  exact⟨.skip,by simp[findLabel],fun Q a w h=>h⟩
 |_=>intro l b h1;cases h1
def oB [I:Rd](P:Program)(rest:Code)(l:Nat)(Q:Exit→Act→World→Prop):Nat→Act→World→Prop
 |0=>fun _ _=>False
 |m+1=>fun a w=>rest.wpIn I.F 0 P (Exit.jump l (oB P rest l Q m) Q) a w
theorem SM{σ ρ:Type}(step:σ→Option (σ⊕ρ))(n:Nat)(s:σ):k6 step (n+1) s=(match step s with
 |some (.inl s')=>k6 step n s'
 |some (.inr r)=>some r
 |none=>none):=rfl
theorem acJ(l:Nat)(o:Out):je l (je l o)=o:=by
 cases o with
 |normal=>simp[je]
 |exit id=>rfl
 |ret=>rfl
 |goto q=>
  cases hb:aqH q l with
  |true=>
   have:=aqK hb
   subst this
   simp[je]
  |false=>simp[je,hb]
theorem Ft{p:Nat→Prop}(h:∃m,p m):∃m,p m∧∀k,k<m→¬p k:=by
 apply Classical.byContradiction
 intro hn
 have key:∀m,¬p m:=by
  intro m
  induction m using Nat.strongRecOn with
  |_ m ih=>exact fun hp=>hn ⟨m,hp,fun k hk=>ih k hk⟩
 obtain⟨m,hm⟩:=h
 exact key m hm
open Classical in
def xw(p:Nat→Prop):Nat:=if h:∃m,p m then(Ft h).choose else 0
theorem af0{p:Nat→Prop}(h:∃m,p m):p (xw p):=by
 unfold xw
 rw[dif_pos h]
 exact(Ft h).choose_spec.1
theorem af1{p:Nat→Prop}{m:Nat}(h:p m):xw p≤m:=by
 have hx:∃m,p m:=⟨m,h⟩
 unfold xw
 rw[dif_pos hx]
 rcases Nat.lt_or_ge m (Ft hx).choose with aK|nJ
 · exact((Ft hx).choose_spec.2 m aK h).elim
 · exact nJ
theorem Rd.wide{I:Rd}(h:I.ro=none):I.F=Fence.wide:=by unfold Rd.F;rw[h];rfl
theorem ady [I:Rd](hI:I.ro=none){c rest:Code}{l:Nat}{Q:Exit→Act→World→Prop}{a:Act}{w:World}(hf:findLabel c l=some rest)(first:c.wpIn I.F 0 P (Exit.jump l (fun a w=>∃m,oB P rest l Q m a w) Q) a w):(Code.scope c).wpIn I.F 0 P Q a w:=by
 rw[Rd.wide hI] at first⊢
 rw[wpIn_wide] at first⊢
 refine wp_scope_jumps l (fun a w=>∃m,oB P rest l Q m a w) (fun a w=>xw fun m=>oB P rest l Q m a w) hf first ?_
 intro a w h
 have h1:=af0 (p:=fun m=>oB P rest l Q m a w) h
 generalize xw (fun m=>oB P rest l Q m a w)=m at*
 cases m with
 |zero=>exact h1.elim
 |succ m=>
  have h1:rest.wpIn I.F 0 P (Exit.jump l (oB P rest l Q m) Q) a w:=h1
  rw[Rd.wide hI,wpIn_wide] at h1
  refine Code.wp_mono (fun e a' w' he=> ?_) h1
  cases e with
  |goto l'=>exact⟨he.1,⟨m,he.2⟩,Nat.lt_succ_of_le (af1 (p:=fun m=>oB P rest l Q m a' w') he.2)⟩
  |_=>exact he
theorem adx [I:Rd](hI:I.ro=none){c:Code}{Q:Exit→Act→World→Prop}{a:Act}{w:World}(h:c.wpIn I.F 0 P (Exit.noGoto Q) a w):(Code.scope c).wpIn I.F 0 P Q a w:=by
 rw[Rd.wide hI] at h⊢
 rw[wpIn_wide] at h⊢
 exact wp_scope_straight h
theorem SN{σ ρ:Type}{step:σ→Option (σ⊕ρ)}:∀{n:Nat} {s:σ} {r:ρ},k6 step n s=some r→uw step s=some r
 |0,s,r,h=>by cases h
 |n+1,s,r,h=>by
  have h:(match step s with
   |some (.inl s')=>k6 step n s'
   |some (.inr r)=>some r
   |none=>none)=some r:=h
  rw[afI]
  cases hs:step s with
  |none=>rw[hs] at h;cases h
  |some x=>
   rw[hs] at h
   cases x with
   |inl s'=>exact SN h
   |inr r'=>exact h
theorem afJ{σ ρ:Type}{step:σ→Option (σ⊕ρ)}{s:σ}{r:ρ}(h:ay step s=some r):uw step s=some r:=SN h
section
variable (hP:dh P T) (hR:bQ T) (cE:∀c∈Φ,ff P T c) (hm:P.follows .mixedOrders=true)
include hP hR cE hm
theorem adP [I:Rd]{id:Nat}{ops:Array Oper}{draw:Bool}{sg:Sg}{ρ:Type}{σ:S D}{k:S D→Option ρ}{r:ρ}{γ:Gh D}{w:World}{L:List (Nat×Value)}{Qx:Exit→Act→World→Prop}(h:N1 T Φ ops.toList draw sg σ k=some r)(hd:∀t∈dstsOf ops.toList,I.ft n t=true)(hk:Kn σ γ w L)
  (hc:∀aI γ' w' L',Kn aI γ' w' L'→Frame γ w γ' w'→bB (dstsOf ops.toList) σ aI→k aI=some r→NK n (Qx .normal) L' w'):CW P n (.region id ops draw) Qx L w:=by
 unfold N1 at h
 have e:ops=ops.toList.toArray:=by simp
 cases draw with
 |true=>
  dsimp only at h
  split at h
  case h_2=>cases h
  rename_i hs
  rw[e]
  exact apd hP hR cE hm hs h hd hk hc
 |false=>
  dsimp only at h
  rw[e]
  exact CW.region (ak9 hP hR cE sg h hd hk hc)
theorem afH [Rd]{c:Code}{wr:List Nat}{j:J}{pr:Bool}{E:List (Out×J)}{ρ:Type}{body:∀{eo:Type},S D→(Out→S D→Option eo)→Option eo}{σ:S D}{k:Out→S D→Option ρ}{r:ρ}{γ:Gh D}{w:World}{L:List (Nat×Value)}{Qx:Exit→Act→World→Prop}
  (h:sd T wr j pr E body σ k=some r) (hk:Kn σ γ w L)
  (vm:∀{eo:Type} {aI:S D} {k':Out→S D→Option eo} {r':eo} {γ':Gh D} {w':World} {L':List (Nat×Value)} {Q':Exit→Act→World→Prop},body aI k'=some r'→Kn aI γ' w' L'→(∀o σ1 aF w1 L1,Kn σ1 aF w1 L1→Frame γ' w' aF w1→bB wr aI σ1→k' o σ1=some r'→NK n (Q' (toX o)) L1 w1)→CW P n c Q' L' w')
  (hc:∀o σ1 aF w1 L1,Kn σ1 aF w1 L1→Frame γ w aF w1→bB wr σ σ1→k o σ1=some r→NK n (Qx (toX o)) L1 w1):CW P n (.loop c) Qx L w:=by
 unfold sd at h
 obtain⟨h0,j9,h⟩:=p9 h
 obtain⟨x,hx,hf⟩:=tx h
 generalize Bt:j.mv++pC E=mv at*
 have hs:∀i∈σ.lk,i∈(kept σ mv).map aqO++σ.lk:=fun i hi=>aqP.2 (.inr hi)
 have head:∀{h':HH D j.bZ} {σ1:S D} {aF:Gh D} {w1:World} {L1:List (Nat×Value)},Kn σ1 aF w1 L1→bB wr {σ with lk:=(kept σ mv).map aqO++σ.lk} σ1→wa T j σ1 h'→Frame γ w aF w1→∀{ci:S D},k9 T j wr mv σ h'=some ci→
   ∃γ',Kn ci γ' w1 L1∧Frame γ w γ' w1∧bB wr {σ with lk:=(kept σ mv).map aqO++σ.lk} {ci with lk:=(kept σ mv).map aqO++σ.lk}:=by
  intro h' σ1 aF w1 L1 cZ he hx cG ci hi
  obtain⟨aX,k1,k2,k3,_⟩:=uF hR rfl hk cZ he hx hi
  exact⟨aX,k1,cG.trans k2,k3⟩
 refine CW.loop _ (fun h' L' w'=>∀ci,k9 T j wr mv σ h'=some ci→∃γ',Kn ci γ' w' L'∧Frame γ w γ' w'∧bB wr {σ with lk:=(kept σ mv).map aqO++σ.lk} {ci with lk:=(kept σ mv).map aqO++σ.lk}) (afJ hx) ?_ ?_
 · intro ci hi
   exact head (hk.lk _) (bB.refl _ _) j9 (Frame.refl _ _) hi
 · intro K s L' w' hinv y hy hr1 FI
   dsimp only at hy
   split at hy
   case h_2=>cases hy
   rename_i ci j7
   obtain⟨γ',bH,vd,iI⟩:=hinv ci j7
   refine vm hy (bH.lk _) fun o σ1 aF w1 L1 cZ sG qW ho=> ?_
   have sI:=iI.trans qW
   have out:∀{z:Option (nY D pr ρ E)} {o:Out},o≠.normal→z=toE T pr E o σ1 (k o {σ1 with lk:=σ.lk})→(match z with|some x=>some (Sum.inr x)|none=>none)=some y→NK n (Exit.then K Qx (toX o)) L1 w1:=by
    intro z o oH hz sp
    subst hz
    split at sp
    case h_2=>cases sp
    rename_i x' cA
    cases sp
    have:=hr1 x' rfl
    subst this
    have fin:∀o σ1 aF w1 L1,o≠.normal→Kn σ1 aF w1 L1→Frame γ w aF w1→bB wr σ σ1→k o σ1=some r→NK n (Exit.then K Qx (toX o)) L1 w1:=by
     intro o σ1 aF w1 L1 oH k1 k2 k3 k4
     have:=hc o σ1 aF w1 L1 k1 k2 k3 k4
     cases o with
     |normal=>exact(oH rfl).elim
     |exit id=>exact this
     |goto l=>exact this
     |ret=>exact this
    rcases wv cA hf with⟨j',y,bc,h1,h2,h3⟩|h1
    · obtain⟨aX,k1,k2,k3,k4⟩:=uF hR rfl hk cZ sI h1 h2
      have e3:=k3.wo (σ:=σ) hs
      have e:({bc with lk:=σ.lk}:S D)=bc:=by rw[←k4]
      rw[show({({bc with lk:=(kept σ mv).map aqO++σ.lk}:S D) with lk:=σ.lk}:S D)={bc with lk:=σ.lk} from rfl,e] at e3
      exact fin o bc aX w1 L1 oH k1 ((vd.trans sG).trans k2) e3 h3
    · exact fin o _ aF w1 L1 oH (cZ.lk _) (vd.trans sG) (sI.wo hs) h1
   cases o with
   |normal=>
    obtain⟨h',cA,e⟩:=p9 ho
    cases e
    exact FI h' L1 w1 rfl fun aao cF=>head cZ sI cA (vd.trans sG) cF
   |exit id=>exact out (by simp) rfl ho
   |goto l=>exact out (by simp) rfl ho
   |ret=>exact out (by simp) rfl ho
theorem af7 [I:Rd]{b:Code}{l:Nat}{wr:List Nat}{j:J}{pr:Bool}{E:List (Out×J)}{ρ:Type}{body:∀{eo:Type},S D→(Out→S D→Option eo)→Option eo}{σ:S D}{k:Out→S D→Option ρ}{r:ρ}{γ:Gh D}{w:World}{L:List (Nat×Value)}{Qx:Exit→Act→World→Prop}
  {Jm:Nat→Act→World→Prop} (Nl:∀m a w,b.wpIn I.F 0 P (xD l (Jm m) Qx) a w→Jm (m+1) a w) (Nk:∀m a w,Jm m a w→Qx (.goto l) a w)
  (h:sd T wr j pr E body σ k=some r) (hk:Kn σ γ w L)
  (vm:∀{eo:Type} {aI:S D} {k':Out→S D→Option eo} {r':eo} {γ':Gh D} {w':World} {L':List (Nat×Value)} {Q':Exit→Act→World→Prop},body aI k'=some r'→Kn aI γ' w' L'→(∀o σ1 aF w1 L1,Kn σ1 aF w1 L1→Frame γ' w' aF w1→bB wr aI σ1→k' o σ1=some r'→NK n (Q' (toX (je l o))) L1 w1)→CW P n b Q' L' w')
  (hc:∀o σ1 aF w1 L1,Kn σ1 aF w1 L1→Frame γ w aF w1→bB wr σ σ1→k o σ1=some r→NK n (Qx (toX (je l o))) L1 w1):CW P n b Qx L w:=by
 unfold sd at h
 obtain⟨h0,j9,h⟩:=p9 h
 obtain⟨x,hx,hf⟩:=tx h
 generalize Bt:j.mv++pC E=mv at*
 have hs:∀i∈σ.lk,i∈(kept σ mv).map aqO++σ.lk:=fun i hi=>aqP.2 (.inr hi)
 have head:∀{h':HH D j.bZ} {σ1:S D} {aF:Gh D} {w1:World} {L1:List (Nat×Value)},Kn σ1 aF w1 L1→bB wr {σ with lk:=(kept σ mv).map aqO++σ.lk} σ1→wa T j σ1 h'→Frame γ w aF w1→∀{ci:S D},k9 T j wr mv σ h'=some ci→
   ∃γ',Kn ci γ' w1 L1∧Frame γ w γ' w1∧bB wr {σ with lk:=(kept σ mv).map aqO++σ.lk} {ci with lk:=(kept σ mv).map aqO++σ.lk}:=by
  intro h' σ1 aF w1 L1 cZ he hx cG ci hi
  obtain⟨aX,k1,k2,k3,_⟩:=uF hR rfl hk cZ he hx hi
  exact⟨aX,k1,cG.trans k2,k3⟩
 obtain⟨step,hstep,hx⟩:∃step:HH D j.bZ→Option (HH D j.bZ⊕nY D pr ρ E),(∀h y,step h=some y→∃ci,k9 T j wr mv σ h=some ci∧(body {ci with lk:=(kept σ mv).map aqO++σ.lk} fun o σ1=>match o with
   | .normal=>rb T j σ1 fun h'=>some (.inl h')
   |o=>match toE T pr E o σ1 (k o {σ1 with lk:=σ.lk}) with
    |some x=>some (.inr x)
    |none=>none)=some y)∧ay step h0=some x:=by
  refine⟨_,fun h y hy=> ?_,hx⟩
  dsimp only at hy
  split at hy
  case h_2=>cases hy
  rename_i ci j7
  exact⟨ci,j7,hy⟩
 have key:∀(N:Nat) (h':HH D j.bZ) (L':List (Nat×Value)) (w':World),(∀ci,k9 T j wr mv σ h'=some ci→∃γ',Kn ci γ' w' L'∧Frame γ w γ' w'∧bB wr {σ with lk:=(kept σ mv).map aqO++σ.lk} {ci with lk:=(kept σ mv).map aqO++σ.lk})→
   k6 step N h'=some x→∀a,Fr n L' a→b.wpIn I.F 0 P (xD l (Jm N) Qx) a w':=by
  intro N
  induction N with
  |zero=>intro h' L' w' _ hl;cases hl
  |succ N ih=>
   intro h' L' w' hinv hl
   rw[SM] at hl
   cases lS:step h' with
   |none=>rw[lS] at hl;cases hl
   |some y=>
   rw[lS] at hl
   obtain⟨ci,j7,hy⟩:=hstep _ _ lS
   obtain⟨γ',bH,vd,iI⟩:=hinv ci j7
   cases y with
   |inl s'=>
    refine vm hy (bH.lk _) fun o σ1 aF w1 L1 cZ sG qW ho=> ?_
    have sI:=iI.trans qW
    cases o with
    |normal=>
     obtain⟨h2,cA,e⟩:=p9 ho
     cases e
     intro a' eR
     show(if l=l then Jm (N+1) a' w1 else Qx (.goto l) a' w1)
     rw[if_pos rfl]
     exact Nl N a' w1 (ih _ L1 w1 (fun aao cF=>head cZ sI cA (vd.trans sG) cF) hl a' eR)
    |exit id=>dsimp only at ho;split at ho<;>cases ho
    |goto q=>dsimp only at ho;split at ho<;>cases ho
    |ret=>dsimp only at ho;split at ho<;>cases ho
   |inr y'=>
    have xI:y'=x:=are hl
    rw[xI] at hy
    refine vm hy (bH.lk _) fun o σ1 aF w1 L1 cZ sG qW ho=> ?_
    have sI:=iI.trans qW
    have lift:∀(o:Out) (a':Act) (w1:World),o≠.normal→Qx (toX (je l o)) a' w1→xD l (Jm (N+1)) Qx (toX (je l o)) a' w1:=by
     intro o a' w1 oH hq
     cases o with
     |normal=>exact(oH rfl).elim
     |exit id=>exact hq
     |ret=>exact hq
     |goto q=>
      cases hb:aqH q l with
      |true=>
       have e:je l (.goto q)= .normal:=by simp[je,hb]
       rw[e] at hq⊢
       exact hq
      |false=>
       have e:je l (.goto q)= .goto q:=by simp[je,hb]
       have bg:¬q=l:=fun e=>by subst e;simp at hb
       rw[e] at hq⊢
       show(if q=l then Jm (N+1) a' w1 else Qx (.goto q) a' w1)
       rw[if_neg bg]
       exact hq
    have out:∀{z:Option (nY D pr ρ E)} {o:Out},o≠.normal→z=toE T pr E o σ1 (k o {σ1 with lk:=σ.lk})→(match z with|some x=>some (Sum.inr x)|none=>none:Option (HH D j.bZ⊕nY D pr ρ E))=some (.inr x)→NK n (xD l (Jm (N+1)) Qx (toX (je l o))) L1 w1:=by
     intro z o oH hz sp
     subst hz
     split at sp
     case h_2=>cases sp
     rename_i x' cA
     cases sp
     have fin:∀σ1 aF w1 L1,Kn σ1 aF w1 L1→Frame γ w aF w1→bB wr σ σ1→k o σ1=some r→NK n (xD l (Jm (N+1)) Qx (toX (je l o))) L1 w1:=by
      intro σ1 aF w1 L1 k1 k2 k3 k4 a' eR
      exact lift o a' w1 oH (hc o σ1 aF w1 L1 k1 k2 k3 k4 a' eR)
     rcases wv cA hf with⟨j',y,bc,h1,h2,h3⟩|h1
     · obtain⟨aX,k1,k2,k3,k4⟩:=uF hR rfl hk cZ sI h1 h2
       have e3:=k3.wo (σ:=σ) hs
       have e:({bc with lk:=σ.lk}:S D)=bc:=by rw[←k4]
       rw[show({({bc with lk:=(kept σ mv).map aqO++σ.lk}:S D) with lk:=σ.lk}:S D)={bc with lk:=σ.lk} from rfl,e] at e3
       exact fin bc aX w1 L1 k1 ((vd.trans sG).trans k2) e3 h3
     · exact fin _ aF w1 L1 (cZ.lk _) (vd.trans sG) (sI.wo hs) h1
    cases o with
    |normal=>
     obtain⟨h2,cA,e⟩:=p9 ho
     cases e
    |exit id=>exact out (by simp) rfl ho
    |goto q=>exact out (by simp) rfl ho
    |ret=>exact out (by simp) rfl ho
 intro a ha
 obtain⟨N,hN⟩:∃N,N=18446744073709551616:=⟨_,rfl⟩
 have LW:=hx
 unfold ay at LW
 rw[←hN] at LW
 refine wpIn_mono (key N h0 L w (fun ci hi=>head (hk.lk _) (bB.refl _ _) j9 (Frame.refl _ _) hi) LW a ha) (fun e a' w' he=> ?_)
 cases e with
 |goto q=>
  have pU:(if q=l then Jm N a' w' else Qx (.goto q) a' w'):=he
  split at pU
  · rename_i hq
    rw[hq]
    exact Nk _ _ _ pU
  · exact pU
 |_=>exact he
theorem vI [I:Rd]:∀(c:Code) (an:An) {ρ:Type} {σ:S D} {k:Out→S D→Option ρ} {r:ρ} {γ:Gh D} {w:World} {L:List (Nat×Value)} {Qx:Exit→Act→World→Prop},gE c=true→(I.ro=none∨gF c=true)→Lb P c Qx→eK T Φ c an σ k=some r→(∀t∈writes c,I.ft n t=true)→Kn σ γ w L→
  (∀o aI γ' w' L',Kn aI γ' w' L'→Frame γ w γ' w'→bB (writes c) σ aI→k o aI=some r→NK n (Qx (toX o)) L' w')→CW P n c Qx L w:=by
 intro c
 induction c with
 |skip=>
  intro an ρ σ k r γ w L Qx hN hI hL h hd hk hc
  simp only[eK] at h
  exact CW.skip (hc .normal σ γ w L hk (Frame.refl _ _) (bB.refl _ _) h)
 |region id ops draw=>
  intro an ρ σ k r γ w L Qx hN hI hL h hd hk hc
  simp only[eK] at h
  refine t_ hR h hk (X:=fun o L' w'=>NK n (Qx (toX o)) L' w') ?_ hc
  intro eo aI k' r' hb bH hx
  exact adP hP hR cE hm hb hd bH fun σ1 aF w1 L1 m1 m2 m3 m4=>hx .normal σ1 aF w1 L1 m1 m2 m3 m4
 |seq a b oC xG=>
  intro an ρ σ k r γ w L Qx hN hI hL h hd hk hc
  have pY:I.ro=none∨gF a=true:=hI.imp (fun h=>h) fun h=>by simp only[gF,aqL] at h;exact h.1
  have Gc:I.ro=none∨gF b=true:=hI.imp (fun h=>h) fun h=>by simp only[gF,aqL] at h;exact h.2
  simp only[eK] at h
  unfold gE at hN
  have oM:∀t∈writes a,t∈writes (.seq a b):=fun t ht=>by simp only[writes];exact aqP.2 (.inl ht)
  have oL:∀t∈writes b,t∈writes (.seq a b):=fun t ht=>by simp only[writes];exact aqP.2 (.inr ht)
  split at h
  · rename_i x j9
    unfold S6 at j9
    split at j9
    case h_2=>cases j9
    rename_i l j pr E x' hl
    cases j9
    obtain⟨Jm,Nl,Nk⟩:=hL l b (by unfold qy;rw[hl])
    rw[hl] at hN
    simp only[aqL] at hN
    obtain rfl:=LG hl
    have q7:CW P n b Qx L w:=by
     refine af7 hP hR cE hm Nl Nk h hk ?_ (fun o σ1 aF w1 L1 m1 m2 m3 m4=> ?_)
     · intro eo aI k' r' γ' w' L' Q' hb bH hx
       obtain⟨dN,fG,hb⟩:=ma hb
       obtain⟨e9,z1,z2,z3⟩:=l_ fG bH
       refine xG _ hN.2 Gc (Lb.none hN.1) hb (fun t ht=>hd t (oL t ht)) z1 fun o σ1 aF w1 L1 m1 m2 m3 m4=> ?_
       have:=hx (je l o) σ1 aF w1 L1 m1 (z2.trans m2) (z3.lz.trans m3) m4
       rwa[acJ] at this
     · have:=hc (je l o) σ1 aF w1 L1 m1 m2 (m3.mono oL) m4
       exact this
    refine CW.seq fun K hK=> ?_
    exact fun a' eR=>wpIn_label (hK _ _ q7 a' eR)
  cases hl:sn a with
  |some l=>
   exfalso
   obtain rfl:=LG hl
   refine t_ hR h hk (X:=fun _ _ _=>True) (fun hb _ _=> ?_) (fun _ _ _ _ _ _ _ _ _=>trivial)
   obtain⟨dN,_,hb⟩:=ma hb
   simp[eK] at hb
  |none=>
  rw[hl] at hN
  simp only[aqL] at hN
  have hLb:Lb P b Qx:=fun l b' hs=>hL l b' (by unfold qy;rw[hl];exact hs)
  refine t_ hR h hk (X:=fun o L' w'=>NK n (Qx (toX o)) L' w') ?_ hc
  intro eo aI k' r' hb bH hx
  have ap_:∀t∈writes a,t∈writes (.seq a b):=fun t ht=>by simp only[writes];exact aqP.2 (.inl ht)
  refine CW.seq fun K hK=> ?_
  obtain⟨dN,fG,hb⟩:=ma hb
  obtain⟨e9,z1,z2,z3⟩:=l_ fG bH
  refine oC _ hN.1.2 pY (Lb.none hN.1.1) hb (fun t ht=>hd t (oM t ht)) z1 fun o σ1 aF w1 L1 m1 m2 m3 m4=> ?_
  have m3:=(z3.lz).trans (m3.mono oM)
  have m2:=z2.trans m2
  cases o with
  |normal=>
   refine hK _ _ ?_
   obtain⟨σ5,hf5,m4⟩:=ma m4
   obtain⟨γ5,y1,y2,y3⟩:=l_ hf5 m1
   refine xG _ hN.2 Gc hLb m4 (fun t ht=>hd t (oL t ht)) y1 fun o bc aX w2 L2 n1 n2 n3 n4=> ?_
   exact hx o bc aX w2 L2 n1 (m2.trans (y2.trans n2)) (m3.trans (y3.lz.trans (n3.mono oL))) n4
  |exit id=>exact hx (.exit id) σ1 aF w1 L1 m1 m2 m3 m4
  |goto l=>exact hx (.goto l) σ1 aF w1 L1 m1 m2 m3 m4
  |ret=>exact hx .ret σ1 aF w1 L1 m1 m2 m3 m4
 |cond x a b oC xG=>
  intro an ρ σ k r γ w L Qx hN hI hL h hd hk hc
  have pY:I.ro=none∨gF a=true:=hI.imp (fun h=>h) fun h=>by simp only[gF,aqL] at h;exact h.1
  have Gc:I.ro=none∨gF b=true:=hI.imp (fun h=>h) fun h=>by simp only[gF,aqL] at h;exact h.2
  simp only[eK] at h
  refine t_ hR h hk (X:=fun o L' w'=>NK n (Qx (toX o)) L' w') ?_ hc
  intro eo aI k' r' hb bH hx
  have oM:∀t∈writes a,t∈writes (.cond x a b):=fun t ht=>by simp only[writes];exact aqP.2 (.inl ht)
  have oL:∀t∈writes b,t∈writes (.cond x a b):=fun t ht=>by simp only[writes];exact aqP.2 (.inr ht)
  unfold gE at hN
  simp only[aqL] at hN
  split at hb
  case h_2=>cases hb
  rename_i d K g bh
  obtain⟨v,h1,h2⟩:=bJ bH.sr bh
  have h2:v= .bool d:=h2.1
  subst h2
  intro a' eR
  refine wpIn_cond_split (eR.ev h1) (fun pV=> ?_) (fun hdf=> ?_)
  · subst pV
    obtain⟨dN,fG,hb⟩:=ma hb
    obtain⟨e9,z1,z2,z3⟩:=l_ fG bH
    refine oC _ hN.1.2 pY (Lb.none hN.1.1.1) hb (fun t ht=>hd t (oM t ht)) z1 (fun o σ1 aF w1 L1 m1 m2 m3 m4=>hx o σ1 aF w1 L1 m1 (z2.trans m2) (z3.lz.trans (m3.mono oM)) m4) a' eR
  · subst hdf
    obtain⟨dN,fG,hb⟩:=ma hb
    obtain⟨e9,z1,z2,z3⟩:=l_ fG bH
    refine xG _ hN.2 Gc (Lb.none hN.1.1.2) hb (fun t ht=>hd t (oL t ht)) z1 (fun o σ1 aF w1 L1 m1 m2 m3 m4=>hx o σ1 aF w1 L1 m1 (z2.trans m2) (z3.lz.trans (m3.mono oL)) m4) a' eR
 |block id a oC=>
  intro an ρ σ k r γ w L Qx hN hI hL h hd hk hc
  have pY:I.ro=none∨gF a=true:=hI.imp (fun h=>h) fun h=>by simp only[gF] at h;exact h
  simp only[eK] at h
  refine t_ hR h hk (X:=fun o L' w'=>NK n (Qx (toX o)) L' w') ?_ hc
  intro eo aI k' r' hb bH hx
  refine CW.block ?_
  unfold gE at hN
  simp only[aqL] at hN
  obtain⟨dN,fG,hb⟩:=ma hb
  obtain⟨e9,z1,z2,z3⟩:=l_ fG bH
  refine oC _ hN.2 pY (Lb.none hN.1) hb hd z1 fun o σ1 aF w1 L1 m1 m2 m3 m4=> ?_
  have m2:=z2.trans m2
  have m3:=z3.lz.trans m3
  cases o with
  |normal=>exact hx .normal σ1 aF w1 L1 m1 m2 m3 m4
  |exit uG=>
   dsimp only at m4
   intro a' eR
   show(if uG=id then Qx .normal a' w1 else Qx (.exit uG) a' w1)
   cases hb:aqH uG id with
   |true=>
    rw[hb] at m4
    rw[if_pos (aqK hb)]
    exact hx .normal σ1 aF w1 L1 m1 m2 m3 m4 a' eR
   |false=>
    rw[hb] at m4
    have bg:¬uG=id:=fun e=>by subst e;simp at hb
    rw[if_neg bg]
    exact hx (.exit uG) σ1 aF w1 L1 m1 m2 m3 m4 a' eR
  |goto l=>exact hx (.goto l) σ1 aF w1 L1 m1 m2 m3 m4
  |ret=>exact hx .ret σ1 aF w1 L1 m1 m2 m3 m4
 |loop a oC=>
  intro an ρ σ k r γ w L Qx hN hI hL h hd hk hc
  have pY:I.ro=none∨gF a=true:=hI.imp (fun h=>h) fun h=>by simp only[gF] at h;exact h
  cases an with
  |loop j pr E x=>
   simp only[eK] at h
   unfold gE at hN
   simp only[aqL] at hN
   refine afH hP hR cE hm h hk ?_ hc
   intro eo aI k' r' γ' w' L' Q' hb bH hx
   obtain⟨dN,fG,hb⟩:=ma hb
   obtain⟨e9,z1,z2,z3⟩:=l_ fG bH
   exact oC x.un hN.2 pY (Lb.none hN.1) hb hd z1 fun o σ1 aF w1 L1 m1 m2 m3 m4=>hx o σ1 aF w1 L1 m1 (z2.trans m2) (z3.lz.trans m3) m4
  |_=>simp[eK] at h
 |exit id=>
  intro an ρ σ k r γ w L Qx hN hI hL h hd hk hc
  simp only[eK] at h
  exact CW.exit (hc (.exit id) σ γ w L hk (Frame.refl _ _) (bB.refl _ _) h)
 |ret=>
  intro an ρ σ k r γ w L Qx hN hI hL h hd hk hc
  simp only[eK] at h
  have:=hc .ret σ γ w L hk (Frame.refl _ _) (bB.refl _ _) h
  exact fun a ha=>wpIn_ret (this a ha)
 |rangeFunc=>intro an ρ σ k r γ w L Qx hN hI hL h;simp[eK] at h
 |scope a oC=>
  intro an ρ σ k r γ w L Qx hN hI hL h hd hk hc
  have Nn:I.ro=none:=hI.resolve_right fun h=>by simp[gF] at h
  have pY:I.ro=none∨gF a=true:= .inl Nn
  simp only[eK] at h
  unfold gE at hN
  refine t_ hR h hk (X:=fun o L' w'=>NK n (Qx (toX o)) L' w') ?_ hc
  intro eo aI k' r' hb bH hx
  obtain⟨dN,fG,hb⟩:=ma hb
  obtain⟨e9,z1,z2,z3⟩:=l_ fG bH
  cases hs:qy a with
  |none=>
   intro a' eR
   refine adx Nn (oC _ hN pY (Lb.none (by unfold jB;rw[hs];rfl)) hb hd z1 (fun o σ1 aF w1 L1 m1 m2 m3 m4=> ?_) a' eR)
   have m2:=z2.trans m2
   have m3:=z3.lz.trans m3
   cases o with
   |normal=>exact hx .normal σ1 aF w1 L1 m1 m2 m3 m4
   |exit id=>exact hx (.exit id) σ1 aF w1 L1 m1 m2 m3 m4
   |goto l=>cases m4
   |ret=>exact hx .ret σ1 aF w1 L1 m1 m2 m3 m4
  |some q=>
   obtain⟨l,b⟩:=q
   obtain⟨rest,hf,uN⟩:=ac7 (P:=P) a hs hN
   intro a' eR
   refine ady Nn hf (oC _ hN pY (fun l' b' lS=> ?_) hb hd z1 (fun o σ1 aF w1 L1 m1 m2 m3 m4=> ?_) a' eR)
   · rw[hs] at lS
     cases lS
     refine⟨oB P rest l Qx,fun m a w h=>uN _ _ _ (wpIn_mono h (fun e a' w' he=> ?_)),fun m a w h=>⟨rfl,m,h⟩⟩
     cases e with
     |goto q=>
      have he:(if q=l then oB P rest l Qx m a' w' else(q=l∧∃m,oB P rest l Qx m a' w')):=he
      split at he
      · rename_i hq;exact⟨hq,he⟩
      · rename_i hq;exact(hq he.1).elim
     |_=>exact he
   · have m2:=z2.trans m2
     have m3:=z3.lz.trans m3
     cases o with
     |normal=>exact hx .normal σ1 aF w1 L1 m1 m2 m3 m4
     |exit id=>exact hx (.exit id) σ1 aF w1 L1 m1 m2 m3 m4
     |goto l=>cases m4
     |ret=>exact hx .ret σ1 aF w1 L1 m1 m2 m3 m4
 |label=>intro an ρ σ k r γ w L Qx hN hI hL h;simp[eK] at h
 |goto l=>
  intro an ρ σ k r γ w L Qx hN hI hL h hd hk hc
  simp only[eK] at h
  have:=hc (.goto l) σ γ w L hk (Frame.refl _ _) (bB.refl _ _) h
  exact fun a ha=>wpIn_goto (this a ha)
 |refuse=>intro an ρ σ k r γ w L Qx hN hI hL h;simp[eK] at h
end
theorem adH{t:TypeId}{a:Bool}{z:List Value}{pa:Addr}{cs:List Value}{w:World}(hT:bt P t a z)(hz:a=false→z.length=1)(hc:gy w pa cs)(hl:cs.length=z.length):(loadVar t pa).run P w= .ok (pack a cs) w:=by
 simp only[loadVar,Sem.run_bind,hT.isAgg,Result.andThen_ok]
 cases a with
 |true=>
  have:=run_loadCells_list (P:=P) w pa cs hc
  rw[hl] at this
  simp[hT.sizeOf,this,pack]
 |false=>
  rw[hz rfl] at hl
  match cs,hl,hc with
  |[u],_,hc=>
   have:=hc 0 u rfl
   have hu:w.cell? pa=some u:=by simpa[Addr.add] using this
   simp[pack,hu]
theorem Kk(hP:dh P T){σ:S D}{γ:Gh D}{w:World}{L:List (Nat×Value)}(hk:Kn σ γ w L):∀{rs:List ResultVar} {l:List Nat} {dA:List (AV D)},Q.R σ.ob (w_ T σ.sl rs) l dA→∃vs,tF P L w rs vs∧jQ (fun i=>i<σ.nx) γ w dA vs
 |[],l,dA,h=>by
  obtain⟨_,rfl⟩:=h
  exact⟨[],trivial,trivial⟩
 | .tmp t::rs,l,dA,h=>by
   simp only[w_] at h
   split at h
   case h_2=>exact(h:False).elim
   rename_i a ha
   obtain⟨l1,l2,bs,_,h1,h2⟩:=Q.dZ h
   obtain⟨_,rfl⟩:=h2
   obtain⟨v,k1,k2⟩:=hk.sr t a ha
   obtain⟨vs,k3,k4⟩:=Kk hP hk h1
   exact⟨v::vs,⟨k1,k3⟩,k2,k4⟩
 | .cell t ty::rs,l,dA,h=>by
   simp only[w_] at h
   split at h
   case h_2=>exact(h:False).elim
   rename_i i off cd ha ht
   obtain⟨ao,l',ho,rfl,h⟩:=h
   cases ao with
   |sl=>exact(h:False).elim
   |bU=>exact(h:False).elim
   |fi=>exact(h:False).elim
   |fz=>exact(h:False).elim
   |mp=>exact(h:False).elim
   |box cs=>
    dsimp only at h
    split at h
    case h_2=>exact(h:False).elim
    rename_i a F7
    obtain⟨l1,l2,bs,_,h1,h2⟩:=Q.dZ h
    obtain⟨_,rfl⟩:=h2
    obtain⟨v,k1,_,b,hg,rfl⟩:=hk.sr t _ ha
    obtain⟨_,_,b',us,t',m1,m2,m3,m4,m5⟩:=hk.ob.ob i _ ho
    rw[hg] at m1
    obtain⟨rfl,_⟩:=xh m1
    obtain⟨n1,n2⟩:=GR m4 F7
    obtain⟨vs,k3,k4⟩:=Kk hP hk h1
    have hT:=(hP.ty ty cd ht).1
    have fb:=adH (w:=w) hT (C_ T cd) (G4 m3 off (cd.n T)) (by rw[wc];simp;omega)
    exact⟨_::vs,⟨⟨_,k1,fb⟩,k3⟩,n2,k4⟩
theorem Pb{U:Nat→Prop}{γ:Gh D}{w:World}:∀{as:List (AC D)} {vs:List Value} {k:Nat},gP U γ w as vs→SR U γ w (H0 k as) (oZ k vs)
 |[],[],k,_=>fun t a h=>by simp[H0,au] at h
 |a::as,v::vs,k,h=>SR.cons (Pb h.2) h.1
 |[],_::_,k,h=>h.elim
 |_::_,[],k,h=>h.elim
def kT(m:M D)(x:Nat):Nat:=match au (swap m.ids) x with
 |some p=>p
 |none=>if bp m.ku x then 1 else if x<4 then x else 2
theorem RK(hP:dh P T)(hR:bQ T){σ:S D}{γ:Gh D}{w:World}{L:List (Nat×Value)}{c:ar D}{rs:List ResultVar}{r:HH D c.outs}(hk:Kn σ γ w L)(M5:∀q∈c.bG,1000≤q.1)(hs:∀q∈c.ob,q.1<2000)(h:rQ.fin T c rs σ=some r):
  ∃vs,tF P L w rs vs∧∃γ' pu gW,fO T (cN T c.outs r) some id 3000 c.ie=some pu∧gj T (cN T c.outs r) some id 3000 c.bG=some gW∧qf (fun _=>True) γ' w pu (rR vs)∧(∀p x,cw gW p=some x→OR (fun _=>True) γ' w p x)∧
   (∀p,(p,p)∈stay c→γ'.g p=γ.g p)∧Frame0 γ w γ' w:=by
 unfold rQ.fin at h
 obtain⟨l,dA,h1,h2⟩:=Q.Gn h
 obtain⟨l',x,h3,h4⟩:=Q.Gn h2
 obtain⟨hh,m⟩:=x
 dsimp only at h4
 split at h4
 case h_2=>cases h4
 rename_i pu gW jF j_
 have h4:=are h4
 subst h4
 obtain⟨vs,k1,k2⟩:=Kk hP hk h1
 obtain⟨⟨hex,xU⟩,nI⟩:=NH hR hk.ob h3 k2
 dsimp only at hex xU nI
 have pO:∀x,(∀p,(p,x)∉m.ids)→au (swap m.ids) x=none:=fun x hn=>by
  cases hl:au (swap m.ids) x with
  |none=>rfl
  |some p=>exact(hn p (qw.1 (cz hl))).elim
 have sw:∀x,x<4→kT m x=x:=fun x hx=>by
  unfold kT
  rw[pO x fun p hp=>by have:=hex.xH p x hp;omega]
  have h1:bp m.ku x=false:=by
   cases hm:bp m.ku x with
   |true=>have:=(hex.ku x (dK.1 hm)).1;omega
   |false=>rfl
  simp only[h1,aqG,if_false]
  rw[if_pos hx]
 have Me:∀x,x∈m.ku→kT m x=1:=fun x hx=>by
  unfold kT
  rw[pO x (hex.ku x hx).2]
  simp only[dK.2 hx,if_true]
 have aiU:∀p i,(p,i)∈m.ids→kT m i=p:=fun p i hp=>by
  unfold kT
  rw[Fq hex.ids hp]
 have BQ:Fin T (fun i=>i<σ.nx) (fun _=>True) γ ⟨fun b=>kT m (γ.o b),mZ γ m,ee γ.v 3000 (cN T c.outs hh)⟩ w m (cN T c.outs hh) 3000:=by
  refine⟨hex.dv,fun p i hp=>⟨trivial,BU hex hp⟩,fun i x hx=> ?_,fun _ p _ LV _=> ?_,fun K Kp cU hK qU b hb=> ?_,fun q K Kp hq cU hK qU b hb=> ?_,fun i d hd=> .inr ⟨trivial,AT hd⟩⟩
  · have:=(hex.new _ hx).1
    simp only at this
    show ¬i<σ.nx
    omega
  · rw[hex.Qw] at LV
    omega
  · unfold M.may at cU
    rw[hex.vN] at cU
    simp only[aqG,if_false,zL,aq0] at cU
    have hb:γ.o b∈K:=hb
    show kT m (γ.o b)∈Kp
    rw[sw _ (by have:=hK _ hb;omega)]
    exact dK.1 (cU _ hb)
  · unfold M.may at cU
    rw[hex.vN] at cU
    simp only[aqG,if_false,zL,aq0] at cU
    have hb:γ.o b∈q::K:=hb
    show kT m (γ.o b)∈Kp
    rcases aqR.1 hb with hb|hb
    · rw[hb,Me q hq]
      exact dK.1 (cU 1 (by simp))
    · rw[sw _ (by have:=hK _ hb;omega)]
      exact dK.1 (cU _ (by simp[hb]))
 have BP:zi γ ⟨fun b=>kT m (γ.o b),mZ γ m,ee γ.v 3000 (cN T c.outs hh)⟩ m:=⟨fun p i hp b hb=>by
  show kT m (γ.o b)=p
  rw[hb]
  exact aiU p i hp⟩
 obtain⟨g1,g2⟩:=nI BQ BP
 have mP:=g1 pu jF
 refine⟨vs,k1,_,pu,gW,jF,j_, ?_,fun p x hx=>(g2 gW j_ p x hx).2.2,fun p hp=> ?_,⟨rfl,rfl,rfl,aqM _,fun b hb hc=>⟨sw _ (by omega),rfl⟩,fun b hb hc=>⟨hb, ?_⟩⟩⟩
 · unfold qf
   match pu,vs,mP with
   |[],[],_=>exact⟨[],rfl,trivial⟩
   |[a],[v],mP=>exact mP.1
   |a::a'::as,v::v'::vs,mP=>exact⟨v::v'::vs,rfl,mP⟩
   |[],_::_,mP=>exact mP.elim
   |_::_,[],mP=>exact mP.elim
   |[a],v::v'::vs,mP=>exact mP.2.elim
   |a::a'::as,[v],mP=>exact mP.2.elim
 · have fk:=hex.LQ _ hp
   refine(BU hex fk).2 fun x hx=> ?_
   have h5:=(hex.new _ hx).1
   simp only at h5
   have hpb:p<2000:=by
    unfold stay at hp
    obtain⟨q,hq,e⟩:=aqX.1 hp
    cases e
    obtain⟨q',oG⟩:=nB (arf.1 hq).2
    exact hs (q.1,q') oG
   have:=hk.bR
   omega
 · show γ.o b=kT m (γ.o b)
   have hc:kT m (γ.o b)=0∨kT m (γ.o b)=3:=hc
   have Bu:∀p i,(p,i)∈m.ids→1000≤p:=fun p i hp=>by
    obtain⟨q,hq⟩:=nB (hex.key p i hp)
    exact M5 (p,q) hq
   unfold kT at hc⊢
   cases hl:au (swap m.ids) (γ.o b) with
   |some p=>
    rw[hl] at hc
    have:=Bu p _ (qw.1 (cz hl))
    dsimp only at hc
    omega
   |none=>
    rw[hl] at hc
    dsimp only at hc⊢
    split at hc
    · omega
    · split at hc
      · rename_i h5 h6
        simp only[h5,h6,if_true,if_false]
        simp
      · omega
theorem gP.len{U:Nat→Prop}{γ:Gh D}{w:World}:∀{as:List (AC D)} {vs:List Value},gP U γ w as vs→vs.length=as.length
 |[],[],_=>rfl
 |_::as,_::vs,h=>by simp[gP.len h.2]
 |[],_::_,h=>h.elim
 |_::_,[],h=>h.elim
theorem Vj(hP:dh P T)(hR:bQ T)(cE:∀c∈Φ,ff P T c)(hm:P.follows .mixedOrders=true){c:ar D}{fn:Func}{code:Code}{rs:List ResultVar}{an:An}
  (jG:∀(args:Array Value) (w:World),(callFunc c.f args).run P w= .ok (.enter c.f args) w)
  (hf:P.funcs[c.f]? =some fn) (hb:fn.body=some code) (jF:fn.results=rs.toArray)
  (bD:((writes code).all (fun t=>aqZ t fn.ntmps)&&aq2 c.args.length fn.ntmps&&pE c.ie c.bG&&jX (c.bG.map aqO)&&c.bG.all (fun p=>aq2 1000 p.1)&&aq2 c.bG.length 40)=true)
  (ve:∀h,Em T Φ c rs code an h=c.fn h):ff P T c:=by
 simp only[aqL] at bD
 obtain⟨⟨⟨⟨⟨hw,hl⟩,fE⟩,BC⟩,l8⟩,sH⟩:=bD
 refine⟨jG,fE,BC,l8,sH,fun h r hr as di has j_ γ w vs hv bb=> ?_⟩
 rw[←ve] at hr
 unfold Em at hr
 split at hr
 case h_2=>cases hr
 rename_i fS
 simp only[aqL] at fS
 split at hr
 case h_2=>cases hr
 rename_i σ j8
 unfold yi at j8
 dsimp only at j8
 split at j8
 case isFalse=>cases j8
 rename_i hc
 rw[has,j_] at j8
 have j8:=are j8
 subst j8
 simp only[aqL,aq0] at hc l8 hw
 have iS:=Pb (k:=0) hv
 have hlen:=hv.len
 have uY:=A9 has
 refine enter hf hb rfl (by rw[hlen,uY];exact hl) ?_
 obtain⟨dN,fG,hr⟩:=ma hr
 obtain⟨e9,z1,z2,z3⟩:=l_ fG (γ:=γ) ⟨iS,bb,aqM _⟩
 refine vI hP hR cE hm code an.un fS.2 (.inl rfl) (Lb.none fS.1) hr (fun t ht=>by unfold Rd.ft;rw[hw t ht];rfl) z1 fun o aI γ' w' L' bH cG MQ ho=> ?_
 have cG:=z2.trans cG
 have fin:∀{aI},Kn aI γ' w' L'→rQ.fin T c rs aI=some r→∃vs,tF P L' w' rs vs∧jT (fun v w'=>∃U' γ' rs gW,fO T (cN T c.outs r) some id 3000 c.ie=some rs∧gj T (cN T c.outs r) some id 3000 c.bG=some gW∧
   qf U' γ' w' rs v∧(∀p x,cw gW p=some x→OR U' γ' w' p x)∧(∀p,(p,p)∈stay c→γ'.g p=γ.g p)∧Frame0 γ w γ' w') (.returned (rR vs)) w':=by
  intro aI bH ho
  obtain⟨vs,h1,aX,pu,gW,h2,h3,h4,h5,h6,h7⟩:=RK hP hR bH (fun q hq=>aqT (l8 q hq)) (fun q hq=>by
   have:=aqT (hc.2 q hq).2
   omega) ho
  refine⟨vs,h1,_,rfl,_,aX,pu,gW,h2,h3,h4,h5,fun p hp=> ?_,cG.toFrame0.trans h7⟩
  rw[h6 p hp]
  refine cG.gk p ?_
  unfold stay at hp
  obtain⟨q,hq,e⟩:=aqX.1 hp
  cases e
  obtain⟨q',oG⟩:=nB (arf.1 hq).2
  have:=aqT (hc.2 _ oG).2
  simp only at this
  omega
 cases o with
 |normal=>
  obtain⟨vs,h1,h2⟩:=fin bH ho
  exact fun a ha=>bodyPost_end (um (fun _ _ hx=>ha.ev hx) jF h1) ha.defers h2
 |ret=>
  obtain⟨vs,h1,h2⟩:=fin bH ho
  exact fun a ha=>bodyPost_ret (um (fun _ _ hx=>ha.ev hx) jF h1) ha.defers h2
 |exit id=>cases ho
 |goto l=>cases ho
abbrev gb(T:aV D)(Φ:List (ar D))(c:ar D)(rs:List ResultVar)(code:Code)(an:An):ar D:=⟨c.f,c.ins,c.outs,c.args,c.ob,c.ie,c.bG,Em T Φ c rs code an⟩
theorem gU(hP:dh P T)(hR:bQ T)(cE:∀c∈Φ,ff P T c)(hm:P.follows .mixedOrders=true){c:ar D}{fn:Func}{code:Code}{rs:List ResultVar}{an:An}
  (jG:∀(args:Array Value) (w:World),(callFunc c.f args).run P w= .ok (.enter c.f args) w)
  (hf:P.funcs[c.f]? =some fn) (hb:fn.body=some code) (jF:fn.results=rs.toArray)
  (bD:((writes code).all (fun t=>aqZ t fn.ntmps)&&aq2 c.args.length fn.ntmps&&pE c.ie c.bG&&jX (c.bG.map aqO)&&c.bG.all (fun p=>aq2 1000 p.1)&&aq2 c.bG.length 40)=true):ff P T (gb T Φ c rs code an):=
 Vj (c:=gb T Φ c rs code an) (an:=an) hP hR cE hm jG hf hb jF bD fun _=>rfl
end
end Rx
end Go.Proofs.YtncbfgppjfcijaaGreat
