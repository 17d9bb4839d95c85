import Derived.ScopeJumps
import Derived.Test.YtaneejpkncdodaaGreatRm
set_option linter.unusedVariables false
set_option linter.unusedSimpArgs false
set_option linter.unusedSectionVars false
noncomputable section
namespace Go.Proofs.YtaneejpkncdodaaGreat
open Go Go.RowKit Dp
namespace Rx
section
variable {α:Type} {g:Nat→List (Nat×α)} {l0:List (Nat×α)} {D D':Nat→Bool} {i p:Nat}
def acc(g:Nat→List (Nat×α))(l0:List (Nat×α))(D:Nat→Bool):Nat→List (Nat×α)
 |0=>l0
 |n+1=>cond (D n) (g n++acc g l0 D n) (acc g l0 D n)
theorem yL:∀{n:Nat},(∀q,q<n→i∈(g q).map Prod.fst→D q=D' q)→aq (acc g l0 D n) i=aq (acc g l0 D' n) i
 |0,_=>rfl
 |n+1,h=>by
  have ih:=yL (n:=n) fun q hq=>h q (by omega)
  simp only[acc]
  by_cases hi:i∈(g n).map Prod.fst
  · rw[h n (by omega) hi]
    cases D' n with
    |true=>simp only[cond_true,gU,ih]
    |false=>exact ih
  · have hn:=lP.2 hi
    have e:∀l,aq (g n++l) i=aq l i:=fun l=>by rw[gU,hn]
    cases D n<;>cases D' n<;>simp only[cond_true,cond_false,e,ih]
theorem XF(hp:D p=true)(hi:i∈(g p).map Prod.fst):∀{n:Nat},p<n→(∀q,p<q→q<n→D q=true→i∉(g q).map Prod.fst)→aq (acc g l0 D n) i=aq (g p) i
 |0,h,_=>by omega
 |n+1,h,hq=>by
  simp only[acc]
  by_cases hpn:p=n
  · subst hpn
    rw[hp]
    simp only[cond_true,gU]
    cases hl:aq (g p) i with
    |none=>exact(lP.1 hl hi).elim
    |some a=>rfl
  · have ih:=XF hp hi (n:=n) (by omega) fun q h1 h2=>hq q h1 (by omega)
    cases hD:D n with
    |false=>exact ih
    |true=>
     simp only[cond_true,gU,lP.2 (hq n (by omega) (by omega) hD)]
     exact ih
theorem NU:∀{n:Nat},(∀q,q<n→D q=D' q)→acc g l0 D n=acc g l0 D' n
 |0,_=>rfl
 |n+1,h=>by
  simp only[acc]
  rw[NU (n:=n) fun q hq=>h q (by omega),h n (by omega)]
theorem Cw:∀{n k:Nat},(∀q,n≤q→D q=false)→acc g l0 D (n+k)=acc g l0 D n
 |n,0,_=>rfl
 |n,k+1,h=>by
  rw[Nat.add_succ]
  simp only[acc]
  rw[h (n+k) (by omega)]
  exact Cw h
theorem XE{n N:Nat}(h:n≤N):acc g l0 (fun _=>true) n=acc g l0 (fun q=>Nat.blt q n) N:=by
 obtain⟨k,rfl⟩:∃k,N=n+k:=⟨N-n,by omega⟩
 rw[Cw fun q hq=>by
  cases hb:Nat.blt q n with
  |true=>have:=Nat.le_of_ble_eq_true hb;omega
  |false=>rfl]
 refine NU fun q hq=> ?_
 exact(Nat.ble_eq_true_of_le hq).symm
theorem Cy:∀{n:Nat},acc g l0 (fun _=>true) (n+1)=acc (fun q=>g (q+1)) (g 0++l0) (fun _=>true) n
 |0=>rfl
 |n+1=>by
  have:=Cy (n:=n)
  simp only[acc,cond_true] at this⊢
  rw[this]
def ins(D:Nat→Bool)(p:Nat):Nat→Bool:=fun j=>D j||Nat.beq j p
theorem RJ(D:Nat→Bool)(p:Nat):ins D p p=true:=by simp[ins]
theorem AI{q:Nat}(h:q≠p):ins D p q=D q:=by
 have:Nat.beq q p=false:=by
  cases hb:Nat.beq q p with
  |true=>exact(h (Nat.eq_of_beq_eq_true hb)).elim
  |false=>rfl
 simp[ins,this]
theorem XG{n:Nat}(hp:p<n)(hD:D p=false)(h:∀i∈(g p).map Prod.fst,∀q,p<q→q<n→D q=true→i∉(g q).map Prod.fst)(i:Nat):aq (acc g l0 (ins D p) n) i=aq (g p++acc g l0 D n) i:=by
 by_cases hi:i∈(g p).map Prod.fst
 · rw[XF (RJ D p) hi hp fun q h1 h2 h3=>h i hi q h1 h2 (by rw[AI (by omega)] at h3;exact h3),gU]
   cases hl:aq (g p) i with
   |none=>exact(lP.1 hl hi).elim
   |some a=>rfl
 · rw[gU,lP.2 hi]
   refine yL fun q hq hm=> ?_
   by_cases k8:q=p
   · subst k8;exact(hi hm).elim
   · exact AI k8
end
section
variable {D:Nat→Type} [∀n,ad (D n)]
variable {P:Program} {T:aV D} {Φ:List (au D)} {n:Nat}
inductive RS(D:Nat→Type)|run (e:bX D) (l:List Nat)|skip
def dl(d:Option Nat)(a:AV D):List (Nat×AV D):=match d with
 |some d=>[(d,a)]
 |none=>[]
def gS(o:Oper):RS D→List (Nat×AV D)
 | .run e _=>dl o.dst e.dst
 | .skip=>dl o.dst (.c (.one .undef))
def gO:RS D→List (Nat×Option (AO D))
 | .run e _=>e.fz.map (fun i=>(i,none))++e.nh
 | .skip=>[]
def ru(σ:S D)(o:Oper)(x:RS D):S D:=⟨gS o x++σ.sl,gO x++σ.ob,σ.nx+64,σ.lk⟩
theorem aak{σ:S D}{o:Oper}{e:bX D}{l:List Nat}:ru σ o (.run e l)=sT σ o.dst e:=by
 cases h:o.dst<;>simp[ru,sT,gS,gO,dl,h]
theorem aaj{σ:S D}{o:Oper}:ru σ o .skip=pb σ o.dst:=by
 cases h:o.dst<;>simp[ru,pb,gS,gO,dl,h]
theorem agZ{o:Oper}{x:RS D}{t:Nat}:t∈(gS o x).map Prod.fst↔o.dst=some t:=by
 cases x<;>cases h:o.dst<;>simp[gS,dl,h,eq_comm]
theorem ag0{e:bX D}{l:List Nat}{i:Nat}(h:i∈(gO (.run e l)).map Prod.fst):i∈e.wr:=by
 unfold bX.wr
 simp only[gO,List.map_append,List.map_map,List.mem_append,List.mem_map] at h⊢
 rcases h with⟨x,h,rfl⟩|h
 · exact .inr h
 · exact .inl h
def XS(T:aV D)(Φ:List (au D))(ops:List Oper)(σ:S D)(o:Oper):RS D→Prop
 | .run e l=>(∀j b,o.guard=some (j,b)→∃og d K g,ops[j]? =some og∧og.dst=some d∧aq σ.sl d=some (.c (.one (.v .bool b K g))))∧
     ∃as,dt σ.sl o.op.operands.toList=some as∧Q.R σ.ob (tP T Φ σ.nx o.op as) l e∧xS σ.lk e=true
 | .skip=>∃j b og d a,o.guard=some (j,b)∧ops[j]? =some og∧og.dst=some d∧aq σ.sl d=some a∧((∃K g,a= .c (.one (.v .bool (!b) K g)))∨a= .c (.one .undef))
def Tr(T:aV D)(Φ:List (au D))(ops:List Oper):List Oper→List (RS D)→S D→Prop
 |[],[],_=>True
 |o::r,x::xs,σ=>XS T Φ ops σ o x∧Tr T Φ ops r xs (ru σ o x)
 |_,_,_=>False
def runT:List Oper→List (RS D)→S D→S D
 |o::r,x::xs,σ=>runT r xs (ru σ o x)
 |_,_,σ=>σ
def tY:List (RS D)→Nat→List Lg→List Lg
 |[],_,lg=>lg
 | .run e l::xs,p,lg=>tY xs (p+1) (⟨p,l.reverse,e.wr⟩::lg)
 | .skip::xs,p,lg=>tY xs (p+1) lg
structure oY(σ aJ:S D):Prop where
 sl:∀t,aq σ.sl t=aq aJ.sl t
 ob:σ.ob=aJ.ob
 nx:σ.nx=aJ.nx
 lk:σ.lk=aJ.lk
theorem Mz{sl wi:List (Nat×AV D)}:∀{l:List Operand},(∀t,.tmp t∈l→aq sl t=aq wi t)→dt sl l=dt wi l
 |[],_=>rfl
 |x::l,h=>by
  simp only[dt]
  rw[Mz (l:=l) fun t ht=>h t (by simp[ht])]
  have:eb sl x=eb wi x:=by
   cases x with
   |tmp t=>exact h t (by simp)
   |_=>rfl
  rw[this]
theorem oY.st{σ aJ:S D}(h:oY σ aJ)(o:Oper)(x:RS D):oY (ru σ o x) (ru aJ o x):=by
 refine⟨fun t=> ?_, ?_, ?_,h.lk⟩
 · show aq (gS o x++σ.sl) t=aq (gS o x++aJ.sl) t
   rw[gU,gU,h.sl]
 · show gO x++σ.ob=gO x++aJ.ob
   rw[h.ob]
 · show σ.nx+64=aJ.nx+64
   rw[h.nx]
theorem trace{ops:List Oper}:∀{l:List Oper} {p:Nat} {σ aJ:S D} {lg:List Lg} {ρ:Type} {k:S D→List Lg→Option ρ} {r:ρ},ii T Φ ops l p aJ lg k=some r→oY σ aJ→∃rs kM,Tr T Φ ops l rs σ∧oY (runT l rs σ) kM∧k kM (tY rs p lg)=some r
 |[],p,σ,aJ,lg,ρ,k,r,h,he=>⟨[],aJ,trivial,he,h⟩
 |o::l,p,σ,aJ,lg,ρ,k,r,h,he=>by
  have run:∀{dJ:S D},oY σ dJ→(∀j b,o.guard=some (j,b)→∃og d K g,ops[j]? =some og∧og.dst=some d∧aq σ.sl d=some (.c (.one (.v .bool b K g))))→tF T Φ p o dJ lg (fun σ lg=>ii T Φ ops l (p+1) σ lg k)=some r→
    ∃rs kM,Tr T Φ ops (o::l) rs σ∧oY (runT (o::l) rs σ) kM∧k kM (tY rs p lg)=some r:=by
   intro dJ mP hg h
   obtain⟨as,e,l',h1,h2,h3,h4⟩:=Pt h
   rw[←aak (l:=l')] at h4
   obtain⟨rs,kM,t1,t2,t3⟩:=trace h4 (mP.st o (.run e l'))
   refine⟨.run e l'::rs,kM,⟨⟨hg,as, ?_, ?_, ?_⟩,t1⟩,t2,t3⟩
   · rw[Mz fun t _=>mP.sl t];exact h1
   · rw[mP.ob,mP.nx];exact h2
   · rw[mP.lk];exact h3
  have pass:∀{dJ:S D},oY σ dJ→(∃j b og d a,o.guard=some (j,b)∧ops[j]? =some og∧og.dst=some d∧aq σ.sl d=some a∧((∃K g,a= .c (.one (.v .bool (!b) K g)))∨a= .c (.one .undef)))→ii T Φ ops l (p+1) (pb dJ o.dst) lg k=some r→
    ∃rs kM,Tr T Φ ops (o::l) rs σ∧oY (runT (o::l) rs σ) kM∧k kM (tY rs p lg)=some r:=by
   intro dJ mP hg h
   rw[←aaj] at h
   obtain⟨rs,kM,t1,t2,t3⟩:=trace h (mP.st o .skip)
   exact⟨.skip::rs,kM,⟨hg,t1⟩,t2,t3⟩
  simp only[ii] at h
  split at h
  · rename_i hg
    exact run he (fun j b hb=>by rw[hg] at hb;cases hb) h
  · rename_i j b hg
    split at h
    case h_1=>cases h
    rename_i d a pJ
    obtain⟨og,ho,xH,hl⟩:=Mf pJ
    rw[←he.sl] at hl
    split at h
    · rename_i c K g
      have pA:∀c',c=c'→oY σ (iq aJ d c' K g):=fun c' hc=>by
       subst hc
       exact⟨fun t=>by
        show _=aq ((d,_)::aJ.sl) t
        rw[JV (by rw[←he.sl];exact hl)]
        exact he.sl t,he.ob,he.nx,he.lk⟩
      have fc:c=b→∀j' b',o.guard=some (j',b')→∃og d K g,ops[j']? =some og∧og.dst=some d∧aq σ.sl d=some (.c (.one (.v .bool b' K g))):=fun qT j' b' hb=>by
       rw[hg] at hb
       cases hb
       exact⟨og,d,K,g,ho,xH,by rw[hl,qT]⟩
      have Sx:c=(!b)→∃j b og d a,o.guard=some (j,b)∧ops[j]? =some og∧og.dst=some d∧aq σ.sl d=some a∧((∃K g,a= .c (.one (.v .bool (!b) K g)))∨a= .c (.one .undef)):=fun qT=>
       ⟨j,b,og,d,_,hg,ho,xH,hl,.inl ⟨K,g,by rw[qT]⟩⟩
      rcases BZ h with⟨hc,h⟩|⟨hc,h⟩
      · cases b with
        |true=>exact run (pA true hc) (fc hc) h
        |false=>exact pass (pA true hc) (Sx hc) h
      · cases b with
        |true=>exact pass (pA false hc) (Sx hc) h
        |false=>exact run (pA false hc) (fc hc) h
    · split at h
      case isFalse=>cases h
      rename_i hu
      have ha:a= .c (.one .undef):=by
       unfold Ka at hu
       split at hu
       · rfl
       · cases hu
      exact pass he ⟨j,b,og,d,a,hg,ho,xH,hl,.inr ha⟩ h
def gA(l:List Oper)(rs:List (RS D))(q:Nat):List (Nat×AV D):=match l[q]?,rs[q]? with
 |some o,some x=>gS o x
 |_,_=>[]
def gB(rs:List (RS D))(q:Nat):List (Nat×Option (AO D)):=match rs[q]? with
 |some x=>gO x
 |none=>[]
theorem ag2{l:List Oper}{rs:List (RS D)}{q:Nat}{o:Oper}{x:RS D}(h:l[q]? =some o)(hx:rs[q]? =some x):gA l rs q=gS o x:=by simp[gA,h,hx]
theorem ag1{rs:List (RS D)}{q:Nat}{x:RS D}(hx:rs[q]? =some x):gB rs q=gO x:=by simp[gB,hx]
theorem FZ{l:List Oper}{rs:List (RS D)}{q t:Nat}(h:t∈(gA l rs q).map Prod.fst):∃o,l[q]? =some o∧o.dst=some t:=by
 unfold gA at h
 split at h
 · rename_i o x ho hx
   exact⟨o,ho,agZ.1 h⟩
 · simp at h
theorem FY{rs:List (RS D)}{q i:Nat}(h:i∈(gB rs q).map Prod.fst):∃e l,rs[q]? =some (.run e l)∧i∈e.wr:=by
 unfold gB at h
 split at h
 · rename_i x hx
   cases x with
   |run e l=>exact⟨e,l,hx,ag0 h⟩
   |skip=>simp[gO] at h
 · simp at h
theorem XI{ops:List Oper}:∀{l:List Oper} {rs:List (RS D)} {σ:S D},Tr T Φ ops l rs σ→rs.length=l.length
 |[],[],_,_=>rfl
 |_::_,_::_,_,h=>by simp[XI h.2]
 |[],_::_,_,h=>h.elim
 |_::_,[],_,h=>h.elim
theorem NX{ops:List Oper}:∀{l:List Oper} {rs:List (RS D)} {σ:S D},Tr T Φ ops l rs σ→∀{i:Nat} {o:Oper} {x:RS D},l[i]? =some o→rs[i]? =some x→
  XS T Φ ops ⟨acc (gA l rs) σ.sl (fun _=>true) i,acc (gB rs) σ.ob (fun _=>true) i,σ.nx+64*i,σ.lk⟩ o x
 |[],[],_,_,i,o,x,hi,_=>by simp at hi
 |o'::l,x'::rs,σ,h,0,o,x,hi,hx=>by
  have e1:o'=o:=by simpa using hi
  have e2:x'=x:=by simpa using hx
  subst e1 e2
  exact h.1
 |o'::l,x'::rs,σ,h,i+1,o,x,hi,hx=>by
  have:=NX h.2 (i:=i) (o:=o) (x:=x) (by simpa using hi) (by simpa using hx)
  rw[Cy,Cy,show σ.nx+64*(i+1)=σ.nx+64+64*i from by omega]
  exact this
 |[],_::_,_,h,_,_,_,_,_=>h.elim
 |_::_,[],_,h,_,_,_,_,_=>h.elim
theorem PX{ops:List Oper}:∀{l:List Oper} {rs:List (RS D)} {σ:S D},Tr T Φ ops l rs σ→runT l rs σ=⟨acc (gA l rs) σ.sl (fun _=>true) l.length,acc (gB rs) σ.ob (fun _=>true) l.length,σ.nx+64*l.length,σ.lk⟩
 |[],[],_,_=>rfl
 |o::l,x::rs,σ,h=>by
  simp only[runT,List.length_cons]
  rw[PX h.2,Cy,Cy,show σ.nx+64*(l.length+1)=σ.nx+64+64*l.length from by omega]
  rfl
 |[],_::_,_,h=>h.elim
 |_::_,[],_,h=>h.elim
theorem J1{an:List Nat}:∀{rs:List (RS D)} {p:Nat} {lg:List Lg},tX an (tY rs p lg)=true→
  tX an lg=true∧(∀j e l,rs[j]? =some (.run e l)→∀b∈lg,bit (an.getD (p+j) 0) b.i=true∨xe ⟨p+j,l.reverse,e.wr⟩ b=true)∧
  ∀i j e l e' l',i<j→rs[i]? =some (.run e l)→rs[j]? =some (.run e' l')→bit (an.getD (p+j) 0) (p+i)=true∨xe ⟨p+j,l'.reverse,e'.wr⟩ ⟨p+i,l.reverse,e.wr⟩=true
 |[],p,lg,h=>⟨h,fun j e l hj=>by simp at hj,fun i j e l e' l' _ hi=>by simp at hi⟩
 | .skip::rs,p,lg,h=>by
   obtain⟨h1,h2,h3⟩:=J1 (rs:=rs) (p:=p+1) (lg:=lg) h
   refine⟨h1,fun j e l hj b hb=> ?_,fun i j e l e' l' dQ hi hj=> ?_⟩
   · cases j with
     |zero=>simp at hj
     |succ j=>
      have:=h2 j e l (by simpa using hj) b hb
      rw[show p+(j+1)=p+1+j from by omega]
      exact this
   · cases i with
     |zero=>simp at hi
     |succ i=>
      cases j with
      |zero=>omega
      |succ j=>
       have:=h3 i j e l e' l' (by omega) (by simpa using hi) (by simpa using hj)
       rw[show p+(j+1)=p+1+j from by omega,show p+(i+1)=p+1+i from by omega]
       exact this
 | .run e0 l0::rs,p,lg,h=>by
   obtain⟨h1,h2,h3⟩:=J1 (rs:=rs) (p:=p+1) (lg:=⟨p,l0.reverse,e0.wr⟩::lg) h
   simp only[tX,Bool.and_eq_true,List.all_eq_true,Bool.or_eq_true] at h1
   refine⟨h1.2,fun j e l hj b hb=> ?_,fun i j e l e' l' dQ hi hj=> ?_⟩
   · cases j with
     |zero=>
      have:RS.run e0 l0= .run e l:=by simpa using hj
      cases this
      exact h1.1 b hb
     |succ j=>
      have:=h2 j e l (by simpa using hj) b (by simp[hb])
      rw[show p+(j+1)=p+1+j from by omega]
      exact this
   · cases j with
     |zero=>omega
     |succ j=>
      rw[show p+(j+1)=p+1+j from by omega]
      cases i with
      |zero=>
       have:RS.run e0 l0= .run e l:=by simpa using hi
       cases this
       exact h2 j e' l' (by simpa using hj) ⟨p,l0.reverse,e0.wr⟩ (by simp)
      |succ i=>
       have:=h3 i j e l e' l' (by omega) (by simpa using hi) (by simpa using hj)
       rw[show p+(i+1)=p+1+i from by omega]
       exact this
theorem IH{ops:List Oper}{an:List Nat}:∀{r:List Oper} {j:Nat} {seen:List (Nat×Oper)},vW ops an j r seen=true→
  (∀q b,r[q]? =some b→(∀s∈seen,bit (an.getD (j+q) 0) s.1=true∨apart ops s.2 b=true)∧∀e∈b.after.toList,Region.binds .any e=true→e.on<j+q)∧
  ∀p q a b,p<q→r[p]? =some a→r[q]? =some b→bit (an.getD (j+q) 0) (j+p)=true∨apart ops a b=true
 |[],j,seen,h=>⟨fun q b hq=>by simp at hq,fun p q a b _ hp=>by simp at hp⟩
 |o::r,j,seen,h=>by
  simp only[vW,Bool.and_eq_true,List.all_eq_true,Bool.or_eq_true] at h
  obtain⟨⟨h1,h2⟩,h3⟩:=h
  obtain⟨k1,k2⟩:=IH (r:=r) (j:=j+1) (seen:=(j,o)::seen) h3
  refine⟨fun q b hq=> ?_,fun p q a b iP hp hq=> ?_⟩
  · cases q with
    |zero=>
     have e:o=b:=by simpa using hq
     subst e
     refine⟨h1,fun e he hb=> ?_⟩
     rcases h2 e he with h4|h4
     · rw[hb] at h4;cases h4
     · exact Nat.le_of_ble_eq_true h4
    |succ q=>
     obtain⟨m1,m2⟩:=k1 q b (by simpa using hq)
     rw[show j+(q+1)=j+1+q from by omega]
     exact⟨fun s hs=>m1 s (by simp[hs]),m2⟩
  · cases q with
    |zero=>omega
    |succ q=>
     rw[show j+(q+1)=j+1+q from by omega]
     cases p with
     |zero=>
      have e:o=a:=by simpa using hp
      subst e
      exact(k1 q b (by simpa using hq)).1 (j,o) (by simp)
     |succ p=>
      have:=k2 p q a b (by omega) (by simpa using hp) (by simpa using hq)
      rw[show j+(p+1)=j+1+p from by omega]
      exact this
theorem NI(m i:Nat):bit m i=m.testBit i:=by
 unfold bit
 rw[Nat.testBit_eq_decide_div_mod_eq,Nat.shiftRight_eq_div_pow]
 cases h:Nat.beq (m/2^i% 2) 1 with
 |true=>rw[Nat.eq_of_beq_eq_true h];rfl
 |false=>
  have:¬m/2^i% 2=1:=fun e=>by rw[e] at h;cases h
  simp[this]
theorem XC{f:Nat→Nat}{i:Nat}:∀{es:List Edge} {s:Nat},bit (es.foldl (fun s e=>if Region.binds .any e then s|||(1<<<e.on)|||(f e.on) else s) s) i=true→
  bit s i=true∨∃e∈es,Region.binds .any e=true∧(i=e.on∨bit (f e.on) i=true)
 |[],s,h=> .inl h
 |e::es,s,h=>by
  rw[List.foldl_cons] at h
  rcases XC h with h|⟨e',h1,h2⟩
  · split at h
    · rename_i hb
      rw[NI,Nat.testBit_or,Nat.testBit_or,Bool.or_eq_true,Bool.or_eq_true] at h
      rcases h with(h|h)|h
      · exact .inl (by rw[NI];exact h)
      · refine .inr ⟨e,by simp,hb,.inl ?_⟩
        rw[Nat.one_shiftLeft,Nat.testBit_two_pow] at h
        exact(of_decide_eq_true h).symm
      · exact .inr ⟨e,by simp,hb,.inr (by rw[NI];exact h)⟩
    · exact .inl h
  · exact .inr ⟨e',by simp[h1],h2⟩
theorem Xz:∀{l:List Oper} {acc:List Nat},∃s,gI l acc=acc.reverse++s
 |[],acc=>⟨[],by simp[gI]⟩
 |o::r,acc=>by
  obtain⟨s,h⟩:=Xz (l:=r) (acc:=vA acc o::acc)
  exact⟨vA acc o::s,by simp only[gI];rw[h];simp⟩
theorem XA:∀{l:List Oper} {acc:List Nat} {q:Nat} {o:Oper},l[q]? =some o→∃m,gI l acc=m++(gI l acc).drop (acc.length+q)∧m.length=acc.length+q∧(gI l acc)[acc.length+q]? =some (vA m.reverse o)
 |[],acc,q,o,h=>by simp at h
 |o'::r,acc,0,o,h=>by
  have e:o'=o:=by simpa using h
  subst e
  obtain⟨s,h⟩:=Xz (l:=r) (acc:=vA acc o'::acc)
  refine⟨acc.reverse, ?_,by simp, ?_⟩
  · simp only[gI]
    rw[h]
    simp
  · simp only[gI]
    rw[h]
    simp
 |o'::r,acc,q+1,o,h=>by
  obtain⟨m,h1,h2,h3⟩:=XA (l:=r) (acc:=vA acc o'::acc) (q:=q) (o:=o) (by simpa using h)
  simp only[List.length_cons] at h1 h2 h3
  rw[show acc.length+1+q=acc.length+(q+1) from by omega] at h1 h2 h3
  exact⟨m,h1,h2,h3⟩
theorem XB{l:List Oper}{q i:Nat}{o:Oper}(h:l[q]? =some o)(hb:bit ((gI l []).getD q 0) i=true):∃e∈o.after.toList,Region.binds .any e=true∧(i=e.on∨bit ((gI l []).getD e.on 0) i=true):=by
 obtain⟨m,h1,h2,h3⟩:=XA (acc:=[]) h
 simp only[List.length_nil,Nat.zero_add] at h1 h2 h3
 rw[List.getD_eq_getElem?_getD,h3] at hb
 simp only[Option.getD_some] at hb
 unfold vA at hb
 rcases XC (f:=fun x=>m.reverse.reverse.getD x 0) hb with hb|⟨e,k1,k2,k3⟩
 · simp[bit] at hb
 · refine⟨e,k1,k2, ?_⟩
   rcases k3 with k3|k3
   · exact .inl k3
   · right
     rw[List.reverse_reverse] at k3
     rw[h1]
     by_cases aQ:e.on<m.length
     · rw[List.getD_eq_getElem?_getD,List.getElem?_append_left aQ,←List.getD_eq_getElem?_getD]
       exact k3
     · rw[List.getD_eq_getElem?_getD,List.getElem?_eq_none (by omega)] at k3
       simp[bit] at k3
theorem Q.alz{α:Type}{ob bI:List (Nat×Option (AO D))}:∀{q:Q D α} {l:List Nat} {a:α},(∀i∈l,aq ob i=aq bI i)→Q.R ob q l a→Q.R bI q l a:=by
 intro q
 induction q with
 |ret b=>intro l a _ h;exact h
 |fail=>intro l a _ h;exact h
 |obj i f ih=>
  intro l a he h
  obtain⟨x,l',h1,rfl,h2⟩:=h
  refine⟨x,l', ?_,rfl,ih x (fun i hi=>he i (by simp[hi])) h2⟩
  unfold cz at h1⊢
  rw[←he i (by simp)]
  exact h1
 |part o f ih=>
  intro l a he h
  obtain⟨y,h1,h2⟩:=h
  exact⟨y,h1,ih y he h2⟩
def UD(D:Nat→Bool)(nx N:Nat):Nat→Prop:=fun i=>i<nx∨∃q,q<N∧D q=true∧nx+64*q≤i∧i<nx+64*q+64
theorem XH{Dn:Nat→Bool}{nx N p:Nat}(hp:p<N):fW (UD Dn nx N) (nx+64*p)=UD (ins Dn p) nx N:=by
 funext i
 apply propext
 unfold fW UD
 constructor
 · rintro((h|⟨q,h1,h2,h3⟩)|h)
   · exact .inl h
   · exact .inr ⟨q,h1,by simp[ins,h2],h3⟩
   · exact .inr ⟨p,hp,RJ _ _,h⟩
 · rintro(h|⟨q,h1,h2,h3⟩)
   · exact .inl (.inl h)
   · by_cases hq:q=p
     · subst hq
       exact .inr h3
     · rw[AI hq] at h2
       exact .inl (.inr ⟨q,h1,h2,h3⟩)
structure Dr(l:List Oper)(rs:List (RS D))(σ:S D)(fa:Gh D)(w0:World)(Dn:Nat→Bool)(γ:Gh D)(w:World)(L:List (Nat×Value)):Prop where
 sr:SR (UD Dn σ.nx l.length) γ w (acc (gA l rs) σ.sl Dn l.length) L
 ob:OB (UD Dn σ.nx l.length) γ w (acc (gB rs) σ.ob Dn l.length)
 fr:Frame fa w0 γ w
 cl:∀q o,Dn q=true→l[q]? =some o→∀e∈o.after.toList,Region.binds .any e=true→Dn e.on=true
 bS:2000≤σ.nx
theorem SR.eqv{U:Nat→Prop}{γ:Gh D}{w:World}{sl wi:List (Nat×AV D)}{L:List (Nat×Value)}(h:SR U γ w sl L)(he:∀t,aq wi t=aq sl t):SR U γ w wi L:=fun t a ha=>h t a (by rw[←he];exact ha)
theorem OB.eqv{U:Nat→Prop}{γ:Gh D}{w:World}{ob bI:List (Nat×Option (AO D))}(h:OB U γ w ob)(he:∀t,aq bI t=aq ob t):OB U γ w bI:=
 ⟨fun i x hx=>h.ob i x (by unfold cz at hx⊢;rw[←he];exact hx),h.cl,h.ro⟩
theorem bx.of{wr:List Nat}{σ aJ:S D}(h1:∀t,t∉wr→aq aJ.sl t=aq σ.sl t)(h2:aJ.lk=σ.lk)(h3:∀i∈σ.lk,aq aJ.ob i=aq σ.ob i)(h4:σ.nx≤aJ.nx):bx wr σ aJ:=⟨h1,h2,h3,h4⟩
theorem Xy{ops:List Oper}{a b:Oper}{d:Nat}(h:apart ops a b=true)(hd:a.dst=some d):d∉tmpsOf ops b∧b.dst≠some d:=by
 unfold apart at h
 rw[hd] at h
 simp only[Bool.and_eq_true,Bool.not_eq_true'] at h
 refine⟨kj h.1,fun hb=> ?_⟩
 rw[hb] at h
 simp at h
theorem alm{ops:List Oper}{a b:Oper}{d:Nat}(h:apart ops a b=true)(hd:b.dst=some d):d∉tmpsOf ops a:=by
 unfold apart at h
 rw[hd] at h
 split at h
 · simp only[Bool.not_eq_true'] at h
   exact kj h
 · simp only[Bool.and_eq_true,Bool.not_eq_true'] at h
   exact kj h.2.2
theorem ZE{ops:List Oper}{o:Oper}{t:Nat}(h:Operand.tmp t∈o.op.operands.toList):t∈tmpsOf ops o:=by
 unfold tmpsOf
 exact List.mem_append.2 (.inl (List.mem_filterMap.2 ⟨.tmp t,h,rfl⟩))
theorem ZF{ops:List Oper}{o og:Oper}{j d:Nat}{b:Bool}(h:o.guard=some (j,b))(ho:ops[j]? =some og)(hd:og.dst=some d):d∈tmpsOf ops o:=by
 unfold tmpsOf
 refine List.mem_append.2 (.inr ?_)
 simp[h,ho,hd]
section
variable (hP:dg P T) (hR:bR T) (cH:∀c∈Φ,il P T c)
include hP hR cH
theorem Dr.step [Rd]{l:List Oper}{rs:List (RS D)}{σ:S D}{fa γ:Gh D}{w0 w:World}{Dn:Nat→Bool}{L:List (Nat×Value)}{Qx:Exit→Act→World→Prop}(h:Dr l rs σ fa w0 Dn γ w L)(hT:Tr T Φ l l rs σ)(hs:vW l (gI l []) 0 l []=true)(hl:tX (gI l []) (tY rs 0 [])=true)
  {p:Nat} {o:Oper} {x:RS D} (hp:l[p]? =some o) (hx:rs[p]? =some x) (hD:Dn p=false) (hr:∀e∈o.after.toList,Region.binds .any e=true→Dn e.on=true):
  match x with
  | .run e l'=>(∀a,Fr n L a→Region.wanted o (yielded l.toArray a.tmps)=true)∧OW P Qx L o w (fun v w'=>∃γ',Dr l rs σ fa w0 (ins Dn p) γ' w' (mz o.dst v L))
  | .skip=>(∀a,Fr n L a→Region.wanted o (yielded l.toArray a.tmps)=false)∧Dr l rs σ fa w0 (ins Dn p) γ w (mz o.dst undef L):=by
 have k9:p<l.length:=(List.getElem?_eq_some_iff.1 hp).1
 obtain⟨s1,s2⟩:=IH hs
 obtain⟨_,_,g3⟩:=J1 hl
 simp only[Nat.zero_add] at s1 s2 g3
 have down:∀q,Dn q=true→∀i,bit ((gI l []).getD q 0) i=true→Dn i=true:=by
  intro q
  induction q using Nat.strongRecOn with
  |_ q ih=>
   intro hq i hi
   by_cases A3:q<l.length
   · obtain⟨e,k1,k2,k3⟩:=XB (List.getElem?_eq_getElem A3) hi
     have oA:=h.cl q _ hq (List.getElem?_eq_getElem A3) e k1 k2
     rcases k3 with rfl|k3
     · exact oA
     · exact ih e.on ((s1 q _ (List.getElem?_eq_getElem A3)).2 e k1 k2) oA i k3
   · exfalso
     have hlen:(gI l []).length≤q:=by
      have:∀{l:List Oper} {acc:List Nat},(gI l acc).length=acc.length+l.length:=by
       intro l
       induction l with
       |nil=>intro acc;simp[gI]
       |cons o r ih=>intro acc;simp only[gI];rw[ih];simp;omega
      rw[this]
      simp
      omega
     rw[List.getD_eq_getElem?_getD,List.getElem?_eq_none hlen] at hi
     simp[bit] at hi
 have O_:∀i,bit ((gI l []).getD p 0) i=true→Dn i=true:=fun i hi=>by
  obtain⟨e,k1,k2,k3⟩:=XB hp hi
  rcases k3 with rfl|k3
  · exact hr e k1 k2
  · exact down e.on (hr e k1 k2) i k3
 have Fa:∀q,Dn q=true→¬bit ((gI l []).getD q 0) p=true:=fun q hq hb=>by
  rw[down q hq p hb] at hD
  cases hD
 have be:∀q,Dn q=true→q≠p:=fun q hq e=>by subst e;rw[hq] at hD;cases hD
 have Ft:∀t∈tmpsOf l o,aq (acc (gA l rs) σ.sl Dn l.length) t=aq (acc (gA l rs) σ.sl (fun _=>true) p) t:=by
  intro t ht
  rw[XE (Nat.le_of_lt k9)]
  refine yL fun q hq hm=> ?_
  obtain⟨oq,Fm,FB⟩:=FZ hm
  rcases Nat.lt_trichotomy q p with k8|rfl|k8
  · have:Nat.blt q p=true:=Nat.ble_eq_true_of_le k8
    rw[this]
    rcases s2 q p oq o k8 Fm hp with hb|hb
    · exact O_ q hb
    · exact((Xy hb FB).1 ht).elim
  · rw[hD]
    cases hb:Nat.blt q q with
    |true=>have:=Nat.le_of_ble_eq_true hb;omega
    |false=>rfl
  · have:Nat.blt q p=false:=by
     cases hb:Nat.blt q p with
     |true=>have:=Nat.le_of_ble_eq_true hb;omega
     |false=>rfl
    rw[this]
    cases Mc:Dn q with
    |false=>rfl
    |true=>
     rcases s2 p q o oq k8 hp Fm with hb|hb
     · exact(Fa q Mc hb).elim
     · exact(alm hb FB ht).elim
 have SS:∀t,aq (acc (gA l rs) σ.sl (ins Dn p) l.length) t=aq (gS o x++acc (gA l rs) σ.sl Dn l.length) t:=by
  rw[←ag2 hp hx]
  refine XG k9 hD fun t ht q h1 h2 h3 hm=> ?_
  obtain⟨oq,Fm,FB⟩:=FZ hm
  obtain⟨o',ld,qQ⟩:=FZ ht
  rw[hp] at ld
  cases ld
  rcases s2 p q o oq h1 hp Fm with hb|hb
  · exact Fa q h3 hb
  · exact(Xy hb qQ).2 FB
 have SU:∀t,aq (acc (gB rs) σ.ob (ins Dn p) l.length) t=aq (gO x++acc (gB rs) σ.ob Dn l.length) t:=by
  rw[←ag1 hx]
  refine XG k9 hD fun t ht q h1 h2 h3 hm=> ?_
  obtain⟨e',l2,Fi,eX⟩:=FY hm
  obtain⟨e1,l1,Su,uj⟩:=FY ht
  rcases g3 p q _ _ _ _ h1 Su Fi with hb|hb
  · exact Fa q h3 hb
  · simp only[xe,Bool.and_eq_true] at hb
    exact pX hb.2 eX uj
 have cg:∀q o',ins Dn p q=true→l[q]? =some o'→∀e∈o'.after.toList,Region.binds .any e=true→ins Dn p e.on=true:=by
  intro q o' hq ld e he hb
  have:Dn e.on=true:=by
   by_cases k8:q=p
   · subst k8
     rw[hp] at ld
     cases ld
     exact hr e he hb
   · rw[AI k8] at hq
     exact h.cl q o' hq ld e he hb
  simp[ins,this]
 have TA:=NX hT hp hx
 have SY:∀(j d:Nat) (b:Bool) (og:Oper) (av:AV D),o.guard=some (j,b)→l[j]? =some og→og.dst=some d→aq (acc (gA l rs) σ.sl (fun _=>true) p) d=some av→∃v,Dp.look L d=some v∧eP (UD Dn σ.nx l.length) γ w av v:=by
  intro j d b og av hg ho hd hl
  exact h.sr d av (by rw[Ft d (ZF hg ho hd)];exact hl)
 cases x with
 |run e l'=>
  obtain⟨hg,as,he,hq,xG⟩:=TA
  dsimp only at hg he hq xG
  refine⟨fun a ha=> ?_, ?_⟩
  · cases pJ:o.guard with
    |none=>simp[Region.wanted,pJ]
    |some jb=>
     obtain⟨j,b⟩:=jb
     obtain⟨og,d,K,g,h1,h2,h3⟩:=hg j b pJ
     obtain⟨v,rX,iM⟩:=SY j d b og _ pJ h1 h2 h3
     have iM:v= .bool b:=iM.1
     subst iM
     simp[Region.wanted,pJ,Il ha h1 h2 rX]
  · have iC:dt (acc (gA l rs) σ.sl Dn l.length) o.op.operands.toList=some as:=by
     rw[Mz fun t ht=>Ft t (ZE ht)]
     exact he
    have oz:Q.R (acc (gB rs) σ.ob Dn l.length) (tP T Φ (σ.nx+64*p) o.op as) l' e:=by
     refine Q.alz (fun i hi=> ?_) hq
     rw[XE (Nat.le_of_lt k9)]
     refine yL fun q hq hm=> ?_
     obtain⟨e',l2,Fi,eX⟩:=FY hm
     rcases Nat.lt_trichotomy q p with k8|rfl|k8
     · have:Nat.blt q p=true:=Nat.ble_eq_true_of_le k8
       rw[this]
       rcases g3 q p _ _ _ _ k8 Fi hx with hb|hb
       · exact(O_ q hb).symm
       · simp only[xe,Bool.and_eq_true] at hb
         exact(pX hb.1.2 eX (by simpa using hi)).elim
     · rw[hD]
       cases hb:Nat.blt q q with
       |true=>have:=Nat.le_of_ble_eq_true hb;omega
       |false=>rfl
     · have:Nat.blt q p=false:=by
        cases hb:Nat.blt q p with
        |true=>have:=Nat.le_of_ble_eq_true hb;omega
        |false=>rfl
       rw[this]
       cases Mc:Dn q with
       |false=>rfl
       |true=>
        rcases g3 p q _ _ _ _ k8 hx Fi with hb|hb
        · exact(Fa q Mc hb).elim
        · simp only[xe,Bool.and_eq_true] at hb
          exact(pX hb.1.1 eX (by simpa using hi)).elim
    have hcx:Cx (UD Dn σ.nx l.length) (σ.nx+64*p) γ w (acc (gA l rs) σ.sl Dn l.length) L (acc (gB rs) σ.ob Dn l.length):=by
     refine⟨h.sr,h.ob,fun i h1 h2 h3=> ?_,by have:=h.bS;omega⟩
     rcases h3 with h3|⟨q,k1,k2,k3,k4⟩
     · omega
     · have:=be q k2
       omega
    have:=QL (Qx:=Qx) (d:=o.dst) (ty:=o.type) (pos:=o.pos) (af:=o.after) (gd:=o.guard) hP hR cH hcx iC oz
    refine OW.mono this ?_
    rintro v w' ⟨γ',kz⟩
    have dY:=kz.kp
    have uN:=kz.dst
    have bb:=kz.ob
    rw[XH k9] at dY uN bb
    refine⟨γ',⟨SR.eqv ?_ SS,OB.eqv bb fun t=>by rw[SU];rfl,h.fr.trans kz.fr,cg,h.bS⟩⟩
    show SR _ γ' w' (dl o.dst e.dst++_) _
    cases hd:o.dst with
    |none=>exact h.sr.cp dY
    |some t=>exact(h.sr.cp dY).cons uN
 |skip=>
  obtain⟨j,b,og,d,av,hg,h1,h2,h3,h4⟩:=TA
  obtain⟨v,rX,iM⟩:=SY j d b og _ hg h1 h2 h3
  refine⟨fun a ha=> ?_, ?_⟩
  · rcases h4 with⟨K,g,rfl⟩|rfl
    · have iM:v= .bool (!b):=iM.1
      subst iM
      cases b<;>simp[Region.wanted,hg,Il ha h1 h2 rX]
    · have iM:v=undef:=iM
      subst iM
      simp[Region.wanted,hg,O0 ha h1 h2 rX]
  · have dY:fx (UD Dn σ.nx l.length) (UD (ins Dn p) σ.nx l.length) γ w γ w:=⟨fun i hi=>by
     rw[←XH k9]
     exact .inl hi,fun _ _=>rfl,fun _ _=>rfl,fun _ _ _=>⟨rfl,rfl⟩⟩
    refine⟨SR.eqv ?_ SS,OB.eqv ⟨fun i x hx=> ?_,fun b hb=>dY.u _ (h.ob.cl b hb),fun x hx=>dY.u _ (h.ob.ro x hx)⟩ SU,h.fr,cg,h.bS⟩
    · show SR _ γ w (dl o.dst _++_) _
      cases hd:o.dst with
      |none=>exact h.sr.cp dY
      |some t=>exact(h.sr.cp dY).cons rfl
    · obtain⟨h1,h2,h3⟩:=h.ob.ob i x hx
      exact⟨h1,dY.u _ h2,h3.cp dY h2 fun _ _ _=>⟨rfl,rfl⟩⟩
end
theorem filter_lt{p q:Nat→Bool}(h:∀x,q x=true→p x=true){i:Nat}(hp:p i=true)(hq:q i=false):∀{l:List Nat},i∈l→(l.filter q).length<(l.filter p).length
 |[],hi=>by cases hi
 |x::l,hi=>by
  have hle:(l.filter q).length≤(l.filter p).length:=by
   clear hi
   induction l with
   |nil=>simp
   |cons y l ih=>
    by_cases hy:q y=true
    · rw[List.filter_cons_of_pos hy,List.filter_cons_of_pos (h y hy)]
      simpa using ih
    · rw[List.filter_cons_of_neg hy]
      by_cases en:p y=true
      · rw[List.filter_cons_of_pos en]
        simp
        omega
      · rw[List.filter_cons_of_neg en]
        exact ih
  by_cases hx:x=i
  · subst hx
    rw[List.filter_cons_of_neg (by simp[hq]),List.filter_cons_of_pos hp]
    simp
    omega
  · have je:i∈l:=by
     rcases List.mem_cons.1 hi with e|hh
     · exact(hx e.symm).elim
     · exact hh
    have ih:=filter_lt h hp hq je
    by_cases hy:q x=true
    · rw[List.filter_cons_of_pos hy,List.filter_cons_of_pos (h x hy)]
      simpa using ih
    · rw[List.filter_cons_of_neg hy]
      by_cases en:p x=true
      · rw[List.filter_cons_of_pos en]
        simp
        omega
      · rw[List.filter_cons_of_neg en]
        exact ih
section
variable (hP:dg P T) (hR:bR T) (cH:∀c∈Φ,il P T c) (hm:P.follows .mixedOrders=true)
include hP hR cH hm
theorem aln [I:Rd]{id:Nat}{ops:List Oper}{ρ:Type}{σ:S D}{k:S D→Option ρ}{r:ρ}{γ:Gh D}{w:World}{L:List (Nat×Value)}{Qx:Exit→Act→World→Prop}(hs:vW ops (gI ops []) 0 ops []=true)
  (h:ii T Φ ops ops 0 σ [] (fun aJ lg=>match tX (gI ops []) lg with
    |true=>k aJ
    |false=>none)=some r) (hd:∀t∈dstsOf ops,I.fp n t=true) (hk:Kn σ γ w L)
  (hc:∀aJ γ' w' L',Kn aJ γ' w' L'→Frame γ w γ' w'→bx (dstsOf ops) σ aJ→k aJ=some r→NK n (Qx .normal) L' w'):CW P n (.region id ops.toArray true) Qx L w:=by
 obtain⟨rs,kM,hT,gX,iy⟩:=trace h (oY.mk (fun _=>rfl) rfl rfl rfl)
 split at iy
 case h_2=>cases iy
 rename_i hl
 have hlen:=XI hT
 rw[PX hT] at gX
 intro a ha
 refine wpIn_region_any hm ?_
 have fin:∀(Dn:Nat→Bool) (γ':Gh D) (w':World) (L':List (Nat×Value)) (a':Act),Dr ops rs σ γ w Dn γ' w' L'→Fr n L' a'→(∀i,i<ops.length→Dn i=true)→Qx .normal a' w':=by
  intro Dn γ' w' L' a' sp cJ iF
  have hU:UD Dn σ.nx ops.length=fun i=>i<kM.nx:=by
   rw[←gX.nx]
   funext i
   apply propext
   show UD Dn σ.nx ops.length i↔i<σ.nx+64*ops.length
   unfold UD
   constructor
   · rintro(h|⟨q,h1,h2,h3,h4⟩)<;>omega
   · intro h
     by_cases h0:i<σ.nx
     · exact .inl h0
     · exact .inr ⟨(i-σ.nx)/64,by omega,iF _ (by omega),by omega,by omega⟩
  have iN:=sp.sr
  have bb:=sp.ob
  rw[hU] at iN bb
  rw[NU (D':=fun _=>true) fun q hq=>iF q hq] at iN bb
  have l7:=sp.bS
  have sf:=gX.nx
  dsimp only at sf
  refine hc kM γ' w' L' ⟨iN.eqv fun t=>(gX.sl t).symm, ?_,by omega⟩ sp.fr (bx.of (fun t ht=> ?_) gX.lk.symm (fun i hi=> ?_) (by omega)) iy a' cJ
  · rw[←gX.ob]
    exact bb
  · rw[←gX.sl]
    show aq (acc (gA ops rs) σ.sl (fun _=>true) ops.length) t=_
    have:aq (acc (gA ops rs) σ.sl (fun _=>true) ops.length) t=aq (acc (gA ops rs) σ.sl (fun _=>false) ops.length) t:=yL fun q hq hm=>by
     obtain⟨o,ho,qQ⟩:=FZ hm
     exact(ht (List.mem_filterMap.2 ⟨o,List.mem_of_getElem? ho,qQ⟩)).elim
    rw[this]
    have:=Cw (g:=gA ops rs) (l0:=σ.sl) (D:=fun _=>false) (n:=0) (k:=ops.length) fun _ _=>rfl
    rw[Nat.zero_add] at this
    rw[this]
    rfl
  · rw[←gX.ob]
    show aq (acc (gB rs) σ.ob (fun _=>true) ops.length) i=_
    have:aq (acc (gB rs) σ.ob (fun _=>true) ops.length) i=aq (acc (gB rs) σ.ob (fun _=>false) ops.length) i:=yL fun q hq hm=>by
     obtain⟨e,l,hx,hw⟩:=FY hm
     obtain⟨_,as,_,_,xG⟩:=NX hT (List.getElem?_eq_getElem hq) hx
     unfold xS at xG
     simp only[Bool.and_eq_true] at xG
     unfold bX.wr at hw
     rcases List.mem_append.1 hw with hw|hw
     · exact(pX xG.1 hw hi).elim
     · exact(pX xG.2 hw hi).elim
    rw[this]
    have:=Cw (g:=gB rs) (l0:=σ.ob) (D:=fun _=>false) (n:=0) (k:=ops.length) fun _ _=>rfl
    rw[Nat.zero_add] at this
    rw[this]
    rfl
 have ahU:∀q (hq:q<ops.length),∀e∈(ops[q]).after.toList,Region.binds .any e=true→e.on<q:=fun q hq e he hb=>by
  have:=(IH hs).1 q _ (List.getElem?_eq_getElem hq)
  simp only[Nat.zero_add] at this
  exact this.2 e he hb
 have Sp:∀(bC:Array Bool),Region.ready .any ops.toArray bC=[]→bC.size=ops.length→∀i,i<ops.length→bC.getD i false=true:=by
  intro bC hr dy i
  induction i using Nat.strongRecOn with
  |_ i ih=>
   intro hi
   cases ny:bC.getD i false with
   |true=>rfl
   |false=>
    exfalso
    have fh:i∈Region.ready .any ops.toArray bC:=by
     have hb:i<bC.size:=by omega
     refine mem_ready.2 ⟨?_,ops[i],by simp[hi],fun e he hbn=> ?_⟩
     · simp[Array.getD,hb] at ny⊢
       exact ny
     · have h3:=ahU i hi e (by simpa using he) hbn
       exact ih e.on h3 (by omega)
    rw[hr] at fh
    cases fh
 have main:∀(gz:Nat) (bC:Array Bool) (a:Act) (w':World) (γ':Gh D) (L':List (Nat×Value)),bC.size=ops.length→((List.range ops.length).filter fun i=> !bC.getD i true).length≤gz→
   Dr ops rs σ γ w (fun j=>bC.getD j false) γ' w' L'→Fr n L' a→wpAnyIn I.F 0 P .any ops.toArray Qx gz bC a w':=by
  intro gz
  induction gz with
  |zero=>
   intro bC a w' γ' L' dy afQ hJ hf
   have hr:Region.ready .any ops.toArray bC=[]:=by
    refine List.eq_nil_iff_forall_not_mem.2 fun i hi=> ?_
    obtain⟨h1,o,h2,_⟩:=mem_ready.1 hi
    have uG:i<ops.length:=by simpa using(Array.getElem?_eq_some_iff.1 h2).1
    have fh:i∈(List.range ops.length).filter fun i=> !bC.getD i true:=List.mem_filter.2 ⟨List.mem_range.2 uG,by simp only[h1];rfl⟩
    have:=List.length_pos_of_mem fh
    omega
   exact⟨hr,fin _ _ _ _ _ hJ hf (Sp bC hr dy)⟩
  |succ gz ih=>
   intro bC a w' γ' L' dy afQ hJ hf
   refine⟨fun hr=>fin _ _ _ _ _ hJ hf (Sp bC hr dy),fun i hi=> ?_⟩
   obtain⟨ny,o,uG,haf⟩:=mem_ready.1 hi
   have je:i<ops.length:=by simpa using(Array.getElem?_eq_some_iff.1 uG).1
   have SQ:ops[i]? =some o:=by simpa using uG
   have jW:i<bC.size:=by omega
   have Bd:bC.getD i false=false:=by
    simp[Array.getD,jW] at ny⊢
    exact ny
   have Ks:i<rs.length:=by omega
   have next:∀{aY:Gh D} {w2:World} {L2:List (Nat×Value)} {a2:Act},Dr ops rs σ γ w (ins (fun j=>bC.getD j false) i) aY w2 L2→Fr n L2 a2→wpAnyIn I.F 0 P .any ops.toArray Qx gz (bC.setIfInBounds i true) a2 w2:=by
    intro aY w2 L2 a2 sp cJ
    refine ih (bC.setIfInBounds i true) a2 w2 aY L2 (by simp[dy]) ?_ ?_ cJ
    · have aQ:=filter_lt (p:=fun i=> !bC.getD i true) (q:=fun j=> !(bC.setIfInBounds i true).getD j true) (i:=i) (fun x hx=>by
       by_cases AS:x=i
       · subst AS
         simp[Array.getD,jW] at hx
       · rw[getD_set_ne true (Ne.symm AS)] at hx
         exact hx) (by simp only[ny];rfl) (by simp[Array.getD,jW]) (List.mem_range.2 je)
      omega
    · have e:(fun j=>(bC.setIfInBounds i true).getD j false)=ins (fun j=>bC.getD j false) i:=by
       funext j
       by_cases dZ:j=i
       · subst dZ
         simp[Array.getD,jW,ins]
       · rw[AI dZ]
         exact getD_set_ne false (Ne.symm dZ)
      rw[e]
      exact sp
   have qQ:∀t,o.dst=some t→I.fp n t=true:=fun t ht=>hd t (List.mem_filterMap.2 ⟨o,List.mem_of_getElem? SQ,ht⟩)
   obtain⟨x,hx⟩:∃x,rs[i]? =some x:=⟨_,List.getElem?_eq_getElem Ks⟩
   have hstep:=Dr.step (n:=n) (Qx:=Qx) hP hR cH hJ hT hs hl SQ hx Bd (fun e he hb=>haf e (by simpa using he) hb)
   unfold wpOpIn
   rw[uG]
   simp only
   cases x with
   |run e l'=>
    rw[if_pos (hstep.1 a hf)]
    refine hstep.2 a _ (fun x v hx=>hf.ev hx) ?_
    rintro v w2 ⟨aY,sp⟩
    exact next sp (Fr.mz hf qQ v)
   |skip=>
    rw[if_neg (by rw[hstep.1 a hf];simp)]
    exact⟨fun _ _=>trivial,next hstep.2 (Fr.mz hf qQ undef)⟩
 have fG:∀j,(Array.replicate ops.toArray.size false).getD j false=false:=by
  intro j
  simp[Array.getD]
 have hD0:(fun j=>(Array.replicate ops.toArray.size false).getD j false)=fun _=>false:=funext fG
 refine main _ _ a _ γ L (by simp) ?_ ?_ ha
 · have:=List.length_filter_le (fun i=> !(Array.replicate ops.toArray.size false).getD i true) (List.range ops.length)
   simpa using this
 · rw[hD0]
   have hU:UD (fun _=>false) σ.nx ops.length=fun i=>i<σ.nx:=by
    funext i
    apply propext
    unfold UD
    constructor
    · rintro(h|⟨q,h1,h2,h3⟩)
      · exact h
      · cases h2
    · exact .inl
   have hz:∀{α:Type} {g:Nat→List (Nat×α)} {l0:List (Nat×α)},acc g l0 (fun _=>false) ops.length=l0:=by
    intro α g l0
    have:=Cw (g:=g) (l0:=l0) (D:=fun _=>false) (n:=0) (k:=ops.length) fun _ _=>rfl
    rw[Nat.zero_add] at this
    exact this
   have dY:fx (fun i=>i<σ.nx) (fun i=>i<σ.nx) γ w γ {w with drawn:=w.drawn+1}:=⟨fun _ h=>h,fun _ _=>rfl,fun _ _=>rfl,fun _ _ _=>⟨rfl,rfl⟩⟩
   refine⟨?_, ?_,⟨⟨rfl,rfl,rfl,Nat.le_refl _,fun _ _ _=>⟨rfl,rfl⟩,fun b hb _=>⟨hb,rfl⟩⟩,fun _ _=>rfl⟩,fun q o hq=>(by cases hq),hk.bS⟩
   · rw[hU,hz]
     exact hk.sr.cp dY
   · rw[hU,hz]
     exact⟨fun i x hx=>by
      obtain⟨h1,h2,h3⟩:=hk.ob.ob i x hx
      exact⟨h1,h2,h3.cp dY h2 fun _ _ _=>⟨rfl,rfl⟩⟩,hk.ob.cl,hk.ob.ro⟩
end
end
end Rx
end Go.Proofs.YtaneejpkncdodaaGreat
namespace Go.Proofs.YtaneejpkncdodaaGreat
open Go Go.RowKit Dp
namespace Rx
section
variable {D:Nat→Type} [∀n,ad (D n)]
variable {P:Program} {T:aV D} {Φ:List (au D)} {n:Nat}
def toX:Out→Exit
 | .normal=> .normal
 | .exit id=> .exit id
 | .goto l=> .goto l
 | .ret=> .ret
def xm(l:Nat)(J:Act→World→Prop)(Q:Exit→Act→World→Prop):Exit→Act→World→Prop
 | .goto l',a,w=>if l'=l then J a w else Q (.goto l') a w
 |e,a,w=>Q e a w
def Lb [I:Rd](P:Program)(c:Code)(Qx:Exit→Act→World→Prop):Prop:=∀l b,qq c=some (l,b)→∃Jm:Nat→Act→World→Prop,
 (∀m a w,b.wpIn I.F 0 P (xm l (Jm m) Qx) a w→Jm (m+1) a w)∧∀m a w,Jm m a w→Qx (.goto l) a w
theorem Lb.none [Rd]{c:Code}{Qx:Exit→Act→World→Prop}(h:jt c=true):Lb P c Qx:=by
 intro l b hs
 unfold jt at h
 rw[hs] at h
 cases h
theorem Kc{c:Code}{l:Nat}(h:rT c=some l):c= .label l:=by
 unfold rT at h
 split at h
 · cases h;rfl
 · cases h
theorem acd(l:Nat):∀(c:Code),jt c=true→gr c=true→findLabel c l=none:=by
 intro c
 induction c with
 |seq x y RY Ki=>
  intro h1 h2
  unfold jt at h1
  unfold qq at h1
  unfold gr at h2
  cases hl:rT x with
  |some q=>rw[hl] at h1;cases h1
  |none=>
   rw[hl] at h1 h2
   simp only[Bool.and_eq_true] at h2
   unfold findLabel
   rw[RY h2.1.1 h2.1.2]
   exact Ki h1 h2.2
 |label q=>intro h1 _;cases h1
 |_=>intros;rfl
theorem aao [I:Rd]:∀(c:Code) {l:Nat} {b:Code},qq c=some (l,b)→gr c=true→∃rest,findLabel c l=some rest∧∀(Q:Exit→Act→World→Prop) a w,b.wpIn I.F 0 P Q a w→rest.wpIn I.F 0 P Q a w:=by
 intro c
 induction c with
 |seq x y RY Ki=>
  intro l b h1 h2
  unfold qq at h1
  unfold gr at h2
  cases hl:rT x with
  |some q=>
   rw[hl] at h1
   cases h1
   obtain rfl:=Kc hl
   refine⟨.seq .skip y,by simp[findLabel],fun Q a w h=>wpIn_seq (wpIn_skip h)⟩
  |none=>
   rw[hl] at h1 h2
   simp only[Bool.and_eq_true] at h2
   obtain⟨rest,h3,h4⟩:=Ki h1 h2.2
   refine⟨rest, ?_,h4⟩
   unfold findLabel
   rw[acd l x h2.1.1 h2.1.2]
   exact h3
 |label q=>
  intro l b h1 _
  cases h1
  exact⟨.skip,by simp[findLabel],fun Q a w h=>h⟩
 |_=>intro l b h1;cases h1
def oo [I:Rd](P:Program)(rest:Code)(l:Nat)(Q:Exit→Act→World→Prop):Nat→Act→World→Prop
 |0=>fun _ _=>False
 |m+1=>fun a w=>rest.wpIn I.F 0 P (Exit.jump l (oo P rest l Q m) Q) a w
theorem Rf{σ ρ:Type}(step:σ→Option (σ⊕ρ))(n:Nat)(s:σ):kW step (n+1) s=(match step s with
 |some (.inl s')=>kW step n s'
 |some (.inr r)=>some r
 |none=>none):=rfl
theorem ZZ(l:Nat)(o:Out):iY l (iY l o)=o:=by
 cases o with
 |normal=>simp[iY]
 |exit id=>rfl
 |ret=>rfl
 |goto q=>
  cases hb:Nat.beq q l with
  |true=>
   have:=Nat.eq_of_beq_eq_true hb
   subst this
   simp[iY]
  |false=>simp[iY,hb]
theorem EX{p:Nat→Prop}(h:∃m,p m):∃m,p m∧∀k,k<m→¬p k:=by
 apply Classical.byContradiction
 intro hn
 have key:∀m,¬p m:=by
  intro m
  induction m using Nat.strongRecOn with
  |_ m ih=>exact fun hp=>hn ⟨m,hp,fun k hk=>ih k hk⟩
 obtain⟨m,hm⟩:=h
 exact key m hm
open Classical in
def xf(p:Nat→Prop):Nat:=if h:∃m,p m then(EX h).choose else 0
theorem ac9{p:Nat→Prop}(h:∃m,p m):p (xf p):=by
 unfold xf
 rw[dif_pos h]
 exact(EX h).choose_spec.1
theorem ac_{p:Nat→Prop}{m:Nat}(h:p m):xf p≤m:=by
 have hx:∃m,p m:=⟨m,h⟩
 unfold xf
 rw[dif_pos hx]
 rcases Nat.lt_or_ge m (EX hx).choose with aQ|nB
 · exact((EX hx).choose_spec.2 m aQ h).elim
 · exact nB
theorem Rd.wide{I:Rd}(h:I.ro=none):I.F=Fence.wide:=by unfold Rd.F;rw[h];rfl
theorem aaL [I:Rd](hI:I.ro=none){c rest:Code}{l:Nat}{Q:Exit→Act→World→Prop}{a:Act}{w:World}(hf:findLabel c l=some rest)(first:c.wpIn I.F 0 P (Exit.jump l (fun a w=>∃m,oo P rest l Q m a w) Q) a w):(Code.scope c).wpIn I.F 0 P Q a w:=by
 rw[Rd.wide hI] at first⊢
 rw[wpIn_wide] at first⊢
 refine wp_scope_jumps l (fun a w=>∃m,oo P rest l Q m a w) (fun a w=>xf fun m=>oo P rest l Q m a w) hf first ?_
 intro a w h
 have h1:=ac9 (p:=fun m=>oo P rest l Q m a w) h
 generalize xf (fun m=>oo P rest l Q m a w)=m at*
 cases m with
 |zero=>exact h1.elim
 |succ m=>
  have h1:rest.wpIn I.F 0 P (Exit.jump l (oo P rest l Q m) Q) a w:=h1
  rw[Rd.wide hI,wpIn_wide] at h1
  refine Code.wp_mono (fun e a' w' he=> ?_) h1
  cases e with
  |goto l'=>exact⟨he.1,⟨m,he.2⟩,Nat.lt_succ_of_le (ac_ (p:=fun m=>oo P rest l Q m a' w') he.2)⟩
  |_=>exact he
theorem aaK [I:Rd](hI:I.ro=none){c:Code}{Q:Exit→Act→World→Prop}{a:Act}{w:World}(h:c.wpIn I.F 0 P (Exit.noGoto Q) a w):(Code.scope c).wpIn I.F 0 P Q a w:=by
 rw[Rd.wide hI] at h⊢
 rw[wpIn_wide] at h⊢
 exact wp_scope_straight h
theorem Rg{σ ρ:Type}{step:σ→Option (σ⊕ρ)}:∀{n:Nat} {s:σ} {r:ρ},kW step n s=some r→tU step s=some r
 |0,s,r,h=>by cases h
 |n+1,s,r,h=>by
  have h:(match step s with
   |some (.inl s')=>kW step n s'
   |some (.inr r)=>some r
   |none=>none)=some r:=h
  rw[acN]
  cases hs:step s with
  |none=>rw[hs] at h;cases h
  |some x=>
   rw[hs] at h
   cases x with
   |inl s'=>exact Rg h
   |inr r'=>exact h
theorem acO{σ ρ:Type}{step:σ→Option (σ⊕ρ)}{s:σ}{r:ρ}(h:aC step s=some r):tU step s=some r:=Rg h
section
variable (hP:dg P T) (hR:bR T) (cH:∀c∈Φ,il P T c) (hm:P.follows .mixedOrders=true)
include hP hR cH hm
theorem aa3 [I:Rd]{id:Nat}{ops:Array Oper}{draw:Bool}{sg:Sg}{ρ:Type}{σ:S D}{k:S D→Option ρ}{r:ρ}{γ:Gh D}{w:World}{L:List (Nat×Value)}{Qx:Exit→Act→World→Prop}(h:MS T Φ ops.toList draw sg σ k=some r)(hd:∀t∈dstsOf ops.toList,I.fp n t=true)(hk:Kn σ γ w L)
  (hc:∀aJ γ' w' L',Kn aJ γ' w' L'→Frame γ w γ' w'→bx (dstsOf ops.toList) σ aJ→k aJ=some r→NK n (Qx .normal) L' w'):CW P n (.region id ops draw) Qx L w:=by
 unfold MS at h
 have e:ops=ops.toList.toArray:=by simp
 cases draw with
 |true=>
  dsimp only at h
  split at h
  case h_2=>cases h
  rename_i hs
  rw[e]
  exact aln hP hR cH hm hs h hd hk hc
 |false=>
  dsimp only at h
  rw[e]
  exact CW.region (ah7 hP hR cH sg h hd hk hc)
theorem acM [Rd]{c:Code}{wr:List Nat}{j:J}{pr:Bool}{E:List (Out×J)}{ρ:Type}{body:∀{eg:Type},S D→(Out→S D→Option eg)→Option eg}{σ:S D}{k:Out→S D→Option ρ}{r:ρ}{γ:Gh D}{w:World}{L:List (Nat×Value)}{Qx:Exit→Act→World→Prop}
  (h:rM T wr j pr E body σ k=some r) (hk:Kn σ γ w L)
  (uP:∀{eg:Type} {aJ:S D} {k':Out→S D→Option eg} {r':eg} {γ':Gh D} {w':World} {L':List (Nat×Value)} {Q':Exit→Act→World→Prop},body aJ k'=some r'→Kn aJ γ' w' L'→(∀o σ1 aF w1 L1,Kn σ1 aF w1 L1→Frame γ' w' aF w1→bx wr aJ σ1→k' o σ1=some r'→NK n (Q' (toX o)) L1 w1)→CW P n c Q' L' w')
  (hc:∀o σ1 aF w1 L1,Kn σ1 aF w1 L1→Frame γ w aF w1→bx wr σ σ1→k o σ1=some r→NK n (Qx (toX o)) L1 w1):CW P n (.loop c) Qx L w:=by
 unfold rM at h
 obtain⟨h0,jT,h⟩:=pV h
 obtain⟨x,hx,hf⟩:=p_ h
 generalize A9:j.mv++pn E=mv at*
 have hs:∀i∈σ.lk,i∈(kept σ mv).map Prod.fst++σ.lk:=fun i hi=>List.mem_append.2 (.inr hi)
 have head:∀{h':HH D j.ci} {σ1:S D} {aF:Gh D} {w1:World} {L1:List (Nat×Value)},Kn σ1 aF w1 L1→bx wr {σ with lk:=(kept σ mv).map Prod.fst++σ.lk} σ1→vE T j σ1 h'→Frame γ w aF w1→∀{cn:S D},kZ T j wr mv σ h'=some cn→
   ∃γ',Kn cn γ' w1 L1∧Frame γ w γ' w1∧bx wr {σ with lk:=(kept σ mv).map Prod.fst++σ.lk} {cn with lk:=(kept σ mv).map Prod.fst++σ.lk}:=by
  intro h' σ1 aF w1 L1 cZ he hx cJ cn hi
  obtain⟨aY,k1,k2,k3,_⟩:=uc hR rfl hk cZ he hx hi
  exact⟨aY,k1,cJ.trans k2,k3⟩
 refine CW.loop _ (fun h' L' w'=>∀cn,kZ T j wr mv σ h'=some cn→∃γ',Kn cn γ' w' L'∧Frame γ w γ' w'∧bx wr {σ with lk:=(kept σ mv).map Prod.fst++σ.lk} {cn with lk:=(kept σ mv).map Prod.fst++σ.lk}) (acO hx) ?_ ?_
 · intro cn hi
   exact head (hk.lk _) (bx.refl _ _) jT (Frame.refl _ _) hi
 · intro K s L' w' hinv y hy hr1 Fg
   dsimp only at hy
   split at hy
   case h_2=>cases hy
   rename_i cn jR
   obtain⟨γ',bB,uK,iC⟩:=hinv cn jR
   refine uP hy (bB.lk _) fun o σ1 aF w1 L1 cZ sk qP ho=> ?_
   have so:=iC.trans qP
   have out:∀{z:Option (nP D pr ρ E)} {o:Out},o≠.normal→z=toE T pr E o σ1 (k o {σ1 with lk:=σ.lk})→(match z with|some x=>some (Sum.inr x)|none=>none)=some y→NK n (Exit.then K Qx (toX o)) L1 w1:=by
    intro z o oA hz rV
    subst hz
    split at rV
    case h_2=>cases rV
    rename_i x' cD
    cases rV
    have:=hr1 x' rfl
    subst this
    have fin:∀o σ1 aF w1 L1,o≠.normal→Kn σ1 aF w1 L1→Frame γ w aF w1→bx wr σ σ1→k o σ1=some r→NK n (Exit.then K Qx (toX o)) L1 w1:=by
     intro o σ1 aF w1 L1 oA k1 k2 k3 k4
     have:=hc o σ1 aF w1 L1 k1 k2 k3 k4
     cases o with
     |normal=>exact(oA rfl).elim
     |exit id=>exact this
     |goto l=>exact this
     |ret=>exact this
    rcases vR cD hf with⟨j',y,bc,h1,h2,h3⟩|h1
    · obtain⟨aY,k1,k2,k3,k4⟩:=uc hR rfl hk cZ so h1 h2
      have e3:=k3.vO (σ:=σ) hs
      have e:({bc with lk:=σ.lk}:S D)=bc:=by rw[←k4]
      rw[show({({bc with lk:=(kept σ mv).map Prod.fst++σ.lk}:S D) with lk:=σ.lk}:S D)={bc with lk:=σ.lk} from rfl,e] at e3
      exact fin o bc aY w1 L1 oA k1 ((uK.trans sk).trans k2) e3 h3
    · exact fin o _ aF w1 L1 oA (cZ.lk _) (uK.trans sk) (so.vO hs) h1
   cases o with
   |normal=>
    obtain⟨h',cD,e⟩:=pV ho
    cases e
    exact Fg h' L1 w1 rfl fun X6 cI=>head cZ so cD (uK.trans sk) cI
   |exit id=>exact out (by simp) rfl ho
   |goto l=>exact out (by simp) rfl ho
   |ret=>exact out (by simp) rfl ho
theorem adg [I:Rd]{b:Code}{l:Nat}{wr:List Nat}{j:J}{pr:Bool}{E:List (Out×J)}{ρ:Type}{body:∀{eg:Type},S D→(Out→S D→Option eg)→Option eg}{σ:S D}{k:Out→S D→Option ρ}{r:ρ}{γ:Gh D}{w:World}{L:List (Nat×Value)}{Qx:Exit→Act→World→Prop}
  {Jm:Nat→Act→World→Prop} (L_:∀m a w,b.wpIn I.F 0 P (xm l (Jm m) Qx) a w→Jm (m+1) a w) (L9:∀m a w,Jm m a w→Qx (.goto l) a w)
  (h:rM T wr j pr E body σ k=some r) (hk:Kn σ γ w L)
  (uP:∀{eg:Type} {aJ:S D} {k':Out→S D→Option eg} {r':eg} {γ':Gh D} {w':World} {L':List (Nat×Value)} {Q':Exit→Act→World→Prop},body aJ k'=some r'→Kn aJ γ' w' L'→(∀o σ1 aF w1 L1,Kn σ1 aF w1 L1→Frame γ' w' aF w1→bx wr aJ σ1→k' o σ1=some r'→NK n (Q' (toX (iY l o))) L1 w1)→CW P n b Q' L' w')
  (hc:∀o σ1 aF w1 L1,Kn σ1 aF w1 L1→Frame γ w aF w1→bx wr σ σ1→k o σ1=some r→NK n (Qx (toX (iY l o))) L1 w1):CW P n b Qx L w:=by
 unfold rM at h
 obtain⟨h0,jT,h⟩:=pV h
 obtain⟨x,hx,hf⟩:=p_ h
 generalize A9:j.mv++pn E=mv at*
 have hs:∀i∈σ.lk,i∈(kept σ mv).map Prod.fst++σ.lk:=fun i hi=>List.mem_append.2 (.inr hi)
 have head:∀{h':HH D j.ci} {σ1:S D} {aF:Gh D} {w1:World} {L1:List (Nat×Value)},Kn σ1 aF w1 L1→bx wr {σ with lk:=(kept σ mv).map Prod.fst++σ.lk} σ1→vE T j σ1 h'→Frame γ w aF w1→∀{cn:S D},kZ T j wr mv σ h'=some cn→
   ∃γ',Kn cn γ' w1 L1∧Frame γ w γ' w1∧bx wr {σ with lk:=(kept σ mv).map Prod.fst++σ.lk} {cn with lk:=(kept σ mv).map Prod.fst++σ.lk}:=by
  intro h' σ1 aF w1 L1 cZ he hx cJ cn hi
  obtain⟨aY,k1,k2,k3,_⟩:=uc hR rfl hk cZ he hx hi
  exact⟨aY,k1,cJ.trans k2,k3⟩
 obtain⟨step,hstep,hx⟩:∃step:HH D j.ci→Option (HH D j.ci⊕nP D pr ρ E),(∀h y,step h=some y→∃cn,kZ T j wr mv σ h=some cn∧(body {cn with lk:=(kept σ mv).map Prod.fst++σ.lk} fun o σ1=>match o with
   | .normal=>qX T j σ1 fun h'=>some (.inl h')
   |o=>match toE T pr E o σ1 (k o {σ1 with lk:=σ.lk}) with
    |some x=>some (.inr x)
    |none=>none)=some y)∧aC step h0=some x:=by
  refine⟨_,fun h y hy=> ?_,hx⟩
  dsimp only at hy
  split at hy
  case h_2=>cases hy
  rename_i cn jR
  exact⟨cn,jR,hy⟩
 have key:∀(N:Nat) (h':HH D j.ci) (L':List (Nat×Value)) (w':World),(∀cn,kZ T j wr mv σ h'=some cn→∃γ',Kn cn γ' w' L'∧Frame γ w γ' w'∧bx wr {σ with lk:=(kept σ mv).map Prod.fst++σ.lk} {cn with lk:=(kept σ mv).map Prod.fst++σ.lk})→
   kW step N h'=some x→∀a,Fr n L' a→b.wpIn I.F 0 P (xm l (Jm N) Qx) a w':=by
  intro N
  induction N with
  |zero=>intro h' L' w' _ hl;cases hl
  |succ N ih=>
   intro h' L' w' hinv hl
   rw[Rf] at hl
   cases lS:step h' with
   |none=>rw[lS] at hl;cases hl
   |some y=>
   rw[lS] at hl
   obtain⟨cn,jR,hy⟩:=hstep _ _ lS
   obtain⟨γ',bB,uK,iC⟩:=hinv cn jR
   cases y with
   |inl s'=>
    refine uP hy (bB.lk _) fun o σ1 aF w1 L1 cZ sk qP ho=> ?_
    have so:=iC.trans qP
    cases o with
    |normal=>
     obtain⟨h2,cD,e⟩:=pV ho
     cases e
     intro a' eY
     show(if l=l then Jm (N+1) a' w1 else Qx (.goto l) a' w1)
     rw[if_pos rfl]
     exact L_ N a' w1 (ih _ L1 w1 (fun X6 cI=>head cZ so cD (uK.trans sk) cI) hl a' eY)
    |exit id=>dsimp only at ho;split at ho<;>cases ho
    |goto q=>dsimp only at ho;split at ho<;>cases ho
    |ret=>dsimp only at ho;split at ho<;>cases ho
   |inr y'=>
    have E7:y'=x:=Option.some.inj hl
    rw[E7] at hy
    refine uP hy (bB.lk _) fun o σ1 aF w1 L1 cZ sk qP ho=> ?_
    have so:=iC.trans qP
    have lift:∀(o:Out) (a':Act) (w1:World),o≠.normal→Qx (toX (iY l o)) a' w1→xm l (Jm (N+1)) Qx (toX (iY l o)) a' w1:=by
     intro o a' w1 oA hq
     cases o with
     |normal=>exact(oA rfl).elim
     |exit id=>exact hq
     |ret=>exact hq
     |goto q=>
      cases hb:Nat.beq q l with
      |true=>
       have e:iY l (.goto q)= .normal:=by simp[iY,hb]
       rw[e] at hq⊢
       exact hq
      |false=>
       have e:iY l (.goto q)= .goto q:=by simp[iY,hb]
       have be:¬q=l:=fun e=>by subst e;simp at hb
       rw[e] at hq⊢
       show(if q=l then Jm (N+1) a' w1 else Qx (.goto q) a' w1)
       rw[if_neg be]
       exact hq
    have out:∀{z:Option (nP D pr ρ E)} {o:Out},o≠.normal→z=toE T pr E o σ1 (k o {σ1 with lk:=σ.lk})→(match z with|some x=>some (Sum.inr x)|none=>none:Option (HH D j.ci⊕nP D pr ρ E))=some (.inr x)→NK n (xm l (Jm (N+1)) Qx (toX (iY l o))) L1 w1:=by
     intro z o oA hz rV
     subst hz
     split at rV
     case h_2=>cases rV
     rename_i x' cD
     cases rV
     have fin:∀σ1 aF w1 L1,Kn σ1 aF w1 L1→Frame γ w aF w1→bx wr σ σ1→k o σ1=some r→NK n (xm l (Jm (N+1)) Qx (toX (iY l o))) L1 w1:=by
      intro σ1 aF w1 L1 k1 k2 k3 k4 a' eY
      exact lift o a' w1 oA (hc o σ1 aF w1 L1 k1 k2 k3 k4 a' eY)
     rcases vR cD hf with⟨j',y,bc,h1,h2,h3⟩|h1
     · obtain⟨aY,k1,k2,k3,k4⟩:=uc hR rfl hk cZ so h1 h2
       have e3:=k3.vO (σ:=σ) hs
       have e:({bc with lk:=σ.lk}:S D)=bc:=by rw[←k4]
       rw[show({({bc with lk:=(kept σ mv).map Prod.fst++σ.lk}:S D) with lk:=σ.lk}:S D)={bc with lk:=σ.lk} from rfl,e] at e3
       exact fin bc aY w1 L1 k1 ((uK.trans sk).trans k2) e3 h3
     · exact fin _ aF w1 L1 (cZ.lk _) (uK.trans sk) (so.vO hs) h1
    cases o with
    |normal=>
     obtain⟨h2,cD,e⟩:=pV ho
     cases e
    |exit id=>exact out (by simp) rfl ho
    |goto q=>exact out (by simp) rfl ho
    |ret=>exact out (by simp) rfl ho
 intro a ha
 obtain⟨N,hN⟩:∃N,N=18446744073709551616:=⟨_,rfl⟩
 have Ku:=hx
 unfold aC at Ku
 rw[←hN] at Ku
 refine wpIn_mono (key N h0 L w (fun cn hi=>head (hk.lk _) (bx.refl _ _) jT (Frame.refl _ _) hi) Ku a ha) (fun e a' w' he=> ?_)
 cases e with
 |goto q=>
  have pL:(if q=l then Jm N a' w' else Qx (.goto q) a' w'):=he
  split at pL
  · rename_i hq
    rw[hq]
    exact L9 _ _ _ pL
  · exact pL
 |_=>exact he
theorem vc [I:Rd]:∀(c:Code) (an:An) {ρ:Type} {σ:S D} {k:Out→S D→Option ρ} {r:ρ} {γ:Gh D} {w:World} {L:List (Nat×Value)} {Qx:Exit→Act→World→Prop},gr c=true→(I.ro=none∨gu c=true)→Lb P c Qx→eM T Φ c an σ k=some r→(∀t∈writes c,I.fp n t=true)→Kn σ γ w L→
  (∀o aJ γ' w' L',Kn aJ γ' w' L'→Frame γ w γ' w'→bx (writes c) σ aJ→k o aJ=some r→NK n (Qx (toX o)) L' w')→CW P n c Qx L w:=by
 intro c
 induction c with
 |skip=>
  intro an ρ σ k r γ w L Qx hN hI hL h hd hk hc
  simp only[eM] at h
  exact CW.skip (hc .normal σ γ w L hk (Frame.refl _ _) (bx.refl _ _) h)
 |region id ops draw=>
  intro an ρ σ k r γ w L Qx hN hI hL h hd hk hc
  simp only[eM] at h
  refine tx hR h hk (X:=fun o L' w'=>NK n (Qx (toX o)) L' w') ?_ hc
  intro eg aJ k' r' hb bB hx
  exact aa3 hP hR cH hm hb hd bB fun σ1 aF w1 L1 m1 m2 m3 m4=>hx .normal σ1 aF w1 L1 m1 m2 m3 m4
 |seq a b ot xo=>
  intro an ρ σ k r γ w L Qx hN hI hL h hd hk hc
  have pR:I.ro=none∨gu a=true:=hI.imp (fun h=>h) fun h=>by simp only[gu,Bool.and_eq_true] at h;exact h.1
  have FO:I.ro=none∨gu b=true:=hI.imp (fun h=>h) fun h=>by simp only[gu,Bool.and_eq_true] at h;exact h.2
  simp only[eM] at h
  unfold gr at hN
  have nC:∀t∈writes a,t∈writes (.seq a b):=fun t ht=>by simp only[writes];exact List.mem_append.2 (.inl ht)
  have oD:∀t∈writes b,t∈writes (.seq a b):=fun t ht=>by simp only[writes];exact List.mem_append.2 (.inr ht)
  split at h
  · rename_i x jT
    unfold Rz at jT
    split at jT
    case h_2=>cases jT
    rename_i l j pr E x' hl
    cases jT
    obtain⟨Jm,L_,L9⟩:=hL l b (by unfold qq;rw[hl])
    rw[hl] at hN
    simp only[Bool.and_eq_true] at hN
    obtain rfl:=Kc hl
    have qT:CW P n b Qx L w:=by
     refine adg hP hR cH hm L_ L9 h hk ?_ (fun o σ1 aF w1 L1 m1 m2 m3 m4=> ?_)
     · intro eg aJ k' r' γ' w' L' Q' hb bB hx
       obtain⟨dJ,fG,hb⟩:=l_ hb
       obtain⟨fa,z1,z2,z3⟩:=l8 fG bB
       refine xo _ hN.2 FO (Lb.none hN.1) hb (fun t ht=>hd t (oD t ht)) z1 fun o σ1 aF w1 L1 m1 m2 m3 m4=> ?_
       have:=hx (iY l o) σ1 aF w1 L1 m1 (z2.trans m2) (z3.lr.trans m3) m4
       rwa[ZZ] at this
     · have:=hc (iY l o) σ1 aF w1 L1 m1 m2 (m3.mono oD) m4
       exact this
    refine CW.seq fun K hK=> ?_
    exact fun a' eY=>wpIn_label (hK _ _ qT a' eY)
  cases hl:rT a with
  |some l=>
   exfalso
   obtain rfl:=Kc hl
   refine tx hR h hk (X:=fun _ _ _=>True) (fun hb _ _=> ?_) (fun _ _ _ _ _ _ _ _ _=>trivial)
   obtain⟨dJ,_,hb⟩:=l_ hb
   simp[eM] at hb
  |none=>
  rw[hl] at hN
  simp only[Bool.and_eq_true] at hN
  have hLb:Lb P b Qx:=fun l b' hs=>hL l b' (by unfold qq;rw[hl];exact hs)
  refine tx hR h hk (X:=fun o L' w'=>NK n (Qx (toX o)) L' w') ?_ hc
  intro eg aJ k' r' hb bB hx
  have ame:∀t∈writes a,t∈writes (.seq a b):=fun t ht=>by simp only[writes];exact List.mem_append.2 (.inl ht)
  refine CW.seq fun K hK=> ?_
  obtain⟨dJ,fG,hb⟩:=l_ hb
  obtain⟨fa,z1,z2,z3⟩:=l8 fG bB
  refine ot _ hN.1.2 pR (Lb.none hN.1.1) hb (fun t ht=>hd t (nC t ht)) z1 fun o σ1 aF w1 L1 m1 m2 m3 m4=> ?_
  have m3:=(z3.lr).trans (m3.mono nC)
  have m2:=z2.trans m2
  cases o with
  |normal=>
   refine hK _ _ ?_
   obtain⟨σ5,hf5,m4⟩:=l_ m4
   obtain⟨γ5,y1,y2,y3⟩:=l8 hf5 m1
   refine xo _ hN.2 FO hLb m4 (fun t ht=>hd t (oD t ht)) y1 fun o bc aY w2 L2 n1 n2 n3 n4=> ?_
   exact hx o bc aY w2 L2 n1 (m2.trans (y2.trans n2)) (m3.trans (y3.lr.trans (n3.mono oD))) n4
  |exit id=>exact hx (.exit id) σ1 aF w1 L1 m1 m2 m3 m4
  |goto l=>exact hx (.goto l) σ1 aF w1 L1 m1 m2 m3 m4
  |ret=>exact hx .ret σ1 aF w1 L1 m1 m2 m3 m4
 |cond x a b ot xo=>
  intro an ρ σ k r γ w L Qx hN hI hL h hd hk hc
  have pR:I.ro=none∨gu a=true:=hI.imp (fun h=>h) fun h=>by simp only[gu,Bool.and_eq_true] at h;exact h.1
  have FO:I.ro=none∨gu b=true:=hI.imp (fun h=>h) fun h=>by simp only[gu,Bool.and_eq_true] at h;exact h.2
  simp only[eM] at h
  refine tx hR h hk (X:=fun o L' w'=>NK n (Qx (toX o)) L' w') ?_ hc
  intro eg aJ k' r' hb bB hx
  have nC:∀t∈writes a,t∈writes (.cond x a b):=fun t ht=>by simp only[writes];exact List.mem_append.2 (.inl ht)
  have oD:∀t∈writes b,t∈writes (.cond x a b):=fun t ht=>by simp only[writes];exact List.mem_append.2 (.inr ht)
  unfold gr at hN
  simp only[Bool.and_eq_true] at hN
  split at hb
  case h_2=>cases hb
  rename_i d K g bh
  obtain⟨v,h1,h2⟩:=bQ bB.sr bh
  have h2:v= .bool d:=h2.1
  subst h2
  intro a' eY
  refine wpIn_cond_split (eY.ev h1) (fun pM=> ?_) (fun hdf=> ?_)
  · subst pM
    obtain⟨dJ,fG,hb⟩:=l_ hb
    obtain⟨fa,z1,z2,z3⟩:=l8 fG bB
    refine ot _ hN.1.2 pR (Lb.none hN.1.1.1) hb (fun t ht=>hd t (nC t ht)) z1 (fun o σ1 aF w1 L1 m1 m2 m3 m4=>hx o σ1 aF w1 L1 m1 (z2.trans m2) (z3.lr.trans (m3.mono nC)) m4) a' eY
  · subst hdf
    obtain⟨dJ,fG,hb⟩:=l_ hb
    obtain⟨fa,z1,z2,z3⟩:=l8 fG bB
    refine xo _ hN.2 FO (Lb.none hN.1.1.2) hb (fun t ht=>hd t (oD t ht)) z1 (fun o σ1 aF w1 L1 m1 m2 m3 m4=>hx o σ1 aF w1 L1 m1 (z2.trans m2) (z3.lr.trans (m3.mono oD)) m4) a' eY
 |block id a ot=>
  intro an ρ σ k r γ w L Qx hN hI hL h hd hk hc
  have pR:I.ro=none∨gu a=true:=hI.imp (fun h=>h) fun h=>by simp only[gu] at h;exact h
  simp only[eM] at h
  refine tx hR h hk (X:=fun o L' w'=>NK n (Qx (toX o)) L' w') ?_ hc
  intro eg aJ k' r' hb bB hx
  refine CW.block ?_
  unfold gr at hN
  simp only[Bool.and_eq_true] at hN
  obtain⟨dJ,fG,hb⟩:=l_ hb
  obtain⟨fa,z1,z2,z3⟩:=l8 fG bB
  refine ot _ hN.2 pR (Lb.none hN.1) hb hd z1 fun o σ1 aF w1 L1 m1 m2 m3 m4=> ?_
  have m2:=z2.trans m2
  have m3:=z3.lr.trans m3
  cases o with
  |normal=>exact hx .normal σ1 aF w1 L1 m1 m2 m3 m4
  |exit ue=>
   dsimp only at m4
   intro a' eY
   show(if ue=id then Qx .normal a' w1 else Qx (.exit ue) a' w1)
   cases hb:Nat.beq ue id with
   |true=>
    rw[hb] at m4
    rw[if_pos (Nat.eq_of_beq_eq_true hb)]
    exact hx .normal σ1 aF w1 L1 m1 m2 m3 m4 a' eY
   |false=>
    rw[hb] at m4
    have be:¬ue=id:=fun e=>by subst e;simp at hb
    rw[if_neg be]
    exact hx (.exit ue) σ1 aF w1 L1 m1 m2 m3 m4 a' eY
  |goto l=>exact hx (.goto l) σ1 aF w1 L1 m1 m2 m3 m4
  |ret=>exact hx .ret σ1 aF w1 L1 m1 m2 m3 m4
 |loop a ot=>
  intro an ρ σ k r γ w L Qx hN hI hL h hd hk hc
  have pR:I.ro=none∨gu a=true:=hI.imp (fun h=>h) fun h=>by simp only[gu] at h;exact h
  cases an with
  |loop j pr E x=>
   simp only[eM] at h
   unfold gr at hN
   simp only[Bool.and_eq_true] at hN
   refine acM hP hR cH hm h hk ?_ hc
   intro eg aJ k' r' γ' w' L' Q' hb bB hx
   obtain⟨dJ,fG,hb⟩:=l_ hb
   obtain⟨fa,z1,z2,z3⟩:=l8 fG bB
   exact ot x.un hN.2 pR (Lb.none hN.1) hb hd z1 fun o σ1 aF w1 L1 m1 m2 m3 m4=>hx o σ1 aF w1 L1 m1 (z2.trans m2) (z3.lr.trans m3) m4
  |_=>simp[eM] at h
 |exit id=>
  intro an ρ σ k r γ w L Qx hN hI hL h hd hk hc
  simp only[eM] at h
  exact CW.exit (hc (.exit id) σ γ w L hk (Frame.refl _ _) (bx.refl _ _) h)
 |ret=>
  intro an ρ σ k r γ w L Qx hN hI hL h hd hk hc
  simp only[eM] at h
  have:=hc .ret σ γ w L hk (Frame.refl _ _) (bx.refl _ _) h
  exact fun a ha=>wpIn_ret (this a ha)
 |rangeFunc=>intro an ρ σ k r γ w L Qx hN hI hL h;simp[eM] at h
 |scope a ot=>
  intro an ρ σ k r γ w L Qx hN hI hL h hd hk hc
  have Mb:I.ro=none:=hI.resolve_right fun h=>by simp[gu] at h
  have pR:I.ro=none∨gu a=true:= .inl Mb
  simp only[eM] at h
  unfold gr at hN
  refine tx hR h hk (X:=fun o L' w'=>NK n (Qx (toX o)) L' w') ?_ hc
  intro eg aJ k' r' hb bB hx
  obtain⟨dJ,fG,hb⟩:=l_ hb
  obtain⟨fa,z1,z2,z3⟩:=l8 fG bB
  cases hs:qq a with
  |none=>
   intro a' eY
   refine aaK Mb (ot _ hN pR (Lb.none (by unfold jt;rw[hs];rfl)) hb hd z1 (fun o σ1 aF w1 L1 m1 m2 m3 m4=> ?_) a' eY)
   have m2:=z2.trans m2
   have m3:=z3.lr.trans m3
   cases o with
   |normal=>exact hx .normal σ1 aF w1 L1 m1 m2 m3 m4
   |exit id=>exact hx (.exit id) σ1 aF w1 L1 m1 m2 m3 m4
   |goto l=>cases m4
   |ret=>exact hx .ret σ1 aF w1 L1 m1 m2 m3 m4
  |some q=>
   obtain⟨l,b⟩:=q
   obtain⟨rest,hf,pC⟩:=aao (P:=P) a hs hN
   intro a' eY
   refine aaL Mb hf (ot _ hN pR (fun l' b' lS=> ?_) hb hd z1 (fun o σ1 aF w1 L1 m1 m2 m3 m4=> ?_) a' eY)
   · rw[hs] at lS
     cases lS
     refine⟨oo P rest l Qx,fun m a w h=>pC _ _ _ (wpIn_mono h (fun e a' w' he=> ?_)),fun m a w h=>⟨rfl,m,h⟩⟩
     cases e with
     |goto q=>
      have he:(if q=l then oo P rest l Qx m a' w' else(q=l∧∃m,oo P rest l Qx m a' w')):=he
      split at he
      · rename_i hq;exact⟨hq,he⟩
      · rename_i hq;exact(hq he.1).elim
     |_=>exact he
   · have m2:=z2.trans m2
     have m3:=z3.lr.trans m3
     cases o with
     |normal=>exact hx .normal σ1 aF w1 L1 m1 m2 m3 m4
     |exit id=>exact hx (.exit id) σ1 aF w1 L1 m1 m2 m3 m4
     |goto l=>cases m4
     |ret=>exact hx .ret σ1 aF w1 L1 m1 m2 m3 m4
 |label=>intro an ρ σ k r γ w L Qx hN hI hL h;simp[eM] at h
 |goto l=>
  intro an ρ σ k r γ w L Qx hN hI hL h hd hk hc
  simp only[eM] at h
  have:=hc (.goto l) σ γ w L hk (Frame.refl _ _) (bx.refl _ _) h
  exact fun a ha=>wpIn_goto (this a ha)
 |refuse=>intro an ρ σ k r γ w L Qx hN hI hL h;simp[eM] at h
end
theorem aaU{t:TypeId}{a:Bool}{z:List Value}{pa:Addr}{cs:List Value}{w:World}(hT:bH P t a z)(hz:a=false→z.length=1)(hc:gm w pa cs)(hl:cs.length=z.length):(loadVar t pa).run P w= .ok (pack a cs) w:=by
 simp only[loadVar,Sem.run_bind,hT.isAgg,Result.andThen_ok]
 cases a with
 |true=>
  have:=run_loadCells_list (P:=P) w pa cs hc
  rw[hl] at this
  simp[hT.sizeOf,this,pack]
 |false=>
  rw[hz rfl] at hl
  match cs,hl,hc with
  |[u],_,hc=>
   have:=hc 0 u rfl
   have hu:w.cell? pa=some u:=by simpa[Addr.add] using this
   simp[pack,hu]
theorem Jk(hP:dg P T){σ:S D}{γ:Gh D}{w:World}{L:List (Nat×Value)}(hk:Kn σ γ w L):∀{rs:List ResultVar} {l:List Nat} {dC:List (AV D)},Q.R σ.ob (wJ T σ.sl rs) l dC→∃vs,sW P L w rs vs∧jF (fun i=>i<σ.nx) γ w dC vs
 |[],l,dC,h=>by
  obtain⟨_,rfl⟩:=h
  exact⟨[],trivial,trivial⟩
 | .tmp t::rs,l,dC,h=>by
   simp only[wJ] at h
   split at h
   case h_2=>exact(h:False).elim
   rename_i a ha
   obtain⟨l1,l2,bs,_,h1,h2⟩:=Q.dV h
   obtain⟨_,rfl⟩:=h2
   obtain⟨v,k1,k2⟩:=hk.sr t a ha
   obtain⟨vs,k3,k4⟩:=Jk hP hk h1
   exact⟨v::vs,⟨k1,k3⟩,k2,k4⟩
 | .cell t ty::rs,l,dC,h=>by
   simp only[wJ] at h
   split at h
   case h_2=>exact(h:False).elim
   rename_i i off cj ha ht
   obtain⟨ao,l',ho,rfl,h⟩:=h
   cases ao with
   |sl=>exact(h:False).elim
   |bY=>exact(h:False).elim
   |ff=>exact(h:False).elim
   |fz=>exact(h:False).elim
   |mp=>exact(h:False).elim
   |box cs=>
    dsimp only at h
    split at h
    case h_2=>exact(h:False).elim
    rename_i a FF
    obtain⟨l1,l2,bs,_,h1,h2⟩:=Q.dV h
    obtain⟨_,rfl⟩:=h2
    obtain⟨v,k1,_,b,hg,rfl⟩:=hk.sr t _ ha
    obtain⟨_,_,b',us,t',m1,m2,m3,m4,m5⟩:=hk.ob.ob i _ ho
    rw[hg] at m1
    obtain⟨rfl,_⟩:=wQ m1
    obtain⟨n1,n2⟩:=Gr m4 FF
    obtain⟨vs,k3,k4⟩:=Jk hP hk h1
    have hT:=(hP.ty ty cj ht).1
    have fc:=aaU (w:=w) hT (CJ T cj) (GD m3 off (cj.n T)) (by rw[vG];simp;omega)
    exact⟨_::vs,⟨⟨_,k1,fc⟩,k3⟩,n2,k4⟩
theorem NS{U:Nat→Prop}{γ:Gh D}{w:World}:∀{as:List (AC D)} {vs:List Value} {k:Nat},gJ U γ w as vs→SR U γ w (Hu k as) (oT k vs)
 |[],[],k,_=>fun t a h=>by simp[Hu,aq] at h
 |a::as,v::vs,k,h=>SR.cons (NS h.2) h.1
 |[],_::_,k,h=>h.elim
 |_::_,[],k,h=>h.elim
def kS(m:M D)(x:Nat):Nat:=match aq (swap m.ids) x with
 |some p=>p
 |none=>if bo m.ku x then 1 else if x<4 then x else 2
theorem P6(hP:dg P T)(hR:bR T){σ:S D}{γ:Gh D}{w:World}{L:List (Nat×Value)}{c:au D}{rs:List ResultVar}{r:HH D c.outs}(hk:Kn σ γ w L)(LQ:∀q∈c.bI,1000≤q.1)(hs:∀q∈c.ob,q.1<2000)(h:rA.fin T c rs σ=some r):
  ∃vs,sW P L w rs vs∧∃γ' pd gT,fP T (cM T c.outs r) some id 3000 c.ir=some pd∧gh T (cM T c.outs r) some id 3000 c.bI=some gT∧qd (fun _=>True) γ' w pd (rB vs)∧(∀p x,cz gT p=some x→OR (fun _=>True) γ' w p x)∧
   (∀p,(p,p)∈stay c→γ'.g p=γ.g p)∧Frame0 γ w γ' w:=by
 unfold rA.fin at h
 obtain⟨l,dC,h1,h2⟩:=Q.FX h
 obtain⟨l',x,h3,h4⟩:=Q.FX h2
 obtain⟨hh,m⟩:=x
 dsimp only at h4
 split at h4
 case h_2=>cases h4
 rename_i pd gT jw kB
 have h4:=Option.some.inj h4
 subst h4
 obtain⟨vs,k1,k2⟩:=Jk hP hk h1
 obtain⟨⟨hex,xD⟩,nA⟩:=Mw hR hk.ob h3 k2
 dsimp only at hex xD nA
 have pF:∀x,(∀p,(p,x)∉m.ids)→aq (swap m.ids) x=none:=fun x hn=>by
  cases hl:aq (swap m.ids) x with
  |none=>rfl
  |some p=>exact(hn p (qp.1 (cA hl))).elim
 have rZ:∀x,x<4→kS m x=x:=fun x hx=>by
  unfold kS
  rw[pF x fun p hp=>by have:=hex.xp p x hp;omega]
  have h1:bo m.ku x=false:=by
   cases hm:bo m.ku x with
   |true=>have:=(hex.ku x (dE.1 hm)).1;omega
   |false=>rfl
  simp only[h1,Bool.false_eq_true,if_false]
  rw[if_pos hx]
 have KI:∀x,x∈m.ku→kS m x=1:=fun x hx=>by
  unfold kS
  rw[pF x (hex.ku x hx).2]
  simp only[dE.2 hx,if_true]
 have af4:∀p i,(p,i)∈m.ids→kS m i=p:=fun p i hp=>by
  unfold kS
  rw[ER hex.ids hp]
 have Bw:Fin T (fun i=>i<σ.nx) (fun _=>True) γ ⟨fun b=>kS m (γ.o b),mQ γ m,ed γ.v 3000 (cM T c.outs hh)⟩ w m (cM T c.outs hh) 3000:=by
  refine⟨hex.dv,fun p i hp=>⟨trivial,BC hex hp⟩,fun i x hx=> ?_,fun _ p _ Kt _=> ?_,fun K Kp cV hK qN b hb=> ?_,fun q K Kp hq cV hK qN b hb=> ?_,fun i d hd=> .inr ⟨trivial,Av hd⟩⟩
  · have:=(hex.new _ hx).1
    simp only at this
    show ¬i<σ.nx
    omega
  · rw[hex.O1] at Kt
    omega
  · unfold M.may at cV
    rw[hex.vh] at cV
    simp only[Bool.false_eq_true,if_false,zr,List.all_eq_true] at cV
    have hb:γ.o b∈K:=hb
    show kS m (γ.o b)∈Kp
    rw[rZ _ (by have:=hK _ hb;omega)]
    exact dE.1 (cV _ hb)
  · unfold M.may at cV
    rw[hex.vh] at cV
    simp only[Bool.false_eq_true,if_false,zr,List.all_eq_true] at cV
    have hb:γ.o b∈q::K:=hb
    show kS m (γ.o b)∈Kp
    rcases List.mem_cons.1 hb with hb|hb
    · rw[hb,KI q hq]
      exact dE.1 (cV 1 (by simp))
    · rw[rZ _ (by have:=hK _ hb;omega)]
      exact dE.1 (cV _ (by simp[hb]))
 have Bv:yR γ ⟨fun b=>kS m (γ.o b),mQ γ m,ed γ.v 3000 (cM T c.outs hh)⟩ m:=⟨fun p i hp b hb=>by
  show kS m (γ.o b)=p
  rw[hb]
  exact af4 p i hp⟩
 obtain⟨g1,g2⟩:=nA Bw Bv
 have mH:=g1 pd jw
 refine⟨vs,k1,_,pd,gT,jw,kB, ?_,fun p x hx=>(g2 gT kB p x hx).2.2,fun p hp=> ?_,⟨rfl,rfl,rfl,Nat.le_refl _,fun b hb hc=>⟨rZ _ (by omega),rfl⟩,fun b hb hc=>⟨hb, ?_⟩⟩⟩
 · unfold qd
   match pd,vs,mH with
   |[],[],_=>exact⟨[],rfl,trivial⟩
   |[a],[v],mH=>exact mH.1
   |a::a'::as,v::v'::vs,mH=>exact⟨v::v'::vs,rfl,mH⟩
   |[],_::_,mH=>exact mH.elim
   |_::_,[],mH=>exact mH.elim
   |[a],v::v'::vs,mH=>exact mH.2.elim
   |a::a'::as,[v],mH=>exact mH.2.elim
 · have fh:=hex.Km _ hp
   refine(BC hex fh).2 fun x hx=> ?_
   have h5:=(hex.new _ hx).1
   simp only at h5
   have hpb:p<2000:=by
    unfold stay at hp
    obtain⟨q,hq,e⟩:=List.mem_map.1 hp
    cases e
    obtain⟨q',oz⟩:=nq (List.mem_filter.1 hq).2
    exact hs (q.1,q') oz
   have:=hk.bS
   omega
 · show γ.o b=kS m (γ.o b)
   have hc:kS m (γ.o b)=0∨kS m (γ.o b)=3:=hc
   have A_:∀p i,(p,i)∈m.ids→1000≤p:=fun p i hp=>by
    obtain⟨q,hq⟩:=nq (hex.key p i hp)
    exact LQ (p,q) hq
   unfold kS at hc⊢
   cases hl:aq (swap m.ids) (γ.o b) with
   |some p=>
    rw[hl] at hc
    have:=A_ p _ (qp.1 (cA hl))
    dsimp only at hc
    omega
   |none=>
    rw[hl] at hc
    dsimp only at hc⊢
    split at hc
    · omega
    · split at hc
      · rename_i h5 h6
        simp only[h5,h6,if_true,if_false]
        simp
      · omega
theorem gJ.len{U:Nat→Prop}{γ:Gh D}{w:World}:∀{as:List (AC D)} {vs:List Value},gJ U γ w as vs→vs.length=as.length
 |[],[],_=>rfl
 |_::as,_::vs,h=>by simp[gJ.len h.2]
 |[],_::_,h=>h.elim
 |_::_,[],h=>h.elim
theorem TT(hP:dg P T)(hR:bR T)(cH:∀c∈Φ,il P T c)(hm:P.follows .mixedOrders=true){c:au D}{fn:Func}{code:Code}{rs:List ResultVar}{an:An}
  (kD:∀(args:Array Value) (w:World),(callFunc c.f args).run P w= .ok (.enter c.f args) w)
  (hf:P.funcs[c.f]? =some fn) (hb:fn.body=some code) (jw:fn.results=rs.toArray)
  (bN:((writes code).all (fun t=>Nat.blt t fn.ntmps)&&Nat.ble c.args.length fn.ntmps&&qA c.ir c.bI&&kh (c.bI.map Prod.fst)&&c.bI.all (fun p=>Nat.ble 1000 p.1)&&Nat.ble c.bI.length 40)=true)
  (Bm:∀h,DW T Φ c rs code an h=c.fn h):il P T c:=by
 simp only[Bool.and_eq_true] at bN
 obtain⟨⟨⟨⟨⟨hw,hl⟩,fE⟩,Bf⟩,l7⟩,sn⟩:=bN
 refine⟨kD,fE,Bf,l7,sn,fun h r hr as dm has kB γ w vs hv bb=> ?_⟩
 rw[←Bm] at hr
 unfold DW at hr
 split at hr
 case h_2=>cases hr
 rename_i dz
 simp only[Bool.and_eq_true] at dz
 split at hr
 case h_2=>cases hr
 rename_i σ jS
 unfold xR at jS
 dsimp only at jS
 split at jS
 case isFalse=>cases jS
 rename_i hc
 rw[has,kB] at jS
 have jS:=Option.some.inj jS
 subst jS
 simp only[Bool.and_eq_true,List.all_eq_true] at hc l7 hw
 have iN:=NS (k:=0) hv
 have hlen:=hv.len
 have uB:=AK has
 refine enter hf hb rfl (by rw[hlen,uB];exact hl) ?_
 obtain⟨dJ,fG,hr⟩:=l_ hr
 obtain⟨fa,z1,z2,z3⟩:=l8 fG (γ:=γ) ⟨iN,bb,Nat.le_refl _⟩
 refine vc hP hR cH hm code an.un dz.2 (.inl rfl) (Lb.none dz.1) hr (fun t ht=>by unfold Rd.fp;rw[hw t ht];rfl) z1 fun o aJ γ' w' L' bB cJ Ly ho=> ?_
 have cJ:=z2.trans cJ
 have fin:∀{aJ},Kn aJ γ' w' L'→rA.fin T c rs aJ=some r→∃vs,sW P L' w' rs vs∧jJ (fun v w'=>∃U' γ' rs gT,fP T (cM T c.outs r) some id 3000 c.ir=some rs∧gh T (cM T c.outs r) some id 3000 c.bI=some gT∧
   qd U' γ' w' rs v∧(∀p x,cz gT p=some x→OR U' γ' w' p x)∧(∀p,(p,p)∈stay c→γ'.g p=γ.g p)∧Frame0 γ w γ' w') (.returned (rB vs)) w':=by
  intro aJ bB ho
  obtain⟨vs,h1,aY,pd,gT,h2,h3,h4,h5,h6,h7⟩:=P6 hP hR bB (fun q hq=>Nat.le_of_ble_eq_true (l7 q hq)) (fun q hq=>by
   have:=Nat.le_of_ble_eq_true (hc.2 q hq).2
   omega) ho
  refine⟨vs,h1,_,rfl,_,aY,pd,gT,h2,h3,h4,h5,fun p hp=> ?_,cJ.toFrame0.trans h7⟩
  rw[h6 p hp]
  refine cJ.gk p ?_
  unfold stay at hp
  obtain⟨q,hq,e⟩:=List.mem_map.1 hp
  cases e
  obtain⟨q',oz⟩:=nq (List.mem_filter.1 hq).2
  have:=Nat.le_of_ble_eq_true (hc.2 _ oz).2
  simp only at this
  omega
 cases o with
 |normal=>
  obtain⟨vs,h1,h2⟩:=fin bB ho
  exact fun a ha=>bodyPost_end (tN (fun _ _ hx=>ha.ev hx) jw h1) ha.defers h2
 |ret=>
  obtain⟨vs,h1,h2⟩:=fin bB ho
  exact fun a ha=>bodyPost_ret (tN (fun _ _ hx=>ha.ev hx) jw h1) ha.defers h2
 |exit id=>cases ho
 |goto l=>cases ho
abbrev fZ(T:aV D)(Φ:List (au D))(c:au D)(rs:List ResultVar)(code:Code)(an:An):au D:=⟨c.f,c.ins,c.outs,c.args,c.ob,c.ir,c.bI,DW T Φ c rs code an⟩
theorem gQ(hP:dg P T)(hR:bR T)(cH:∀c∈Φ,il P T c)(hm:P.follows .mixedOrders=true){c:au D}{fn:Func}{code:Code}{rs:List ResultVar}{an:An}
  (kD:∀(args:Array Value) (w:World),(callFunc c.f args).run P w= .ok (.enter c.f args) w)
  (hf:P.funcs[c.f]? =some fn) (hb:fn.body=some code) (jw:fn.results=rs.toArray)
  (bN:((writes code).all (fun t=>Nat.blt t fn.ntmps)&&Nat.ble c.args.length fn.ntmps&&qA c.ir c.bI&&kh (c.bI.map Prod.fst)&&c.bI.all (fun p=>Nat.ble 1000 p.1)&&Nat.ble c.bI.length 40)=true):il P T (fZ T Φ c rs code an):=
 TT (c:=fZ T Φ c rs code an) (an:=an) hP hR cH hm kD hf hb jw bN fun _=>rfl
end
end Rx
end Go.Proofs.YtaneejpkncdodaaGreat
