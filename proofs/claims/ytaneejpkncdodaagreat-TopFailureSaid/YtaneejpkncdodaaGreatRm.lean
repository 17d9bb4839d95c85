import Derived.Test.YtaneejpkncdodaaGreatRj
import Derived.Orders
set_option linter.unusedVariables false
set_option linter.unusedSimpArgs false
set_option linter.unusedSectionVars false
namespace Go.Proofs.YtaneejpkncdodaaGreat
open Go Go.RowKit Dp
namespace Rx
section
variable {D:Nat→Type} [∀n,ad (D n)]
variable {T:aV D} {U0 U1 U2:Nat→Prop} {fa γ aF aY:Gh D} {w0 w w1:World}
structure Kn(σ:S D)(γ:Gh D)(w:World)(L:List (Nat×Value)):Prop where
 sr:SR (fun i=>i<σ.nx) γ w σ.sl L
 ob:OB (fun i=>i<σ.nx) γ w σ.ob
 bS:2000≤σ.nx
structure bx(wr:List Nat)(σ aJ:S D):Prop where
 sl:∀t,t∉wr→aq aJ.sl t=aq σ.sl t
 lk:aJ.lk=σ.lk
 ob:∀i∈σ.lk,aq aJ.ob i=aq σ.ob i
 nx:σ.nx≤aJ.nx
theorem bx.refl(wr:List Nat)(σ:S D):bx wr σ σ:=⟨fun _ _=>rfl,rfl,fun _ _=>rfl,Nat.le_refl _⟩
theorem bx.trans{wr:List Nat}{σ σ1 bc:S D}(h:bx wr σ σ1)(k:bx wr σ1 bc):bx wr σ bc:=
 ⟨fun t ht=>(k.sl t ht).trans (h.sl t ht),k.lk.trans h.lk,fun i hi=>(k.ob i (by rw[h.lk];exact hi)).trans (h.ob i hi),Nat.le_trans h.nx k.nx⟩
theorem bx.mono{wr O2:List Nat}{σ σ1:S D}(h:bx wr σ σ1)(hs:∀t∈wr,t∈O2):bx O2 σ σ1:=⟨fun t ht=>h.sl t fun hm=>ht (hs t hm),h.lk,h.ob,h.nx⟩
structure NW(U0 U1 U2:Nat→Prop)(aF aY:Gh D):Prop where
 u:∀i,U0 i→U2 i∧aY.g i=aF.g i∧aY.v i=aF.v i
 ro:∀b,aF.o b<2→aY.o b=aF.o b
section
variable (t:NW U0 U1 U2 aF aY)
include t
theorem NW.mem{K:List Nat}(hK:cU K):∀b,In aF.o K b→b<w.heap.size→In aY.o K b∧w.heap[b]? =w.heap[b]? :=fun b hb _=>by
 refine⟨?_,rfl⟩
 unfold In at hb⊢
 rw[t.ro b (hK _ hb)]
 exact hb
theorem named.two{g:Nat}{d:DV D}(h1:named U1 aF g d)(h0:named U0 fa g d):named U2 aY g d:=by
 rcases h0 with h0|⟨h0,_⟩
 · exact .inl h0
 · rcases h1 with h1|⟨_,h1⟩
   · exact .inl h1
   · obtain⟨k1,_,k3⟩:=t.u _ h0
     exact .inr ⟨k1,by rw[k3];exact h1⟩
theorem mY.two:∀{a:A0 D} {v v0:Value},mY U1 aF w a v→mY U0 fa w0 a v0→mY U2 aY w a v
 | .ptr i off,v,v0,⟨_,b,h1,h2⟩,⟨h0,_⟩=>by
   obtain⟨k1,k2,_⟩:=t.u i h0
   exact⟨k1,b,by rw[k2];exact h1,h2⟩
 | .rp n x off K,v,v0,⟨pa,h1,h2,h3⟩,_=>⟨pa,h1,h2.mono (t.mem h3),h3⟩
theorem jG.two:∀{as:List (A0 D)} {vs qn:List Value},jG U1 aF w as vs→jG U0 fa w0 as qn→jG U2 aY w as vs
 |[],[],_,_,_=>trivial
 |a::as,v::vs,v0::qn,h,h0=>⟨mY.two t h.1 h0.1,jG.two h.2 h0.2⟩
 |a::as,v::vs,[],_,h0=>h0.elim
 |[],_::_,_,h,_=>h.elim
 |_::_,[],_,h,_=>h.elim
theorem dK.two:∀{a:A1 D} {v v0:Value},dK U1 aF w a v→dK U0 fa w0 a v0→dK U2 aY w a v
 | .v l d K g,v,v0,⟨h1,h2,h3⟩,h0=>⟨h1.mono (t.mem h3),named.two t h2 h0.2.1,h3⟩
 | .ptr i off,v,v0,⟨_,b,h1,h2⟩,⟨h0,_⟩=>by
   obtain⟨k1,k2,_⟩:=t.u i h0
   exact⟨k1,b,by rw[k2];exact h1,h2⟩
 | .el i n j y off tc tj,v,v0,⟨h1,h2,⟨xs,h3,h4⟩,h5,b,len,cap,h6,h7⟩,⟨k1,k2,_,k5,_⟩=>by
   obtain⟨m1,m2,_⟩:=t.u i k1
   obtain⟨n1,_,n3⟩:=t.u tc k2.2
   exact⟨m1,⟨h2.1,n1⟩,⟨xs,by rw[n3];exact h3,h4⟩,named.two t h5 k5,b,len,cap,by rw[m2];exact h6,h7⟩
 | .rp n x off K,v,v0,⟨pa,h1,h2,h3⟩,_=>⟨pa,h1,h2.mono (t.mem h3),h3⟩
 | .vb n xs K g b,v,v0,⟨⟨h1,h2,h3⟩,h4⟩,h0=>⟨⟨cL.mono (d:=⟨.sl n,xs⟩) (t.mem h3) h1,named.two t h2 h0.1.2.1,h3⟩,h4⟩
 | .own i,v,v0,⟨_,h1,h2⟩,⟨h0,_⟩=>by
   obtain⟨k1,k2,_⟩:=t.u i h0
   exact⟨k1,by rw[k2];exact h1,h2⟩
 | .fn f fI,v,v0,⟨cs,h1,h2⟩,⟨Uo,_,h0⟩=>⟨cs,h1,jG.two t h2 h0⟩
 | .ch i n j off ct m d,v,v0,⟨h1,h2,⟨xs,y,h3,h4⟩,⟨b,len,cap,cells,h5,h6,h7⟩,h8⟩,⟨k1,k2,_⟩=>by
   obtain⟨m1,m2,_⟩:=t.u i k1
   obtain⟨n1,n2,n3⟩:=t.u ct k2.2
   exact⟨m1,⟨h2.1,n1⟩,⟨xs,y,by rw[n3];exact h3,h4⟩,⟨b,len,cap,cells,by rw[m2];exact h5,by rw[n2];exact h6,h7⟩,h8⟩
 | .sM i s,v,v0,⟨h1,h2,h3,h4⟩,⟨k1,k2,_⟩=>by
   obtain⟨m1,_,_⟩:=t.u i k1
   obtain⟨n1,n2,_⟩:=t.u s k2
   exact⟨m1,n1,by rw[n2];exact h3,h4⟩
 | .tail i n j,v,v0,⟨h1,h2⟩,⟨k1,_⟩=>by
   obtain⟨m1,m2,_⟩:=t.u i k1
   exact⟨m1,by rw[m2];exact h2⟩
 | .pre i n j,v,v0,⟨h1,h2⟩,⟨k1,_⟩=>by
   obtain⟨m1,m2,_⟩:=t.u i k1
   exact⟨m1,by rw[m2];exact h2⟩
 | .nM n xs K,v,v0,⟨⟨aw,h1,h2⟩,h3⟩,_=>⟨⟨aw,h1,h2.mono fun _ _=>ad.mono (t.mem h3)⟩,h3⟩
 | .bn,v,v0,h,_=>h
 | .np,v,v0,h,_=>h
 | .w7,v,v0,h,_=>h
 | .undef,v,v0,h,_=>h
 | .vP,v,v0,h,_=>h
 | .qB,v,v0,h,_=>h
theorem cd.two:∀{as:List (A1 D)} {vs qn:List Value},cd U1 aF w as vs→cd U0 fa w0 as qn→cd U2 aY w as vs
 |[],[],_,_,_=>trivial
 |a::as,v::vs,v0::qn,h,h0=>⟨dK.two t h.1 h0.1,cd.two h.2 h0.2⟩
 |a::as,v::vs,[],_,h0=>h0.elim
 |[],_::_,_,h,_=>h.elim
 |_::_,[],_,h,_=>h.elim
theorem j6.two:∀{a:AC D} {v v0:Value},j6 U1 aF w a v→j6 U0 fa w0 a v0→j6 U2 aY w a v
 | .one a,v,v0,h,h0=>dK.two t h h0
 | .agg l,v,v0,⟨us,h1,h2⟩,⟨Is,_,h0⟩=>⟨us,h1,cd.two t h2 h0⟩
theorem gJ.two:∀{as:List (AC D)} {vs qn:List Value},gJ U1 aF w as vs→gJ U0 fa w0 as qn→gJ U2 aY w as vs
 |[],[],_,_,_=>trivial
 |a::as,v::vs,v0::qn,h,h0=>⟨j6.two t h.1 h0.1,gJ.two h.2 h0.2⟩
 |a::as,v::vs,[],_,h0=>h0.elim
 |[],_::_,_,h,_=>h.elim
 |_::_,[],_,h,_=>h.elim
theorem eP.two:∀{a:AV D} {v v0:Value},eP U1 aF w a v→eP U0 fa w0 a v0→eP U2 aY w a v
 | .c x,v,v0,h,h0=>j6.two t h h0
 | .cP l,v,v0,⟨us,h1,h2⟩,⟨Is,_,h0⟩=>⟨us,h1,gJ.two t h2 h0⟩
theorem OR.two{i:Nat}(hi:U0 i)(hc:∀b,aF.o b=i→aY.o b=i):∀{x:AO D},OR U1 aF w i x→OR U0 fa w0 i x→OR U2 aY w i x
 | .box cs,⟨b,us,ty,h1,h2,h3,h4,h5⟩,⟨_,Is,_,_,_,_,h0,_⟩=>by
   obtain⟨k1,k2,_⟩:=t.u i hi
   exact⟨b,us,ty,by rw[k2];exact h1,hc b h2,h3,cd.two t h4 h0,h5⟩
 | .sl n ty xs K g,⟨h1,h2,h3⟩,⟨_,_,h0⟩=>by
   obtain⟨k1,k2,_⟩:=t.u i hi
   refine⟨?_,h2,named.two t h3 h0⟩
   rw[k2]
   rcases h1 with h1|⟨g,cap,aO,aw,e1,e2,e3,e4,e5,e6,e7,e8⟩
   · exact .inl h1
   · exact .inr ⟨g,cap,aO,aw,e1,hc g e2,e3,e4,e5,e6,e7.mono fun _ _=>ad.mono (t.mem h2),e8⟩
 | .bY n ty tc q xs g h,⟨h1,h2,h3⟩,⟨_,Me,Bx⟩=>by
   obtain⟨k1,k2,_⟩:=t.u i hi
   obtain⟨m0,m1⟩:=xh (v:=aF.g i) (o:=aF.o) (o':=aY.o) (i:=i) (i':=i) (w:=w) (w':=w) fun b _ hb=>⟨hc b hb,rfl⟩
   refine⟨by rw[k2];exact h1.mono m0 m1,named.two t h2 Me, ?_⟩
   rcases Bx with Bx|⟨Bx,_⟩
   · exact .inl Bx
   · rcases h3 with h3|⟨_,h4,h5⟩
     · exact .inl h3
     · obtain⟨n1,n2,n3⟩:=t.u h Bx
       exact .inr ⟨n1,by rw[n3];exact h4,h5.mono k2 n2 fun _ _ _ _=>rfl⟩
 | .ff n ty tc q xs j off s g,⟨h1,h2,b,len,cap,h3,h4⟩,⟨TJ,Me,_⟩=>by
   obtain⟨k1,k2,_⟩:=t.u i hi
   obtain⟨n1,n2,_⟩:=t.u s Me
   obtain⟨m0,m1⟩:=xh (v:=aF.g i) (o:=aF.o) (o':=aY.o) (i:=i) (i':=i) (w:=w) (w':=w) fun b _ hb=>⟨hc b hb,rfl⟩
   exact⟨named.two t h1 TJ,n1,b,len,cap,by rw[k2];exact h3,by rw[k2,n2];exact h4.mono m0 m1⟩
 | .fz n xs K,⟨h1,h2⟩,_=>by
   obtain⟨k1,k2,_⟩:=t.u i hi
   exact⟨by rw[k2];exact cL.mono (d:=⟨.sl n,xs⟩) (t.mem h2) h1,h2⟩
 | .mp n xs,h,_=>by
   obtain⟨k1,k2,_⟩:=t.u i hi
   show m8 aY.o i w (aY.g i) xs
   rw[k2]
   exact m8.mono h fun b _ hb=>⟨hc b hb,rfl⟩
end
theorem tV{α:Type}{f:Nat→Bool}:∀{l:List (Nat×α)} {t:Nat},aq (l.filter fun p=>f p.1) t=if f t then aq l t else none
 |[],t=>by simp[aq]
 |p::r,t=>by
  have ih:=tV (f:=f) (l:=r) (t:=t)
  simp only[List.filter_cons,aq]
  cases hb:Nat.beq p.1 t with
  |true=>
   have:=Nat.eq_of_beq_eq_true hb
   subst this
   cases hf:f p.1 with
   |true=>simp[aq]
   |false=>simp[ih,hf]
  |false=>
   cases hf:f p.1 with
   |true=>simp[aq,hb,ih]
   |false=>simp[ih]
theorem Xu{U:Nat→Prop}{sl:List (Nat×AV D)}{L:List (Nat×Value)}(hs:SR U γ w sl L):∀{js:List (Nat×PC)} {dC:List (AV D)},vv sl js=some dC→∃vs,jF U γ w dC vs∧js.length=vs.length∧∀(k t:Nat) (v:Value),(js.map Prod.fst)[k]? =some t→vs[k]? =some v→Dp.look L t=some v
 |[],dC,h=>by
  cases h
  exact⟨[],trivial,rfl,by simp⟩
 |(t,p)::js,dC,h=>by
  simp only[vv] at h
  split at h
  case h_2=>cases h
  rename_i a b g1 g2
  cases h
  obtain⟨v,h1,h2⟩:=hs t a g1
  obtain⟨vs,k1,k2,k3⟩:=Xu hs g2
  refine⟨v::vs,⟨h2,k1⟩,by simp[k2],fun k t' v' ht hv=> ?_⟩
  cases k with
  |zero=>cases ht;cases hv;exact h1
  |succ k=>exact k3 k t' v' (by simpa using ht) (by simpa using hv)
theorem Od{U:Nat→Prop}{L:List (Nat×Value)}:∀{ts:List Nat} {as:List (AC D)} {vs:List Value} {t:Nat} {a:AV D},gJ U γ w as vs→(∀(k t:Nat) (v:Value),ts[k]? =some t→vs[k]? =some v→Dp.look L t=some v)→aq (lQ.na ts as) t=some a→∃v,Dp.look L t=some v∧eP U γ w a v
 |[],as,vs,t,a,_,_,h=>by simp[lQ.na,aq] at h
 |t0::ts,[],vs,t,a,_,_,h=>by simp[lQ.na,aq] at h
 |t0::ts,a0::as,vs,t,a,hv,hl,h=>by
  cases vs with
  |nil=>exact hv.elim
  |cons v vs=>
   simp only[lQ.na,aq] at h
   cases hb:Nat.beq t0 t with
   |true=>
    have:=Nat.eq_of_beq_eq_true hb
    subst this
    simp only[hb,cond_true,Option.some.injEq] at h
    subst h
    exact⟨v,hl 0 _ _ rfl rfl,hv.1⟩
   |false=>
    simp only[hb,cond_false] at h
    exact Od hv.2 (fun k t v ht hv=>hl (k+1) t v (by simpa using ht) (by simpa using hv)) h
theorem HX:∀{ts:List Nat} {as:List (AC D)} {t:Nat} {a:AV D},aq (lQ.na ts as) t=some a→t∈ts
 |[],as,t,a,h=>by simp[lQ.na,aq] at h
 |t0::ts,[],t,a,h=>by simp[lQ.na,aq] at h
 |t0::ts,a0::as,t,a,h=>by
  simp only[lQ.na,aq] at h
  cases hb:Nat.beq t0 t with
  |true=>
   have:=Nat.eq_of_beq_eq_true hb
   subst this
   simp
  |false=>
   simp only[hb,cond_false] at h
   exact List.mem_cons_of_mem _ (HX h)
theorem pX{a b:List Nat}(h:mT a b=true){x:Nat}(hx:x∈a):x∉b:=by
 have:=List.all_eq_true.1 h x hx
 simp only[Bool.not_eq_true'] at this
 exact kj this
def ib(m:M D)(cp:List Nat)(N:Nat)(x:Nat):Nat:=match aq (swap m.ids) x with
 |some p=>p
 |none=>if bo m.ku x then 1 else if bo cp x&&Nat.blt x N then x else if x<4 then x else 2
structure vE(T:aV D)(j:J)(σ:S D)(h:HH D j.ci):Prop where
 ex:∃dC l m,vv σ.sl j.sl=some dC∧Q.R σ.ob (xO T false j.nx j.ci (j.sl.map Prod.snd) j.ob j.dO σ.nx dC) l (h,m)∧mT (m.ids.map Prod.snd) σ.lk=true∧mT m.ku σ.lk=true
theorem pV{ρ:Type}{j:J}{σ:S D}{k:HH D j.ci→Option ρ}{r:ρ}(h:qX T j σ k=some r):∃x,vE T j σ x∧k x=some r:=by
 unfold qX at h
 split at h
 case h_2=>cases h
 rename_i dC ha
 obtain⟨l,x,h1,h2⟩:=Q.FX h
 split at h2
 case isFalse=>cases h2
 rename_i hc
 simp only[Bool.and_eq_true] at hc
 obtain⟨h,m⟩:=x
 exact⟨h,⟨dC,l,m,ha,h1,hc.1,hc.2⟩,h2⟩
theorem uc(hR:bR T){σ σ1 bc:S D}{L L1:List (Nat×Value)}{wr mv:List Nat}{j:J}{h:HH D j.ci}{lk:List Nat}(li:lk=(kept σ mv).map Prod.fst++σ.lk)
  (hk:Kn σ γ w L) (cZ:Kn σ1 aF w1 L1) (he:bx wr {σ with lk:=lk} σ1) (hx:vE T j σ1 h) (hi:kZ T j wr mv σ h=some bc):
  ∃aY,Kn bc aY w1 L1∧Frame aF w1 aY w1∧bx wr {σ with lk:=lk} {bc with lk:=lk}∧bc.lk=σ.lk:=by
 obtain⟨dC,l,m,ha,hq,FC,oE⟩:=hx.ex
 obtain⟨vs,E9,hlen,Ft⟩:=Xu cZ.sr ha
 obtain⟨⟨hex,xD⟩,nA⟩:=Mw hR cZ.ob hq E9
 unfold kZ at hi
 split at hi
 case isFalse=>cases hi
 rename_i hc
 simp only[Bool.and_eq_true,List.all_eq_true,Bool.not_eq_true'] at hc
 obtain⟨⟨⟨sf,kz⟩,pI⟩,A9⟩:=hc
 have sf:=Nat.le_of_ble_eq_true sf
 dsimp only at hi hex xD nA
 split at hi
 case h_2=>cases hi
 rename_i sa sb mJ KF
 cases hi
 have aeW:σ1.lk=lk:=he.lk
 rw[aeW] at FC oE
 have Fj:∀p i,(p,i)∈m.ids→p<j.nx∧(σ.nx≤p∨p=i)∧p∉lk:=fun p i hp=>by
  obtain⟨q,hq⟩:=nq (hex.key p i hp)
  obtain⟨⟨k1,k2⟩,k3⟩:=kz _ hq
  refine⟨Nat.le_of_ble_eq_true k1, ?_,by rw[li];exact kj k3⟩
  rw[Bool.or_eq_true] at k2
  rcases k2 with k2|k2
  · exact .inl (Nat.le_of_ble_eq_true k2)
  · exact .inr (hex.Ko p p i (hex.Km _ (List.mem_map.2 ⟨_,List.mem_filter.2 ⟨hq,k2⟩,rfl⟩)) hp)
 have uE:∀i,i∈(kept σ mv).map Prod.fst→(∀p,(p,i)∉m.ids)∧i∉m.ku∧i∈lk:=fun i hi=>by
  have je:i∈lk:=by rw[li];exact List.mem_append.2 (.inl hi)
  exact⟨fun p hp=>pX FC (List.mem_map.2 ⟨_,hp,rfl⟩) je,fun hu=>pX oE hu je,je⟩
 obtain⟨aY,uf⟩:∃aY:Gh D,aY=⟨fun b=>ib m ((kept σ mv).map Prod.fst) σ.nx (aF.o b),mQ aF m,ed aF.v j.nx (cM T j.ci h)⟩:=⟨_,rfl⟩
 have aew:∀p i,(p,i)∈m.ids→ib m ((kept σ mv).map Prod.fst) σ.nx i=p:=fun p i hp=>by
  unfold ib
  rw[ER hex.ids hp]
 have pF:∀x,(∀p,(p,x)∉m.ids)→aq (swap m.ids) x=none:=fun x hn=>by
  cases hl:aq (swap m.ids) x with
  |none=>rfl
  |some p=>exact(hn p (qp.1 (cA hl))).elim
 have aev:∀i,i∈(kept σ mv).map Prod.fst→i<σ.nx→ib m ((kept σ mv).map Prod.fst) σ.nx i=i:=fun i hi fS=>by
  obtain⟨k1,k2,_⟩:=uE i hi
  unfold ib
  rw[pF i k1]
  have h1:bo m.ku i=false:=by
   cases hm:bo m.ku i with
   |true=>exact(k2 (dE.1 hm)).elim
   |false=>rfl
  have h2:Nat.blt i σ.nx=true:=Nat.ble_eq_true_of_le fS
  simp only[h1,Bool.false_eq_true,if_false,dE.2 hi,h2,Bool.and_self,if_true]
 have rZ:∀x,x<4→ib m ((kept σ mv).map Prod.fst) σ.nx x=x:=fun x hx=>by
  unfold ib
  rw[pF x fun p hp=>by have:=hex.xp p x hp;omega]
  have h1:bo m.ku x=false:=by
   cases hm:bo m.ku x with
   |true=>have:=(hex.ku x (dE.1 hm)).1;omega
   |false=>rfl
  simp only[h1,Bool.false_eq_true,if_false]
  split
  · rfl
  · first|rfl|rw[if_pos hx]
 have KI:∀x,x∈m.ku→ib m ((kept σ mv).map Prod.fst) σ.nx x=1:=fun x hx=>by
  unfold ib
  rw[pF x (hex.ku x hx).2]
  simp only[dE.2 hx,if_true]
 have So:∀x,(∃p,(p,x)∈m.ids∧ib m ((kept σ mv).map Prod.fst) σ.nx x=p)∨ib m ((kept σ mv).map Prod.fst) σ.nx x=1∨(ib m ((kept σ mv).map Prod.fst) σ.nx x=x∧(x<σ.nx∨x<4))∨ib m ((kept σ mv).map Prod.fst) σ.nx x=2:=fun x=>by
  unfold ib
  cases hl:aq (swap m.ids) x with
  |some p=>exact .inl ⟨p,qp.1 (cA hl),rfl⟩
  |none=>
   right
   dsimp only
   split
   · exact .inl rfl
   · split
     · rename_i hm
       simp only[Bool.and_eq_true] at hm
       exact .inr (.inl ⟨rfl,.inl (Nat.le_of_ble_eq_true hm.2)⟩)
     · split
       · rename_i hm
         exact .inr (.inl ⟨rfl,.inr hm⟩)
       · exact .inr (.inr rfl)
 have Bw:Fin T (fun i=>i<σ1.nx) (fun i=>i<j.nx+(cM T j.ci h).length) aF aY w1 m (cM T j.ci h) j.nx:=by
  subst uf
  refine⟨hex.dv,fun p i hp=>⟨?_,BC hex hp⟩,fun i x hx=> ?_,fun _ p hp Kt hU=>⟨?_, ?_⟩,fun K Kp cV hK qN b hb=> ?_,fun q K Kp hq cV hK qN b hb=> ?_,fun i d hd=> ?_⟩
  · have:=Fj p i hp
    show p<j.nx+_
    omega
  · have:=(hex.new _ hx).1
    simp only at this
    show ¬i<σ1.nx
    omega
  · rw[hex.O1] at Kt
    show p<j.nx+_
    omega
  · show mQ aF m p=aF.g p
    unfold mQ
    cases hl:aq m.ids p with
    |none=>rfl
    |some i=>
     have:=hex.key p i (cA hl)
     rw[hex.po_] at hp
     rw[hp] at this
     cases this
  · unfold M.may at cV
    rw[hex.vh] at cV
    simp only[Bool.false_eq_true,if_false,zr,List.all_eq_true] at cV
    have hb:aF.o b∈K:=hb
    show ib m _ _ (aF.o b)∈Kp
    rw[rZ _ (by have:=hK _ hb;omega)]
    exact dE.1 (cV _ hb)
  · unfold M.may at cV
    rw[hex.vh] at cV
    simp only[Bool.false_eq_true,if_false,zr,List.all_eq_true] at cV
    have hb:aF.o b∈q::K:=hb
    show ib m _ _ (aF.o b)∈Kp
    rcases List.mem_cons.1 hb with hb|hb
    · rw[hb,KI q hq]
      exact dE.1 (cV 1 (by simp))
    · rw[rZ _ (by have:=hK _ hb;omega)]
      exact dE.1 (cV _ (by simp[hb]))
  · refine .inr ⟨?_,Av hd⟩
    have:=(List.getElem?_eq_some_iff.1 hd).1
    show j.nx+i<_
    omega
 have Bv:yR aF aY m:=⟨fun p i hp b hb=>by
  subst uf
  show ib m _ _ (aF.o b)=p
  rw[hb]
  exact aew p i hp⟩
 obtain⟨g1,g2⟩:=nA Bw Bv
 have Fc:NW (fun i=>i<σ.nx) (fun i=>i<σ1.nx) (fun i=>i<j.nx+(cM T j.ci h).length) aF aY:=by
  subst uf
  refine⟨fun i hi=>⟨?_, ?_, ?_⟩,fun b hb=>rZ _ (by omega)⟩
  · show i<_
    have hi:i<σ.nx:=hi
    omega
  · show mQ aF m i=aF.g i
    unfold mQ
    cases hl:aq m.ids i with
    |none=>rfl
    |some x=>
     have hi:i<σ.nx:=hi
     rcases(Fj i x (cA hl)).2.1 with h1|rfl
     · omega
     · have A6:aq m.new i=none:=by
        cases hn:aq m.new i with
        |none=>rfl
        |some y=>
         have:=(hex.new _ (cA hn)).1
         have:=he.nx
         simp only at*
         omega
       simp only[A6]
  · exact JF (.inl (by have hi:i<σ.nx:=hi;omega))
 have aeu:∀b,aF.o b<4→aY.o b=aF.o b:=fun b hb=>by subst uf;exact rZ _ hb
 refine⟨aY,⟨fun t a ov=> ?_,⟨fun i x fR=> ?_,fun b hb=> ?_,fun x hx=> ?_⟩, ?_⟩,⟨⟨rfl,rfl,rfl,Nat.le_refl _,fun b hb hc=>⟨aeu b (by omega),rfl⟩,fun b hb hc=>⟨hb, ?_⟩⟩,fun i hi=>(Fc.u i (by have:=hk.bS;show i<σ.nx;omega)).2.1⟩,⟨fun t ht=> ?_,rfl,fun i hi=> ?_, ?_⟩,rfl⟩
 ·
  rw[gU] at ov
  unfold lQ at mJ
  split at mJ
  case h_2=>cases mJ
  rename_i gH af_
  cases mJ
  cases hl:aq (lQ.na (j.sl.map Prod.fst) gH) t with
  |some a'=>
   rw[hl] at ov
   cases ov
   exact Od (g1 gH af_) Ft hl
  |none=>
   rw[hl] at ov
   dsimp only at ov
   rw[tV (f:=fun t=> !(bo wr t))] at ov
   split at ov
   case isFalse=>cases ov
   rename_i mL
   have mL:t∉wr:=kj (by simpa using mL)
   have h1:aq σ1.sl t=some a:=(he.sl t mL).trans ov
   obtain⟨v,k1,k2⟩:=cZ.sr t a h1
   obtain⟨v0,_,k3⟩:=hk.sr t a ov
   exact⟨v,k1,eP.two Fc k2 k3⟩
 ·
  unfold cz at fR
  rw[gU] at fR
  cases hl:aq sb i with
  |some y=>
   rw[hl] at fR
   cases y with
   |none=>cases fR
   |some y=>
    cases fR
    obtain⟨k1,k2,k3⟩:=g2 sb KF i x (by unfold cz;rw[hl])
    obtain⟨q,hq⟩:=nq k1
    obtain⟨⟨_,k4⟩,_⟩:=kz _ hq
    have:=hk.bS
    refine⟨?_,k2,k3⟩
    rw[Bool.or_eq_true] at k4
    rcases k4 with k4|k4
    · have:=Nat.le_of_ble_eq_true k4
      simp only at*
      omega
    · exact hex.xp i i (hex.Km _ (List.mem_map.2 ⟨_,List.mem_filter.2 ⟨hq,k4⟩,rfl⟩))
  |none=>
   rw[hl] at fR
   dsimp only at fR
   have mN:cz σ.ob i=some x∧i∈(kept σ mv).map Prod.fst:=by
    unfold kept at fR⊢
    rw[tV (f:=fun t=> !(bo mv t))] at fR
    by_cases hm:(!bo mv i)=true
    · rw[if_pos hm] at fR
      refine⟨fR, ?_⟩
      cases nz:aq σ.ob i with
      |none=>rw[nz] at fR;cases fR
      |some y=>exact List.mem_map.2 ⟨(i,y),List.mem_filter.2 ⟨cA nz,hm⟩,rfl⟩
    · rw[if_neg hm] at fR;cases fR
   obtain⟨mM,SM⟩:=mN
   have h1:cz σ1.ob i=some x:=by
    have:=he.ob i (by show i∈lk;exact(uE i SM).2.2)
    unfold cz at mM⊢
    rw[this]
    exact mM
   obtain⟨k1,k2,k3⟩:=cZ.ob.ob i x h1
   obtain⟨_,m2,m3⟩:=hk.ob.ob i x mM
   refine⟨k1,(Fc.u i m2).1,OR.two Fc m2 (fun b hb=> ?_) k3 m3⟩
   subst uf
   show ib m _ _ (aF.o b)=i
   rw[hb]
   exact aev i SM m2
 ·
  show aY.o b<j.nx+_
  subst uf
  show ib m _ _ (aF.o b)<_
  have:=hk.bS
  rcases So (aF.o b) with⟨p,h1,h2⟩|h1|⟨h1,h2⟩|h1
  · have:=Fj p _ h1;omega
  · omega
  · rw[h1]
    omega
  · omega
 · show x<j.nx+_
   have:=hk.bS
   omega
 · show 2000≤j.nx+_
   have:=hk.bS
   omega
 ·
  subst uf
  show aF.o b=ib m _ _ (aF.o b)
  have hc:ib m ((kept σ mv).map Prod.fst) σ.nx (aF.o b)=0∨ib m ((kept σ mv).map Prod.fst) σ.nx (aF.o b)=3:=hc
  have:=hk.bS
  rcases So (aF.o b) with⟨p,h1,h2⟩|h1|⟨h1,h2⟩|h1
  · have:=Fj p _ h1;omega
  · omega
  · exact h1.symm
  · omega
 ·
  show aq (sa++_) t=_
  rw[gU]
  have:aq sa t=none:=by
   unfold lQ at mJ
   split at mJ
   case h_2=>cases mJ
   cases mJ
   cases hl:aq (lQ.na (j.sl.map Prod.fst) _) t with
   |none=>rfl
   |some a=>
    have:=HX hl
    simp only[List.mem_map] at this
    obtain⟨q,hq,rfl⟩:=this
    exact(ht (dE.1 (pI _ hq))).elim
  rw[this]
  dsimp only
  rw[tV (f:=fun t=> !(bo wr t))]
  rw[if_pos]
  cases hm:bo wr t with
  |true=>exact(ht (dE.1 hm)).elim
  |false=>rfl
 ·
  show aq (sb++kept σ mv) i=_
  rw[gU]
  have:aq sb i=none:=by
   cases hl:aq sb i with
   |none=>rfl
   |some y=>
    obtain⟨p,q,y',k1,k2,_⟩:=Ke KF hl
    cases k2
    obtain⟨⟨_,_⟩,k3⟩:=kz _ k1
    have cq:i∈lk:=hi
    rw[li] at cq
    exact(kj k3 cq).elim
  rw[this]
  unfold kept
  dsimp only
  rw[tV (f:=fun t=> !(bo mv t)),if_pos]
  cases hm:bo mv i with
  |true=>
   have cq:i∈lk:=hi
   rw[li] at cq
   rcases List.mem_append.1 cq with cq|cq
   · unfold kept at cq
     simp only[List.mem_map,List.mem_filter] at cq
     obtain⟨q,⟨_,hq⟩,rfl⟩:=cq
     rw[hm] at hq
     cases hq
   · exact(pX A9 (dE.1 hm) cq).elim
  |false=>rfl
 · show σ.nx≤j.nx+_
   omega
end
end Rx
end Go.Proofs.YtaneejpkncdodaaGreat
namespace Go.Proofs.YtaneejpkncdodaaGreat
open Go Go.RowKit Dp
namespace Rx
section
variable {D:Nat→Type} [∀n,ad (D n)]
variable {P:Program} {T:aV D} {Φ:List (au D)} {n:Nat} {γ:Gh D} {w:World} {L:List (Nat×Value)} {Qx:Exit→Act→World→Prop}
theorem jF.append{U:Nat→Prop}:∀{as:List (AV D)} {vs:List Value} {bs:List (AV D)} {us:List Value},jF U γ w as vs→jF U γ w bs us→jF U γ w (as++bs) (vs++us)
 |[],[],_,_,_,h=>h
 |a::as,v::vs,_,_,h,h'=>⟨h.1,jF.append h.2 h'⟩
 |[],_::_,_,_,h,_=>h.elim
 |_::_,[],_,_,h,_=>h.elim
theorem M5{U:Nat→Prop}:∀{cs:List (A0 D)} {vs:List Value},jG U γ w cs vs→jF U γ w (cs.map M6) vs
 |[],[],_=>trivial
 |c::cs,v::vs,h=>by
  refine⟨?_,M5 h.2⟩
  cases c with
  |ptr i off=>exact h.1
  |rp n x off K=>exact h.1
 |[],_::_,h=>h.elim
 |_::_,[],h=>h.elim
theorem QL [Rd](hP:dg P T)(hR:bR T)(cH:∀c∈Φ,il P T c){U:Nat→Prop}{aj:Nat}{sl:List (Nat×AV D)}{ob:List (Nat×Option (AO D))}{d:Option Tmp}{ty:TypeId}{pos:String}{af:Array Edge}{gd:Option (Nat×Bool)}{e:bX D}{l:List Nat}
  (hx:Cx U aj γ w sl L ob) {op:Op} {as:List (AV D)} (he:dt sl op.operands.toList=some as) (h:Q.R ob (tP T Φ aj op as) l e):
  OW P Qx L ⟨d,op,ty,pos,af,gd⟩ w (fun v w'=>∃γ',cO U aj γ w ob e γ' v w'):=by
 unfold tP at h
 split at h
 · rename_i u GF ts
   have he:dt sl (u::GF.toList)=some as:=by simpa[Op.operands,Call.operands] using he
   split at h
   case h_2=>exact(h:False).elim
   rename_i f fI gH _
   obtain⟨h1,h2⟩:=oL he
   obtain⟨vu,k1,cs,rfl,k2⟩:=bQ hx.sr h1
   obtain⟨vs,k3,k4⟩:=Ua hx.sr h2
   split at h
   · rename_i hf
     have e0:pT f cs= .func (.func f) #[] cs.toArray:=if_pos hf
     rw[e0] at k1
     obtain⟨m1,m2⟩:=UI hR cH hx (jF.append k4 (M5 k2)) h
     have:=OW.aix (P:=P) (Q:=Qx) (L:=L) (w:=w) (d:=d) (ty:=ty) (pos:=pos) (af:=af) (g:=gd) (f:=f) (u:=u) (args:=GF.toList) (fI:=cs.toArray) (vs:=vs) (ats:=ts) m1 k1 k3 (by simpa using m2)
     simpa using this
   · rename_i hf
     have e0:pT f cs= .func (.func (f-1000000)) cs.toArray #[]:=if_neg (by rw[hf];decide)
     rw[e0] at k1
     obtain⟨m1,m2⟩:=UI hR cH hx (jF.append (M5 k2) k4) h
     refine OW.PY fun a hr=>⟨f-1000000,(cs++vs).toArray, ?_,m2⟩
     simp[execOp,resolve,invoke,Deferred.ofValue,hr _ _ k1,m1]
     exact xP hr _ k3
 · exact ab9 hP hR hx he h
def mz(d:Option Tmp)(v:Value)(L:List (Nat×Value)):List (Nat×Value):=match d with
 |some d=>(d,v)::L
 |none=>L
theorem Fr.mz [I:Rd]{a:Act}(h:Fr n L a){d:Option Tmp}(hd:∀t,d=some t→I.fp n t=true)(v:Value):Fr n (mz d v L) (a.put d v):=by
 cases d with
 |none=>exact h
 |some t=>exact h.put (hd t rfl) v
theorem WL.take [I:Rd]{ops:Array Oper}{rest:List Oper}{o:Oper}{R:Value→World→Prop}(hd:∀t,o.dst=some t→I.fp n t=true)(hw:∀a,Fr n L a→Region.wanted o (yielded ops a.tmps)=true)(h:OW P Qx L o w R)
  (k:∀v w',R v w'→WL P n ops Qx rest (mz o.dst v L) w'):WL P n ops Qx (o::rest) L w:=by
 intro a ha
 refine wpListIn_step fun K hK=> ?_
 rw[if_pos (hw a ha)]
 exact h a K (fun x v hx=>ha.ev hx) fun v w' hr=>hK _ _ (k v w' hr _ (Fr.mz ha hd v))
theorem WL.pass [I:Rd]{ops:Array Oper}{rest:List Oper}{o:Oper}(hd:∀t,o.dst=some t→I.fp n t=true)(hw:∀a,Fr n L a→Region.wanted o (yielded ops a.tmps)=false)
  (k:WL P n ops Qx rest (mz o.dst undef L) w):WL P n ops Qx (o::rest) L w:=by
 intro a ha
 refine wpListIn_step fun K hK=> ?_
 rw[if_neg (by rw[hw a ha];simp)]
 exact⟨fun _ _=>trivial,hK _ _ (k _ (Fr.mz ha hd _))⟩
theorem Il [Rd]{ops:List Oper}{j d:Nat}{og:Oper}{b:Bool}{a:Act}(ha:Fr n L a)(hj:ops[j]? =some og)(hd:og.dst=some d)(hl:Dp.look L d=some (.bool b)):yielded ops.toArray a.tmps j=some b:=by
 have:=ha.get d _ hl
 simp[yielded,hj,hd,this]
theorem O0 [Rd]{ops:List Oper}{j d:Nat}{og:Oper}{a:Act}(ha:Fr n L a)(hj:ops[j]? =some og)(hd:og.dst=some d)(hl:Dp.look L d=some undef):yielded ops.toArray a.tmps j=none:=by
 have:=ha.get d _ hl
 simp[yielded,hj,hd,this,undef]
theorem alt(N:Nat):fW (fun i=>i<N) N=fun i=>i<N+64:=by
 funext i
 unfold fW
 apply propext
 omega
theorem Kn.cx{σ:S D}(h:Kn σ γ w L):Cx (fun i=>i<σ.nx) σ.nx γ w σ.sl L σ.ob:=
 ⟨h.sr,h.ob,fun i h1 h2 h3=>by omega,by have:=h.bS;omega⟩
theorem Kn.ap{σ:S D}{γ':Gh D}{w':World}{v:Value}{e:bX D}(h:Kn σ γ w L)(hp:cO (fun i=>i<σ.nx) σ.nx γ w σ.ob e γ' v w')(d:Option Tmp):Kn (sT σ d e) γ' w' (mz d v L):=by
 have dY:=hp.kp
 have uN:=hp.dst
 have bb:=hp.ob
 rw[alt] at dY uN bb
 refine⟨?_,bb,by show 2000≤σ.nx+64;have:=h.bS;omega⟩
 cases d with
 |none=>exact h.sr.cp dY
 |some t=>exact(h.sr.cp dY).cons uN
theorem Kn.skip{σ:S D}(h:Kn σ γ w L)(d:Option Tmp):Kn (pb σ d) γ w (mz d undef L):=by
 have dY:fx (fun i=>i<σ.nx) (fun i=>i<σ.nx+64) γ w γ w:=⟨fun i h=>by show i<_;have h:i<σ.nx:=h;omega,fun _ _=>rfl,fun _ _=>rfl,fun _ _ _=>⟨rfl,rfl⟩⟩
 refine⟨?_,⟨fun i x hx=> ?_,fun b hb=>dY.u _ (h.ob.cl b hb),fun x hx=>dY.u _ (h.ob.ro x hx)⟩,by show 2000≤σ.nx+64;have:=h.bS;omega⟩
 · cases d with
   |none=>exact h.sr.cp dY
   |some t=>exact(h.sr.cp dY).cons rfl
 · obtain⟨h1,h2,h3⟩:=h.ob.ob i x hx
   exact⟨h1,dY.u _ h2,h3.cp dY h2 fun _ _ _=>⟨rfl,rfl⟩⟩
theorem JV{α:Type}{l:List (Nat×α)}{d:Nat}{a:α}(h:aq l d=some a)(t:Nat):aq ((d,a)::l) t=aq l t:=by
 simp only[aq]
 cases hb:Nat.beq d t with
 |true=>
  have:=Nat.eq_of_beq_eq_true hb
  subst this
  simp[h]
 |false=>rfl
theorem Kn.iq{σ:S D}{d:Nat}{c:Bool}{K:List Nat}{g:Nat}(h:Kn σ γ w L)(hd:aq σ.sl d=some (.c (.one (.v .bool c K g)))):Kn (iq σ d c K g) γ w L:=
 ⟨fun t a ha=>h.sr t a (by rw[←JV hd];exact ha),h.ob,h.bS⟩
theorem bx.iq{σ:S D}{d:Nat}{c:Bool}{K:List Nat}{g:Nat}(wr:List Nat)(hd:aq σ.sl d=some (.c (.one (.v .bool c K g)))):bx wr σ (iq σ d c K g):=
 ⟨fun t _=>JV hd t,rfl,fun _ _=>rfl,Nat.le_refl _⟩
theorem bx.ap{σ:S D}{e:bX D}{d:Option Tmp}{wr:List Nat}(hd:∀t,d=some t→t∈wr)(he:xS σ.lk e=true):bx wr σ (sT σ d e):=by
 unfold xS at he
 simp only[Bool.and_eq_true] at he
 refine⟨fun t ht=> ?_,rfl,fun i hi=> ?_,by show σ.nx≤σ.nx+64;omega⟩
 · cases d with
   |none=>rfl
   |some d=>
    show aq ((d,e.dst)::σ.sl) t=_
    simp only[aq]
    have:Nat.beq d t=false:=by
     cases hb:Nat.beq d t with
     |true=>
      have:=Nat.eq_of_beq_eq_true hb
      exact(ht (hd t (by rw[this]))).elim
     |false=>rfl
    rw[this]
    rfl
 · show aq (e.fz.map (fun i=>(i,none))++e.nh++σ.ob) i=_
   have h1:aq (e.fz.map fun i=>(i,(none:Option (AO D)))) i=none:=by
    rw[lP]
    intro hm
    simp only[List.map_map,List.mem_map] at hm
    obtain⟨x,hx,rfl⟩:=hm
    exact pX he.2 hx hi
   have h2:aq e.nh i=none:=by
    rw[lP]
    exact fun hm=>pX he.1 hm hi
   rw[List.append_assoc,gU,h1]
   dsimp only
   rw[gU,h2]
theorem bx.skip{σ:S D}{d:Option Tmp}{wr:List Nat}(hd:∀t,d=some t→t∈wr):bx wr σ (pb σ d):=by
 refine⟨fun t ht=> ?_,rfl,fun _ _=>rfl,by show σ.nx≤σ.nx+64;omega⟩
 cases d with
 |none=>rfl
 |some d=>
  show aq ((d,_)::σ.sl) t=_
  simp only[aq]
  have:Nat.beq d t=false:=by
   cases hb:Nat.beq d t with
   |true=>
    have:=Nat.eq_of_beq_eq_true hb
    exact(ht (hd t (by rw[this]))).elim
   |false=>rfl
  rw[this]
  rfl
theorem Pt{ρ:Type}{p:Nat}{o:Oper}{σ:S D}{lg:List Lg}{k:S D→List Lg→Option ρ}{r:ρ}(h:tF T Φ p o σ lg k=some r):
  ∃as e l,dt σ.sl o.op.operands.toList=some as∧Q.R σ.ob (tP T Φ σ.nx o.op as) l e∧xS σ.lk e=true∧k (sT σ o.dst e) (⟨p,l.reverse,e.wr⟩::lg)=some r:=by
 unfold tF at h
 split at h
 case h_2=>cases h
 rename_i as ha
 obtain⟨l,e,h1,h2⟩:=Q.FX h
 split at h2
 case h_2=>cases h2
 rename_i hc
 exact⟨as,e,l,ha,h1,hc,by simpa using h2⟩
theorem ML{o:Oper}{r:List Oper}{t:Nat}(h:o.dst=some t):t∈dstsOf (o::r):=by
 unfold dstsOf
 simp[List.filterMap_cons,h]
theorem MK{o:Oper}{r:List Oper}{t:Nat}(h:t∈dstsOf r):t∈dstsOf (o::r):=by
 unfold dstsOf at h⊢
 rw[List.filterMap_cons]
 split
 · exact h
 · exact List.mem_cons_of_mem _ h
theorem Mf{ops:List Oper}{sl:List (Nat×AV D)}{j d:Nat}{a:AV D}(h:guardOf ops sl j=some (d,a)):∃og,ops[j]? =some og∧og.dst=some d∧aq sl d=some a:=by
 unfold guardOf at h
 split at h
 case h_2=>cases h
 rename_i og ho
 split at h
 case h_2=>cases h
 rename_i d' hd
 split at h
 case h_2=>cases h
 rename_i a' ha
 cases h
 exact⟨og,ho,hd,ha⟩
theorem BZ{ρ:Type}{c:Bool}{a b:Option ρ}{r:ρ}(h:pZ c a b=some r):(c=true∧a=some r)∨(c=false∧b=some r):=by
 cases c with
 |true=>exact .inl ⟨rfl,h⟩
 |false=>exact .inr ⟨rfl,h⟩
section
variable (hP:dg P T) (hR:bR T) (cH:∀c∈Φ,il P T c)
include hP hR cH
theorem aag [Rd]{σ:S D}(hk:Kn σ γ w L){o:Oper}{as:List (AV D)}{e:bX D}{l:List Nat}(ha:dt σ.sl o.op.operands.toList=some as)(hq:Q.R σ.ob (tP T Φ σ.nx o.op as) l e):
  OW P Qx L o w (fun v w'=>∃γ',Frame γ w γ' w'∧Kn (sT σ o.dst e) γ' w' (mz o.dst v L)):=by
 obtain⟨d,op,ty,pos,af,gd⟩:=o
 refine OW.mono (QL hP hR cH hk.cx ha hq) ?_
 rintro v w' ⟨γ',hp⟩
 exact⟨γ',hp.fr,hk.ap hp d⟩
theorem sJ [I:Rd]{ops:List Oper}:∀{l:List Oper} {p:Nat} {σ:S D} {lg:List Lg} {ρ:Type} {k:S D→List Lg→Option ρ} {r:ρ} {γ:Gh D} {w:World} {L:List (Nat×Value)},ii T Φ ops l p σ lg k=some r→(∀t∈dstsOf l,I.fp n t=true)→Kn σ γ w L→
  (∀aJ AF γ' w' L',Kn aJ γ' w' L'→Frame γ w γ' w'→bx (dstsOf l) σ aJ→k aJ AF=some r→NK n (Qx .normal) L' w')→WL P n ops.toArray Qx l L w
 |[],p,σ,lg,ρ,k,r,γ,w,L,h,hd,hk,hc=>WL.nil (hc σ lg γ w L hk (Frame.refl _ _) (bx.refl _ _) h)
 |o::l,p,σ,lg,ρ,k,r,γ,w,L,h,hd,hk,hc=>by
  have qQ:∀t,o.dst=some t→I.fp n t=true:=fun t ht=>hd t (ML ht)
  have qR:∀t∈dstsOf l,I.fp n t=true:=fun t ht=>hd t (MK ht)
  have run:∀{dJ:S D},Kn dJ γ w L→bx (dstsOf (o::l)) σ dJ→(∀a,Fr n L a→Region.wanted o (yielded ops.toArray a.tmps)=true)→tF T Φ p o dJ lg (fun σ lg=>ii T Φ ops l (p+1) σ lg k)=some r→WL P n ops.toArray Qx (o::l) L w:=by
   intro dJ lj mP hw h
   obtain⟨as,e,l',h1,h2,h3,h4⟩:=Pt h
   refine WL.take qQ hw (aag hP hR cH lj h1 h2) ?_
   rintro v w' ⟨γ',hf,bB⟩
   have iC:bx (dstsOf (o::l)) dJ (sT dJ o.dst e):=bx.ap (fun t ht=>ML ht) h3
   exact sJ h4 qR bB fun aJ AF vF o8 yP Li Lx LB LO=>hc aJ AF vF o8 yP Li (hf.trans Lx) ((mP.trans iC).trans (LB.mono fun t ht=>MK ht)) LO
  have pass:∀{dJ:S D},Kn dJ γ w L→bx (dstsOf (o::l)) σ dJ→(∀a,Fr n L a→Region.wanted o (yielded ops.toArray a.tmps)=false)→ii T Φ ops l (p+1) (pb dJ o.dst) lg k=some r→WL P n ops.toArray Qx (o::l) L w:=by
   intro dJ lj mP hw h
   refine WL.pass qQ hw ?_
   have iC:bx (dstsOf (o::l)) dJ (pb dJ o.dst):=bx.skip fun t ht=>ML ht
   exact sJ h qR (lj.skip o.dst) fun aJ AF vF o8 yP Li Lx LB LO=>hc aJ AF vF o8 yP Li Lx ((mP.trans iC).trans (LB.mono fun t ht=>MK ht)) LO
  simp only[ii] at h
  split at h
  · rename_i hg
    exact run hk (bx.refl _ _) (fun a _=>by simp[Region.wanted,hg]) h
  · rename_i j b hg
    split at h
    case h_1=>cases h
    rename_i d a pJ
    obtain⟨og,ho,xH,hl⟩:=Mf pJ
    split at h
    · rename_i c K g
      obtain⟨v,rX,iM⟩:=hk.sr d _ hl
      have iM:v= .bool c:=iM.1
      subst iM
      have hy:∀a,Fr n L a→Region.wanted o (yielded ops.toArray a.tmps)=(c==b):=fun a ha=>by
       simp[Region.wanted,hg,Il ha ho xH rX]
      rcases BZ h with⟨rfl,h⟩|⟨rfl,h⟩
      · have fE:=hk.iq hl
        have lY:=bx.iq (dstsOf (o::l)) hl
        cases b with
        |true=>exact run fE lY (fun a ha=>by rw[hy a ha];rfl) h
        |false=>exact pass fE lY (fun a ha=>by rw[hy a ha];rfl) h
      · have fE:=hk.iq hl
        have lY:=bx.iq (dstsOf (o::l)) hl
        cases b with
        |true=>exact pass fE lY (fun a ha=>by rw[hy a ha];rfl) h
        |false=>exact run fE lY (fun a ha=>by rw[hy a ha];rfl) h
    · split at h
      case isFalse=>cases h
      rename_i hu
      have ha:a= .c (.one .undef):=by
       unfold Ka at hu
       split at hu
       · rfl
       · cases hu
      subst ha
      obtain⟨v,rX,iM⟩:=hk.sr d _ hl
      have iM:v=undef:=iM
      subst iM
      exact pass hk (bx.refl _ _) (fun a ha=>by simp[Region.wanted,hg,O0 ha ho xH rX]) h
end
end
end Rx
end Go.Proofs.YtaneejpkncdodaaGreat
namespace Go.Proofs.YtaneejpkncdodaaGreat
open Go Go.RowKit Dp
namespace Rx
section
variable {D:Nat→Type} [∀n,ad (D n)]
variable {P:Program} {T:aV D} {Φ:List (au D)} {n:Nat} {γ:Gh D} {w:World} {L:List (Nat×Value)} {Qx:Exit→Act→World→Prop}
theorem Out.Ct:∀{a b:Out},a.beq b=true→a=b
 | .normal,.normal,_=>rfl
 | .exit a,.exit b,h=>by rw[Nat.eq_of_beq_eq_true h]
 | .goto a,.goto b,h=>by rw[Nat.eq_of_beq_eq_true h]
 | .ret,.ret,_=>rfl
 | .normal,.exit _,h=>by cases h
 | .normal,.goto _,h=>by cases h
 | .normal,.ret,h=>by cases h
 | .exit _,.normal,h=>by cases h
 | .exit _,.goto _,h=>by cases h
 | .exit _,.ret,h=>by cases h
 | .goto _,.normal,h=>by cases h
 | .goto _,.exit _,h=>by cases h
 | .goto _,.ret,h=>by cases h
 | .ret,.normal,h=>by cases h
 | .ret,.exit _,h=>by cases h
 | .ret,.goto _,h=>by cases h
theorem Mk{ρ:Type}{j:J}{wr mv:List Nat}{σ:S D}{k:S D→Option ρ}{h:HH D j.ci}{r:ρ}(e:BD T j wr mv σ k h=some r):∃bc,kZ T j wr mv σ h=some bc∧k bc=some r:=by
 unfold BD at e
 split at e
 · rename_i aJ h1
   exact⟨aJ,h1,e⟩
 · cases e
theorem vR{ρ:Type}{wr mv:List Nat}{σ σ1:S D}{k:Out→S D→Option ρ}{kv:Option ρ}{o:Out}{r:ρ}:∀{E:List (Out×J)} {pr:Bool} {x:nP D pr ρ E},toE T pr E o σ1 kv=some x→oH T pr wr mv σ k E x=some r→
  (∃j h bc,vE T j σ1 h∧kZ T j wr mv σ h=some bc∧k o bc=some r)∨kv=some r
 |[],pr,x,h,hf=>by
  simp only[toE] at h
  simp only[oH] at hf
  exact .inr (h.trans hf)
 |(o',j)::E,pr,x,h,hf=>by
  cases pr with
  |true=>
   cases E with
   |nil=>
    simp only[toE] at h
    split at h
    case isFalse=>cases h
    rename_i hb
    obtain⟨y,h1,h2⟩:=pV h
    cases h2
    have:=Out.Ct hb
    subst this
    simp only[oH] at hf
    obtain⟨bc,h3,h4⟩:=Mk hf
    exact .inl ⟨j,x,bc,h1,h3,h4⟩
   |cons e E=>
    simp only[toE] at h
    split at h
    · rename_i hb
      obtain⟨y,h1,h2⟩:=pV h
      cases h2
      have:=Out.Ct hb
      subst this
      simp only[oH,w6,Sum.elim_inl] at hf
      obtain⟨bc,h3,h4⟩:=Mk hf
      exact .inl ⟨j,y,bc,h1,h3,h4⟩
    · split at h
      case h_2=>cases h
      rename_i y hy
      cases h
      simp only[oH,w6,Sum.elim_inr] at hf
      exact vR hy hf
  |false=>
   simp only[toE] at h
   split at h
   · rename_i hb
     obtain⟨y,h1,h2⟩:=pV h
     cases h2
     have:=Out.Ct hb
     subst this
     simp only[oH,w6,Sum.elim_inl] at hf
     obtain⟨bc,h3,h4⟩:=Mk hf
     exact .inl ⟨j,y,bc,h1,h3,h4⟩
   · split at h
     case h_2=>cases h
     rename_i y hy
     cases h
     simp only[oH,w6,Sum.elim_inr] at hf
     exact vR hy hf
theorem Kn.lk{σ:S D}(h:Kn σ γ w L)(l:List Nat):Kn {σ with lk:=l} γ w L:=⟨h.sr,h.ob,h.bS⟩
theorem bx.vO{wr:List Nat}{σ σ1:S D}{lk:List Nat}(hs:∀i∈σ.lk,i∈lk)(h:bx wr {σ with lk:=lk} σ1):bx wr σ {σ1 with lk:=σ.lk}:=
 ⟨h.sl,rfl,fun i hi=>h.ob i (hs i hi),h.nx⟩
theorem tx(hR:bR T){cut:Option (Bool×List (Out×J))}{wr:List Nat}{ρ:Type}{body:∀{eg:Type},S D→(Out→S D→Option eg)→Option eg}{σ:S D}{k:Out→S D→Option ρ}{r:ρ}(h:wrap T wr cut body σ k=some r)(hk:Kn σ γ w L){G:Prop}(X:Out→List (Nat×Value)→World→Prop)
  (uP:∀{eg:Type} {aJ:S D} {k':Out→S D→Option eg} {r':eg},body aJ k'=some r'→Kn aJ γ w L→(∀o σ1 aF w1 L1,Kn σ1 aF w1 L1→Frame γ w aF w1→bx wr aJ σ1→k' o σ1=some r'→X o L1 w1)→G)
  (hc:∀o σ1 aF w1 L1,Kn σ1 aF w1 L1→Frame γ w aF w1→bx wr σ σ1→k o σ1=some r→X o L1 w1):G:=by
 unfold wrap at h
 split at h
 · exact uP h hk hc
 · rename_i pr E
   obtain⟨x,hx,hf⟩:=p_ h
   refine uP hx (hk.lk _) fun o σ1 aF w1 L1 cZ cJ he hto=> ?_
   have hs:∀i∈σ.lk,i∈(kept σ (pn E)).map Prod.fst++σ.lk:=fun i hi=>List.mem_append.2 (.inr hi)
   rcases vR hto hf with⟨j,y,bc,h1,h2,h3⟩|h1
   · obtain⟨aY,k1,k2,k3,k4⟩:=uc hR rfl hk cZ he h1 h2
     have:=k3.vO (σ:=σ) hs
     have e:({bc with lk:=σ.lk}:S D)=bc:=by rw[←k4]
     rw[show({({bc with lk:=(kept σ (pn E)).map Prod.fst++σ.lk}:S D) with lk:=σ.lk}:S D)={bc with lk:=σ.lk} from rfl,e] at this
     exact hc o bc aY w1 L1 k1 (cJ.trans k2) this h3
   · exact hc o _ aF w1 L1 (cZ.lk _) cJ (he.vO hs) h1
theorem Yd [I:Rd]{o:Oper}{a:Act}{w:World}{K:Act→World→Prop}{K2:Act→World→Prop}(hh:o.wpIn I.F 0 P a w K (Exit.then K2 Qx)):o.wpIn I.F 0 P a w K Qx:=by
 unfold Oper.wpIn at*
 refine⟨hh.1, ?_⟩
 have hh:=hh.2
 generalize (o.semAt I.F.round a.eval).run P w=r at*
 cases r with
 |ok n w'=>
  cases n<;>simp only[Oper.uponIn] at hh⊢<;>
   first
    |exact hh
    |exact⟨hh.1,hh.2.mono (fun e o8 he=>by cases e<;>exact he)⟩
    |exact⟨hh.1,hh.2.mono (fun _ _ he=>he)⟩
 |halt x w'=>cases x<;>simp only[Oper.uponIn] at hh⊢<;>exact hh
theorem JZ [I:Rd]{ops:Array Oper}{l2:List Oper}:∀{l1:List Oper} {a:Act} {w:World},wpListIn I.F 0 P ops (Exit.then (wpListIn I.F 0 P ops Qx l2) Qx) l1 a w→wpListIn I.F 0 P ops Qx (l1++l2) a w
 |[],a,w,h=>h
 |o::l1,a,w,h=>by
  unfold wpListIn at h
  show wpListIn I.F 0 P ops Qx (o::(l1++l2)) a w
  unfold wpListIn
  split
  · rename_i hw
    rw[if_pos hw] at h
    exact Oper.wpIn_mono (fun a w h=>JZ h) (Yd h)
  · rename_i hw
    rw[if_neg hw] at h
    exact⟨h.1,JZ h.2⟩
theorem WL.bD [Rd]{ops:Array Oper}{l1 l2:List Oper}(h:∀K:Act→World→Prop,(∀L' w',WL P n ops Qx l2 L' w'→NK n K L' w')→WL P n ops (Exit.then K Qx) l1 L w):WL P n ops Qx (l1++l2) L w:=
 fun a ha=>JZ (h _ (fun _ _ hc a' eY=>hc a' eY) a ha)
theorem MM(a b:List Oper):dstsOf (a++b)=dstsOf a++dstsOf b:=by
 unfold dstsOf
 simp
theorem ZO{σ:S D}{γ:Gh D}{w:World}{L:List (Nat×Value)}{i m t tc q g h:Nat}{xs:List (D m)}(hk:Kn σ γ w L)(ho:cz σ.ob i=some (.bY m t tc q xs g h))(hl:bo σ.lk i=false):
  ∃aY,Kn {σ with ob:=(i,some (.sl m t xs [1] g))::σ.ob} aY w L∧Frame γ w aY w∧bx [] σ {σ with ob:=(i,some (.sl m t xs [1] g))::σ.ob}:=by
 obtain⟨hi,hU,h1,h2,_⟩:=hk.ob.ob i _ ho
 obtain⟨o',ld⟩:∃o':bF,o'=fun b=>if γ.o b=i∧qO (γ.g i) b=false then 1 else γ.o b:=⟨_,rfl⟩
 have be:∀b,γ.o b≠i→o' b=γ.o b:=fun b hb=>by rw[ld];exact if_neg fun hc=>hb hc.1
 have hhd:∀b,qO (γ.g i) b=true→o' b=γ.o b:=fun b hb=>by rw[ld];exact if_neg fun hc=>by rw[hb] at hc;cases hc.2
 have fT:∀b,γ.o b=i→qO (γ.g i) b=false→o' b=1:=fun b e hb=>by rw[ld];exact if_pos ⟨e,hb⟩
 have uv:∀b,o' b=γ.o b∨o' b=1∧γ.o b=i:=fun b=>by
  rw[ld]
  by_cases hc:γ.o b=i∧qO (γ.g i) b=false
  · exact .inr ⟨if_pos hc,hc.1⟩
  · exact .inl (if_neg hc)
 have kp:fx (fun i=>i<σ.nx) (fun i=>i<σ.nx) γ w ⟨o',γ.g,γ.v⟩ w:=⟨fun _ h=>h,fun _ _=>rfl,fun _ _=>rfl,fun b _ hc=>⟨be b (by omega),rfl⟩⟩
 refine⟨⟨o',γ.g,γ.v⟩,⟨hk.sr.cp kp,⟨fun j x hx=> ?_,fun b hb=> ?_,hk.ob.ro⟩,hk.bS⟩,⟨⟨rfl,rfl,rfl,Nat.le_refl _,fun b _ hc=>⟨be b (by omega),rfl⟩,fun b hb hc=>⟨hb, ?_⟩⟩,fun _ _=>rfl⟩,⟨fun _ _=>rfl,rfl,fun j hj=> ?_,Nat.le_refl _⟩⟩
 · by_cases dZ:i=j
   · subst dZ
     have e:cz ((i,some (AO.sl m t xs [1] g))::σ.ob) i=some (.sl m t xs [1] g):=by simp[cz,aq]
     rw[e] at hx
     cases hx
     refine⟨hi,hU, ?_,fun x hx=>by rw[List.mem_singleton.1 hx];omega,h2.cp kp⟩
     refine Ow.oc (fun b hb=> ?_) (fun b hb=> ?_) h1.ow
     · obtain⟨f1,f2⟩:=xj hb
       show o' b=i
       rw[hhd b f2,f1]
     · have hb:iu γ.o i (γ.g i) b=1:=by simpa[In] using hb
       obtain⟨f1,f2⟩:=xi hb
       show o' b∈[1]
       rw[fT b f1 f2]
       exact List.mem_singleton.2 rfl
   · have hb:Nat.beq i j=false:=by
      cases hb:Nat.beq i j with
      |true=>exact(dZ (Nat.eq_of_beq_eq_true hb)).elim
      |false=>rfl
     have e:cz ((i,some (AO.sl m t xs [1] g))::σ.ob) j=cz σ.ob j:=by simp[cz,aq,hb]
     rw[e] at hx
     obtain⟨k1,k2,k3⟩:=hk.ob.ob j x hx
     exact⟨k1,k2,k3.cp kp k2 fun b _ hb=>⟨be b (by rw[hb];exact fun e=>dZ e.symm),rfl⟩⟩
 · show o' b<σ.nx
   rcases uv b with e|⟨e,_⟩
   · rw[e];exact hk.ob.cl b hb
   · rw[e];have:=hk.bS;omega
 · rcases uv b with e|⟨e,_⟩
   · exact e.symm
   · have hc:o' b=0∨o' b=3:=hc
     omega
 · have be:i≠j:=fun e=>kj hl (e▸hj)
   have hb:Nat.beq i j=false:=by
    cases hb:Nat.beq i j with
    |true=>exact(be (Nat.eq_of_beq_eq_true hb)).elim
    |false=>rfl
   simp[aq,hb]
theorem Pj{w:World}{L:List (Nat×Value)}:∀{b:List Nat} {σ bc:S D} {γ:Gh D},rk σ b=some bc→Kn σ γ w L→∃aY,Kn bc aY w L∧Frame γ w aY w∧bx [] σ bc
 |[],σ,bc,γ,h,hk=>by
  cases h
  exact⟨γ,hk,Frame.refl _ _,bx.refl _ _⟩
 |i::r,σ,bc,γ,h,hk=>by
  simp only[rk] at h
  split at h
  case h_2=>cases h
  rename_i m t tc q xs g ht ho
  split at h
  case isTrue=>cases h
  rename_i hl
  obtain⟨aF,k1,k2,k3⟩:=ZO hk ho (by simpa using hl)
  obtain⟨aY,j1,j2,j3⟩:=Pj h k1
  exact⟨aY,j1,k2.trans j2,k3.trans j3⟩
theorem ag6{σ:S D}{γ:Gh D}{w:World}{L:List (Nat×Value)}{i n:Nat}{xs:List (D n)}{K:List Nat}{o:AO D}(hk:Kn σ γ w L)(ho:cz σ.ob i=some o)(hd:vw o=some (⟨.sl n,xs⟩,K))(hl:bo σ.lk i=false):
  ∃aY,Kn {σ with ob:=(i,some (.fz n xs (1::K)))::σ.ob} aY w L∧Frame γ w aY w∧bx [] σ {σ with ob:=(i,some (.fz n xs (1::K)))::σ.ob}:=by
 obtain⟨hi,hU,h1⟩:=hk.ob.ob i _ ho
 obtain⟨h2,h3⟩:=NQ h1 hd
 obtain⟨o',ld⟩:∃o':bF,o'=fun b=>if γ.o b=i then 1 else γ.o b:=⟨_,rfl⟩
 have be:∀b,γ.o b≠i→o' b=γ.o b:=fun b hb=>by rw[ld];exact if_neg hb
 have gX:∀b,γ.o b=i→o' b=1:=fun b hb=>by rw[ld];exact if_pos hb
 have uv:∀b,o' b=γ.o b∨o' b=1∧γ.o b=i:=fun b=>by
  by_cases hc:γ.o b=i
  · exact .inr ⟨gX b hc,hc⟩
  · exact .inl (be b hc)
 have kp:fx (fun i=>i<σ.nx) (fun i=>i<σ.nx) γ w ⟨o',γ.g,γ.v⟩ w:=⟨fun _ h=>h,fun _ _=>rfl,fun _ _=>rfl,fun b _ hc=>⟨be b (by omega),rfl⟩⟩
 have Tp:∀j,i≠j→Nat.beq i j=false:=fun j dZ=>by
  cases hb:Nat.beq i j with
  |true=>exact(dZ (Nat.eq_of_beq_eq_true hb)).elim
  |false=>rfl
 refine⟨⟨o',γ.g,γ.v⟩,⟨hk.sr.cp kp,⟨fun j x hx=> ?_,fun b hb=> ?_,hk.ob.ro⟩,hk.bS⟩,⟨⟨rfl,rfl,rfl,Nat.le_refl _,fun b _ hc=>⟨be b (by omega),rfl⟩,fun b hb hc=>⟨hb, ?_⟩⟩,fun _ _=>rfl⟩,⟨fun _ _=>rfl,rfl,fun j hj=> ?_,Nat.le_refl _⟩⟩
 · by_cases dZ:i=j
   · subst dZ
     have e:cz ((i,some (AO.fz n xs (1::K)))::σ.ob) i=some (.fz n xs (1::K)):=by simp[cz,aq]
     rw[e] at hx
     cases hx
     refine⟨hi,hU, ?_,fun x hx=> ?_⟩
     · show cL (In o' (1::K)) w (γ.g i) ⟨.sl n,xs⟩
       refine cL.weaken (fun b hb=> ?_) h2
       unfold In at hb⊢
       rcases List.mem_cons.1 hb with hb|hb
       · rw[gX b hb];exact List.mem_cons_self ..
       · rw[be b (fun e=>by have:=h3 _ hb;omega)]
         exact List.mem_cons_of_mem _ hb
     · rcases List.mem_cons.1 hx with rfl|hx
       · omega
       · exact h3 x hx
   · have e:cz ((i,some (AO.fz n xs (1::K)))::σ.ob) j=cz σ.ob j:=by simp[cz,aq,Tp j dZ]
     rw[e] at hx
     obtain⟨k1,k2,k3⟩:=hk.ob.ob j x hx
     exact⟨k1,k2,k3.cp kp k2 fun b _ hb=>⟨be b (by rw[hb];exact fun e=>dZ e.symm),rfl⟩⟩
 · show o' b<σ.nx
   rcases uv b with e|⟨e,_⟩
   · rw[e];exact hk.ob.cl b hb
   · rw[e];have:=hk.bS;omega
 · rcases uv b with e|⟨e,_⟩
   · exact e.symm
   · have hc:o' b=0∨o' b=3:=hc
     omega
 · have be:i≠j:=fun e=>kj hl (e▸hj)
   simp[aq,Tp j be]
theorem l8{w:World}{L:List (Nat×Value)}:∀{b:List Nat} {σ bc:S D} {γ:Gh D},lr σ b=some bc→Kn σ γ w L→∃aY,Kn bc aY w L∧Frame γ w aY w∧bx [] σ bc
 |[],σ,bc,γ,h,hk=>by
  cases h
  exact⟨γ,hk,Frame.refl _ _,bx.refl _ _⟩
 |i::r,σ,bc,γ,h,hk=>by
  simp only[lr] at h
  split at h
  case h_2=>cases h
  rename_i o ho
  split at h
  case h_2=>cases h
  rename_i n xs K hd
  split at h
  case isTrue=>cases h
  rename_i hl
  obtain⟨aF,k1,k2,k3⟩:=ag6 hk ho hd (by simpa using hl)
  obtain⟨aY,j1,j2,j3⟩:=l8 h k1
  exact⟨aY,j1,k2.trans j2,k3.trans j3⟩
theorem l_{l:List Nat}{σ:S D}{ρ:Type}{k:S D→Option ρ}{r:ρ}(h:lq l σ k=some r):∃aJ,lr σ l=some aJ∧k aJ=some r:=by
 unfold lq at h
 split at h
 case h_2=>cases h
 exact⟨_,by assumption,h⟩
theorem bx.lr{wr:List Nat}{σ aJ:S D}(h:bx [] σ aJ):bx wr σ aJ:=h.mono fun t ht=>by cases ht
section
variable (hP:dg P T) (hR:bR T) (cH:∀c∈Φ,il P T c)
include hP hR cH
theorem ah7 [I:Rd]{ops:List Oper}:∀(sg:Sg) {ρ:Type} {l:List Oper} {p:Nat} {σ:S D} {k:S D→Option ρ} {r:ρ} {γ:Gh D} {w:World} {L:List (Nat×Value)} {Qx:Exit→Act→World→Prop},pY T Φ ops sg l p σ k=some r→(∀t∈dstsOf l,I.fp n t=true)→Kn σ γ w L→
  (∀aJ γ' w' L',Kn aJ γ' w' L'→Frame γ w γ' w'→bx (dstsOf l) σ aJ→k aJ=some r→NK n (Qx .normal) L' w')→WL P n ops.toArray Qx l L w:=by
 intro sg
 induction sg with
 |nil=>
  intro ρ l p σ k r γ w L Qx h hd hk hc
  simp only[pY] at h
  exact sJ hP hR cH h hd hk fun aJ _ γ' w' L' h1 h2 h3 h4=>hc aJ γ' w' L' h1 h2 h3 h4
 |rk s b next Kj=>
  intro ρ l p σ k r γ w L Qx h hd hk hc
  simp only[pY] at h
  have k7:l=l.take (s-p)++l.drop (s-p):=(List.take_append_drop _ _).symm
  generalize mM:l.take (s-p)=l1 at*
  generalize xB:l.drop (s-p)=l3 at*
  have qR:dstsOf l=dstsOf l1++dstsOf l3:=by rw[k7,MM]
  rw[qR] at hd hc
  rw[k7]
  refine WL.bD fun K1 fv=> ?_
  refine sJ hP hR cH h (fun t ht=>hd t (List.mem_append.2 (.inl ht))) hk fun σ1 _ aF w1 L1 k1 k2 k3 k4=> ?_
  refine fv _ _ ?_
  split at k4
  case h_2=>cases k4
  rename_i bc adR
  obtain⟨aY,m1,m2,m3⟩:=Pj adR k1
  refine Kj k4 (fun t ht=>hd t (List.mem_append.2 (.inr ht))) m1 fun sZ s8 w3 L3 n1 n2 n3 n4=> ?_
  refine hc sZ s8 w3 L3 n1 ((k2.trans m2).trans n2) ?_ n4
  exact((k3.mono fun t ht=>List.mem_append.2 (.inl ht)).trans (m3.mono fun t ht=>by cases ht)).trans (n3.mono fun t ht=>List.mem_append.2 (.inr ht))
 |nZ s m j inner next AL Kj=>
  intro ρ l p σ k r γ w L Qx h hd hk hc
  simp only[pY] at h
  have k7:l=l.take (s-p)++((l.drop (s-p)).take m++l.drop (s-p+m)):=by
   rw[←List.drop_drop,List.take_append_drop,List.take_append_drop]
  generalize mM:l.take (s-p)=l1 at*
  generalize nz:(l.drop (s-p)).take m=l2 at*
  generalize xB:l.drop (s-p+m)=l3 at*
  have qR:dstsOf l=dstsOf l1++(dstsOf l2++dstsOf l3):=by rw[k7,MM,MM]
  rw[qR] at hd hc
  rw[k7]
  refine WL.bD fun K1 fv=> ?_
  refine sJ hP hR cH h (fun t ht=>hd t (List.mem_append.2 (.inl ht))) hk fun σ1 _ aF w1 L1 k1 k2 k3 k4=> ?_
  refine fv _ _ ?_
  refine WL.bD fun K2 gy=> ?_
  have oE:∀t∈dstsOf l2,I.fp n t=true:=fun t ht=>hd t (List.mem_append.2 (.inr (List.mem_append.2 (.inl ht))))
  have hd3:∀t∈dstsOf l3,I.fp n t=true:=fun t ht=>hd t (List.mem_append.2 (.inr (List.mem_append.2 (.inr ht))))
  refine tx hR k4 k1 (X:=fun _ L1 w1=>NK n K2 L1 w1) ?_ ?_
  · intro eg aJ k' r' hb bB hx
    have fin:∀{dJ:S D},bx (dstsOf l2) aJ dJ→∀yV CI zk HP,Kn yV CI zk HP→Frame aF w1 CI zk→bx (dstsOf l2) dJ yV→k' .normal yV=some r'→NK n ((Exit.then K2 Qx) .normal) HP zk:=
     fun mP yV CI zk HP m1 m2 m3 m4=>hx .normal yV CI zk HP m1 m2 (mP.trans m3) m4
    cases l2 with
    |nil=>cases hb
    |cons o l2=>
     dsimp only at hb
     split at hb
     · rename_i i b hg
       split at hb
       · rename_i d c K g pJ
         obtain⟨_,_,_,hl⟩:=Mf pJ
         have lY:∀c',c=c'→bx (dstsOf (o::l2)) aJ (iq aJ d c' K g):=fun c' e=>by subst e;exact bx.iq _ hl
         have fE:∀c',c=c'→Kn (iq aJ d c' K g) aF w1 L1:=fun c' e=>by subst e;exact bB.iq hl
         rcases BZ hb with⟨jh,hb⟩|⟨jh,hb⟩
         · cases b with
           |true=>exact AL hb oE (fE _ jh) (fin (lY _ jh))
           |false=>exact sJ hP hR cH hb oE (fE _ jh) fun aJ _=>fin (lY _ jh) aJ
         · cases b with
           |true=>exact sJ hP hR cH hb oE (fE _ jh) fun aJ _=>fin (lY _ jh) aJ
           |false=>exact AL hb oE (fE _ jh) (fin (lY _ jh))
       · exact sJ hP hR cH hb oE bB fun aJ _=>fin (bx.refl _ _) aJ
     · exact AL hb oE bB (fin (bx.refl _ _))
  · intro o bc aY w2 L2 m1 m2 m3 m4
    refine gy _ _ ?_
    refine Kj m4 hd3 m1 fun sZ s8 w3 L3 n1 n2 n3 n4=> ?_
    refine hc sZ s8 w3 L3 n1 ((k2.trans m2).trans n2) ?_ n4
    exact((k3.mono fun t ht=>List.mem_append.2 (.inl ht)).trans (m3.mono fun t ht=>List.mem_append.2 (.inr (List.mem_append.2 (.inl ht))))).trans (n3.mono fun t ht=>List.mem_append.2 (.inr (List.mem_append.2 (.inr ht))))
end
end
end Rx
end Go.Proofs.YtaneejpkncdodaaGreat
