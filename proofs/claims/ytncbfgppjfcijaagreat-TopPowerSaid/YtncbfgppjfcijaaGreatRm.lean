import Derived.Test.YtncbfgppjfcijaaGreatRj
import Derived.Orders
set_option linter.unusedVariables false
set_option linter.unusedSimpArgs false
set_option linter.unusedSectionVars false
open Bool renaming and_eq_true→aqL,false_eq_true→aqG,not_eq_true'→arC,or_eq_true→arW
open List renaming all_eq_true→aq0,mem_append→aqP,mem_cons→aqR,mem_cons_of_mem→aq7,mem_filter→arf,mem_map→aqX,mem_singleton→aq1,take_append_drop→arv
open Nat renaming beq→aqH,eq_of_beq_eq_true→aqK,le_of_ble_eq_true→aqT,le_refl→aqM
open Option.some renaming injEq→aq3
open Prod renaming fst→aqO
open Sum renaming elim_inl→aqI,elim_inr→aqJ
namespace Go.Proofs.YtncbfgppjfcijaaGreat
open Go Go.RowKit Dp
namespace Rx
section
variable {D:Nat→Type} [∀n,ab (D n)]
variable {T:aV D} {U0 U1 U2:Nat→Prop} {e9 γ aF aX:Gh D} {w0 w w1:World}
structure Kn(σ:S D)(γ:Gh D)(w:World)(L:List (Nat×Value)):Prop where
 sr:SR (fun i=>i<σ.nx) γ w σ.sl L
 ob:OB (fun i=>i<σ.nx) γ w σ.ob
 bR:2000≤σ.nx
structure bB(wr:List Nat)(σ aI:S D):Prop where
 sl:∀t,t∉wr→au aI.sl t=au σ.sl t
 lk:aI.lk=σ.lk
 ob:∀i∈σ.lk,au aI.ob i=au σ.ob i
 nx:σ.nx≤aI.nx
theorem bB.refl(wr:List Nat)(σ:S D):bB wr σ σ:=⟨fun _ _=>rfl,rfl,fun _ _=>rfl,aqM _⟩
theorem bB.trans{wr:List Nat}{σ σ1 bc:S D}(h:bB wr σ σ1)(k:bB wr σ1 bc):bB wr σ bc:=
 ⟨fun t ht=>(k.sl t ht).trans (h.sl t ht),k.lk.trans h.lk,fun i hi=>(k.ob i (by rw[h.lk];exact hi)).trans (h.ob i hi),Nat.le_trans h.nx k.nx⟩
theorem bB.mono{wr Qy:List Nat}{σ σ1:S D}(h:bB wr σ σ1)(hs:∀t∈wr,t∈Qy):bB Qy σ σ1:=⟨fun t ht=>h.sl t fun hm=>ht (hs t hm),h.lk,h.ob,h.nx⟩
structure Pn(U0 U1 U2:Nat→Prop)(aF aX:Gh D):Prop where
 u:∀i,U0 i→U2 i∧aX.g i=aF.g i∧aX.v i=aF.v i
 ro:∀b,aF.o b<2→aX.o b=aF.o b
section
variable (t:Pn U0 U1 U2 aF aX)
include t
theorem Pn.mem{K:List Nat}(hK:cT K):∀b,In aF.o K b→b<w.heap.size→In aX.o K b∧w.heap[b]? =w.heap[b]? :=fun b hb _=>by
 refine⟨?_,rfl⟩
 unfold In at hb⊢
 rw[t.ro b (hK _ hb)]
 exact hb
theorem named.two{g:Nat}{d:DV D}(h1:named U1 aF g d)(h0:named U0 e9 g d):named U2 aX g d:=by
 rcases h0 with h0|⟨h0,_⟩
 · exact .inl h0
 · rcases h1 with h1|⟨_,h1⟩
   · exact .inl h1
   · obtain⟨k1,_,k3⟩:=t.u _ h0
     exact .inr ⟨k1,by rw[k3];exact h1⟩
theorem ni.two:∀{a:A0 D} {v v0:Value},ni U1 aF w a v→ni U0 e9 w0 a v0→ni U2 aX w a v
 | .ptr i off,v,v0,⟨_,b,h1,h2⟩,⟨h0,_⟩=>by
   obtain⟨k1,k2,_⟩:=t.u i h0
   exact⟨k1,b,by rw[k2];exact h1,h2⟩
 | .rp n x off K,v,v0,⟨pa,h1,h2,h3⟩,_=>⟨pa,h1,h2.mono (t.mem h3),h3⟩
theorem jR.two:∀{as:List (A0 D)} {vs qt:List Value},jR U1 aF w as vs→jR U0 e9 w0 as qt→jR U2 aX w as vs
 |[],[],_,_,_=>trivial
 |a::as,v::vs,v0::qt,h,h0=>⟨ni.two t h.1 h0.1,jR.two h.2 h0.2⟩
 |a::as,v::vs,[],_,h0=>h0.elim
 |[],_::_,_,h,_=>h.elim
 |_::_,[],_,h,_=>h.elim
theorem dR.two:∀{a:A1 D} {v v0:Value},dR U1 aF w a v→dR U0 e9 w0 a v0→dR U2 aX w a v
 | .v l d K g,v,v0,⟨h1,h2,h3⟩,h0=>⟨h1.mono (t.mem h3),named.two t h2 h0.2.1,h3⟩
 | .ptr i off,v,v0,⟨_,b,h1,h2⟩,⟨h0,_⟩=>by
   obtain⟨k1,k2,_⟩:=t.u i h0
   exact⟨k1,b,by rw[k2];exact h1,h2⟩
 | .el i n j y off tc tj,v,v0,⟨h1,h2,⟨xs,h3,h4⟩,h5,b,len,cap,h6,h7⟩,⟨k1,k2,_,k5,_⟩=>by
   obtain⟨m1,m2,_⟩:=t.u i k1
   obtain⟨n1,_,n3⟩:=t.u tc k2.2
   exact⟨m1,⟨h2.1,n1⟩,⟨xs,by rw[n3];exact h3,h4⟩,named.two t h5 k5,b,len,cap,by rw[m2];exact h6,h7⟩
 | .rp n x off K,v,v0,⟨pa,h1,h2,h3⟩,_=>⟨pa,h1,h2.mono (t.mem h3),h3⟩
 | .vb n xs K g b,v,v0,⟨⟨h1,h2,h3⟩,h4⟩,h0=>⟨⟨cq.mono (d:=⟨.sl n,xs⟩) (t.mem h3) h1,named.two t h2 h0.1.2.1,h3⟩,h4⟩
 | .own i,v,v0,⟨_,h1,h2⟩,⟨h0,_⟩=>by
   obtain⟨k1,k2,_⟩:=t.u i h0
   exact⟨k1,by rw[k2];exact h1,h2⟩
 | .fn f fJ,v,v0,⟨cs,h1,h2⟩,⟨VM,_,h0⟩=>⟨cs,h1,jR.two t h2 h0⟩
 | .ch i n j off ct m d,v,v0,⟨h1,h2,⟨xs,y,h3,h4⟩,⟨b,len,cap,cells,h5,h6,h7⟩,h8⟩,⟨k1,k2,_⟩=>by
   obtain⟨m1,m2,_⟩:=t.u i k1
   obtain⟨n1,n2,n3⟩:=t.u ct k2.2
   exact⟨m1,⟨h2.1,n1⟩,⟨xs,y,by rw[n3];exact h3,h4⟩,⟨b,len,cap,cells,by rw[m2];exact h5,by rw[n2];exact h6,h7⟩,h8⟩
 | .sY i s,v,v0,⟨h1,h2,h3,h4⟩,⟨k1,k2,_⟩=>by
   obtain⟨m1,_,_⟩:=t.u i k1
   obtain⟨n1,n2,_⟩:=t.u s k2
   exact⟨m1,n1,by rw[n2];exact h3,h4⟩
 | .tail i n j,v,v0,⟨h1,h2⟩,⟨k1,_⟩=>by
   obtain⟨m1,m2,_⟩:=t.u i k1
   exact⟨m1,by rw[m2];exact h2⟩
 | .pre i n j,v,v0,⟨h1,h2⟩,⟨k1,_⟩=>by
   obtain⟨m1,m2,_⟩:=t.u i k1
   exact⟨m1,by rw[m2];exact h2⟩
 | .nU n xs K,v,v0,⟨⟨aw,h1,h2⟩,h3⟩,_=>⟨⟨aw,h1,h2.mono fun _ _=>ab.mono (t.mem h3)⟩,h3⟩
 | .bi,v,v0,h,_=>h
 | .nA,v,v0,h,_=>h
 | .xp,v,v0,h,_=>h
 | .undef,v,v0,h,_=>h
 | .wq,v,v0,h,_=>h
 | .qI,v,v0,h,_=>h
theorem bX.two:∀{as:List (A1 D)} {vs qt:List Value},bX U1 aF w as vs→bX U0 e9 w0 as qt→bX U2 aX w as vs
 |[],[],_,_,_=>trivial
 |a::as,v::vs,v0::qt,h,h0=>⟨dR.two t h.1 h0.1,bX.two h.2 h0.2⟩
 |a::as,v::vs,[],_,h0=>h0.elim
 |[],_::_,_,h,_=>h.elim
 |_::_,[],_,h,_=>h.elim
theorem kl.two:∀{a:AC D} {v v0:Value},kl U1 aF w a v→kl U0 e9 w0 a v0→kl U2 aX w a v
 | .one a,v,v0,h,h0=>dR.two t h h0
 | .agg l,v,v0,⟨us,h1,h2⟩,⟨I',_,h0⟩=>⟨us,h1,bX.two t h2 h0⟩
theorem gP.two:∀{as:List (AC D)} {vs qt:List Value},gP U1 aF w as vs→gP U0 e9 w0 as qt→gP U2 aX w as vs
 |[],[],_,_,_=>trivial
 |a::as,v::vs,v0::qt,h,h0=>⟨kl.two t h.1 h0.1,gP.two h.2 h0.2⟩
 |a::as,v::vs,[],_,h0=>h0.elim
 |[],_::_,_,h,_=>h.elim
 |_::_,[],_,h,_=>h.elim
theorem eM.two:∀{a:AV D} {v v0:Value},eM U1 aF w a v→eM U0 e9 w0 a v0→eM U2 aX w a v
 | .c x,v,v0,h,h0=>kl.two t h h0
 | .cL l,v,v0,⟨us,h1,h2⟩,⟨I',_,h0⟩=>⟨us,h1,gP.two t h2 h0⟩
theorem OR.two{i:Nat}(hi:U0 i)(hc:∀b,aF.o b=i→aX.o b=i):∀{x:AO D},OR U1 aF w i x→OR U0 e9 w0 i x→OR U2 aX w i x
 | .box cs,⟨b,us,ty,h1,h2,h3,h4,h5⟩,⟨_,I',_,_,_,_,h0,_⟩=>by
   obtain⟨k1,k2,_⟩:=t.u i hi
   exact⟨b,us,ty,by rw[k2];exact h1,hc b h2,h3,bX.two t h4 h0,h5⟩
 | .sl n ty xs K g,⟨h1,h2,h3⟩,⟨_,_,h0⟩=>by
   obtain⟨k1,k2,_⟩:=t.u i hi
   refine⟨?_,h2,named.two t h3 h0⟩
   rw[k2]
   rcases h1 with h1|⟨g,cap,aL,aw,e1,e2,e3,e4,e5,e6,e7,e8⟩
   · exact .inl h1
   · exact .inr ⟨g,cap,aL,aw,e1,hc g e2,e3,e4,e5,e6,e7.mono fun _ _=>ab.mono (t.mem h2),e8⟩
 | .bU n ty tc q xs g h,⟨h1,h2,h3⟩,⟨_,Nq,BR⟩=>by
   obtain⟨k1,k2,_⟩:=t.u i hi
   obtain⟨m0,m1⟩:=xy (v:=aF.g i) (o:=aF.o) (o':=aX.o) (i:=i) (i':=i) (w:=w) (w':=w) fun b _ hb=>⟨hc b hb,rfl⟩
   refine⟨by rw[k2];exact h1.mono m0 m1,named.two t h2 Nq, ?_⟩
   rcases BR with BR|⟨BR,_⟩
   · exact .inl BR
   · rcases h3 with h3|⟨_,h4,h5⟩
     · exact .inl h3
     · obtain⟨n1,n2,n3⟩:=t.u h BR
       exact .inr ⟨n1,by rw[n3];exact h4,h5.mono k2 n2 fun _ _ _ _=>rfl⟩
 | .fi n ty tc q xs j off s g,⟨h1,h2,b,len,cap,h3,h4⟩,⟨U_,Nq,_⟩=>by
   obtain⟨k1,k2,_⟩:=t.u i hi
   obtain⟨n1,n2,_⟩:=t.u s Nq
   obtain⟨m0,m1⟩:=xy (v:=aF.g i) (o:=aF.o) (o':=aX.o) (i:=i) (i':=i) (w:=w) (w':=w) fun b _ hb=>⟨hc b hb,rfl⟩
   exact⟨named.two t h1 U_,n1,b,len,cap,by rw[k2];exact h3,by rw[k2,n2];exact h4.mono m0 m1⟩
 | .fz n xs K,⟨h1,h2⟩,_=>by
   obtain⟨k1,k2,_⟩:=t.u i hi
   exact⟨by rw[k2];exact cq.mono (d:=⟨.sl n,xs⟩) (t.mem h2) h1,h2⟩
 | .mp n xs,h,_=>by
   obtain⟨k1,k2,_⟩:=t.u i hi
   show nl aX.o i w (aX.g i) xs
   rw[k2]
   exact nl.mono h fun b _ hb=>⟨hc b hb,rfl⟩
end
theorem ux{α:Type}{f:Nat→Bool}:∀{l:List (Nat×α)} {t:Nat},au (l.filter fun p=>f p.1) t=if f t then au l t else none
 |[],t=>by simp[au]
 |p::r,t=>by
  have ih:=ux (f:=f) (l:=r) (t:=t)
  simp only[List.filter_cons,au]
  cases hb:aqH p.1 t with
  |true=>
   have:=aqK hb
   subst this
   cases hf:f p.1 with
   |true=>simp[au]
   |false=>simp[ih,hf]
  |false=>
   cases hf:f p.1 with
   |true=>simp[au,hb,ih]
   |false=>simp[ih]
theorem ZB{U:Nat→Prop}{sl:List (Nat×AV D)}{L:List (Nat×Value)}(hs:SR U γ w sl L):∀{js:List (Nat×PC)} {dA:List (AV D)},vU sl js=some dA→∃vs,jQ U γ w dA vs∧js.length=vs.length∧∀(k t:Nat) (v:Value),(js.map aqO)[k]? =some t→vs[k]? =some v→Dp.look L t=some v
 |[],dA,h=>by
  cases h
  exact⟨[],trivial,rfl,by simp⟩
 |(t,p)::js,dA,h=>by
  simp only[vU] at h
  split at h
  case h_2=>cases h
  rename_i a b g1 g2
  cases h
  obtain⟨v,h1,h2⟩:=hs t a g1
  obtain⟨vs,k1,k2,k3⟩:=ZB hs g2
  refine⟨v::vs,⟨h2,k1⟩,by simp[k2],fun k t' v' ht hv=> ?_⟩
  cases k with
  |zero=>cases ht;cases hv;exact h1
  |succ k=>exact k3 k t' v' (by simpa using ht) (by simpa using hv)
theorem PK{U:Nat→Prop}{L:List (Nat×Value)}:∀{ts:List Nat} {as:List (AC D)} {vs:List Value} {t:Nat} {a:AV D},gP U γ w as vs→(∀(k t:Nat) (v:Value),ts[k]? =some t→vs[k]? =some v→Dp.look L t=some v)→au (lQ.nq ts as) t=some a→∃v,Dp.look L t=some v∧eM U γ w a v
 |[],as,vs,t,a,_,_,h=>by simp[lQ.nq,au] at h
 |t0::ts,[],vs,t,a,_,_,h=>by simp[lQ.nq,au] at h
 |t0::ts,a0::as,vs,t,a,hv,hl,h=>by
  cases vs with
  |nil=>exact hv.elim
  |cons v vs=>
   simp only[lQ.nq,au] at h
   cases hb:aqH t0 t with
   |true=>
    have:=aqK hb
    subst this
    simp only[hb,cond_true,aq3] at h
    subst h
    exact⟨v,hl 0 _ _ rfl rfl,hv.1⟩
   |false=>
    simp only[hb,cond_false] at h
    exact PK hv.2 (fun k t v ht hv=>hl (k+1) t v (by simpa using ht) (by simpa using hv)) h
theorem ID:∀{ts:List Nat} {as:List (AC D)} {t:Nat} {a:AV D},au (lQ.nq ts as) t=some a→t∈ts
 |[],as,t,a,h=>by simp[lQ.nq,au] at h
 |t0::ts,[],t,a,h=>by simp[lQ.nq,au] at h
 |t0::ts,a0::as,t,a,h=>by
  simp only[lQ.nq,au] at h
  cases hb:aqH t0 t with
  |true=>
   have:=aqK hb
   subst this
   simp
  |false=>
   simp only[hb,cond_false] at h
   exact aq7 _ (ID h)
theorem p_{a b:List Nat}(h:na a b=true){x:Nat}(hx:x∈a):x∉b:=by
 have:=aq0.1 h x hx
 simp only[arC] at this
 exact kz this
def ic(m:M D)(cj:List Nat)(N:Nat)(x:Nat):Nat:=match au (swap m.ids) x with
 |some p=>p
 |none=>if bp m.ku x then 1 else if bp cj x&&Nat.blt x N then x else if x<4 then x else 2
structure wa(T:aV D)(j:J)(σ:S D)(h:HH D j.bZ):Prop where
 ex:∃dA l m,vU σ.sl j.sl=some dA∧Q.R σ.ob (ye T false j.nx j.bZ (j.sl.map Prod.snd) j.ob j.dW σ.nx dA) l (h,m)∧na (m.ids.map Prod.snd) σ.lk=true∧na m.ku σ.lk=true
theorem p9{ρ:Type}{j:J}{σ:S D}{k:HH D j.bZ→Option ρ}{r:ρ}(h:rb T j σ k=some r):∃x,wa T j σ x∧k x=some r:=by
 unfold rb at h
 split at h
 case h_2=>cases h
 rename_i dA ha
 obtain⟨l,x,h1,h2⟩:=Q.Gn h
 split at h2
 case isFalse=>cases h2
 rename_i hc
 simp only[aqL] at hc
 obtain⟨h,m⟩:=x
 exact⟨h,⟨dA,l,m,ha,h1,hc.1,hc.2⟩,h2⟩
theorem uF(hR:bQ T){σ σ1 bc:S D}{L L1:List (Nat×Value)}{wr mv:List Nat}{j:J}{h:HH D j.bZ}{lk:List Nat}(lm:lk=(kept σ mv).map aqO++σ.lk)
  (hk:Kn σ γ w L) (cZ:Kn σ1 aF w1 L1) (he:bB wr {σ with lk:=lk} σ1) (hx:wa T j σ1 h) (hi:k9 T j wr mv σ h=some bc):
  ∃aX,Kn bc aX w1 L1∧Frame aF w1 aX w1∧bB wr {σ with lk:=lk} {bc with lk:=lk}∧bc.lk=σ.lk:=by
 obtain⟨dA,l,m,ha,hq,F5,oN⟩:=hx.ex
 obtain⟨vs,FC,hlen,FT⟩:=ZB cZ.sr ha
 obtain⟨⟨hex,xU⟩,nI⟩:=NH hR cZ.ob hq FC
 unfold k9 at hi
 split at hi
 case isFalse=>cases hi
 rename_i hc
 simp only[aqL,aq0,arC] at hc
 obtain⟨⟨⟨sC,kF⟩,pR⟩,Bt⟩:=hc
 have sC:=aqT sC
 dsimp only at hi hex xU nI
 split at hi
 case h_2=>cases hi
 rename_i sa sb mR Ma
 cases hi
 have ahO:σ1.lk=lk:=he.lk
 rw[ahO] at F5 oN
 have FL:∀p i,(p,i)∈m.ids→p<j.nx∧(σ.nx≤p∨p=i)∧p∉lk:=fun p i hp=>by
  obtain⟨q,hq⟩:=nB (hex.key p i hp)
  obtain⟨⟨k1,k2⟩,k3⟩:=kF _ hq
  refine⟨aqT k1, ?_,by rw[lm];exact kz k3⟩
  rw[arW] at k2
  rcases k2 with k2|k2
  · exact .inl (aqT k2)
  · exact .inr (hex.LR p p i (hex.LQ _ (aqX.2 ⟨_,arf.2 ⟨hq,k2⟩,rfl⟩)) hp)
 have u5:∀i,i∈(kept σ mv).map aqO→(∀p,(p,i)∉m.ids)∧i∉m.ku∧i∈lk:=fun i hi=>by
  have ke:i∈lk:=by rw[lm];exact aqP.2 (.inl hi)
  exact⟨fun p hp=>p_ F5 (aqX.2 ⟨_,hp,rfl⟩) ke,fun hu=>p_ oN hu ke,ke⟩
 obtain⟨aX,uH⟩:∃aX:Gh D,aX=⟨fun b=>ic m ((kept σ mv).map aqO) σ.nx (aF.o b),mZ aF m,ee aF.v j.nx (cN T j.bZ h)⟩:=⟨_,rfl⟩
 have aho:∀p i,(p,i)∈m.ids→ic m ((kept σ mv).map aqO) σ.nx i=p:=fun p i hp=>by
  unfold ic
  rw[Fq hex.ids hp]
 have pO:∀x,(∀p,(p,x)∉m.ids)→au (swap m.ids) x=none:=fun x hn=>by
  cases hl:au (swap m.ids) x with
  |none=>rfl
  |some p=>exact(hn p (qw.1 (cz hl))).elim
 have ahn:∀i,i∈(kept σ mv).map aqO→i<σ.nx→ic m ((kept σ mv).map aqO) σ.nx i=i:=fun i hi dQ=>by
  obtain⟨k1,k2,_⟩:=u5 i hi
  unfold ic
  rw[pO i k1]
  have h1:bp m.ku i=false:=by
   cases hm:bp m.ku i with
   |true=>exact(k2 (dK.1 hm)).elim
   |false=>rfl
  have h2:Nat.blt i σ.nx=true:=Nat.ble_eq_true_of_le dQ
  simp only[h1,aqG,if_false,dK.2 hi,h2,Bool.and_self,if_true]
 have sw:∀x,x<4→ic m ((kept σ mv).map aqO) σ.nx x=x:=fun x hx=>by
  unfold ic
  rw[pO x fun p hp=>by have:=hex.xH p x hp;omega]
  have h1:bp m.ku x=false:=by
   cases hm:bp m.ku x with
   |true=>have:=(hex.ku x (dK.1 hm)).1;omega
   |false=>rfl
  simp only[h1,aqG,if_false]
  split
  · rfl
  · first|rfl|rw[if_pos hx]
 have Me:∀x,x∈m.ku→ic m ((kept σ mv).map aqO) σ.nx x=1:=fun x hx=>by
  unfold ic
  rw[pO x (hex.ku x hx).2]
  simp only[dK.2 hx,if_true]
 have TW:∀x,(∃p,(p,x)∈m.ids∧ic m ((kept σ mv).map aqO) σ.nx x=p)∨ic m ((kept σ mv).map aqO) σ.nx x=1∨(ic m ((kept σ mv).map aqO) σ.nx x=x∧(x<σ.nx∨x<4))∨ic m ((kept σ mv).map aqO) σ.nx x=2:=fun x=>by
  unfold ic
  cases hl:au (swap m.ids) x with
  |some p=>exact .inl ⟨p,qw.1 (cz hl),rfl⟩
  |none=>
   right
   dsimp only
   split
   · exact .inl rfl
   · split
     · rename_i hm
       simp only[aqL] at hm
       exact .inr (.inl ⟨rfl,.inl (aqT hm.2)⟩)
     · split
       · rename_i hm
         exact .inr (.inl ⟨rfl,.inr hm⟩)
       · exact .inr (.inr rfl)
 have BQ:Fin T (fun i=>i<σ1.nx) (fun i=>i<j.nx+(cN T j.bZ h).length) aF aX w1 m (cN T j.bZ h) j.nx:=by
  subst uH
  refine⟨hex.dv,fun p i hp=>⟨?_,BU hex hp⟩,fun i x hx=> ?_,fun _ p hp LV hU=>⟨?_, ?_⟩,fun K Kp cU hK qU b hb=> ?_,fun q K Kp hq cU hK qU b hb=> ?_,fun i d hd=> ?_⟩
  · have:=FL p i hp
    show p<j.nx+_
    omega
  · have:=(hex.new _ hx).1
    simp only at this
    show ¬i<σ1.nx
    omega
  · rw[hex.Qw] at LV
    show p<j.nx+_
    omega
  · show mZ aF m p=aF.g p
    unfold mZ
    cases hl:au m.ids p with
    |none=>rfl
    |some i=>
     have:=hex.key p i (cz hl)
     rw[hex.po_] at hp
     rw[hp] at this
     cases this
  · unfold M.may at cU
    rw[hex.vN] at cU
    simp only[aqG,if_false,zL,aq0] at cU
    have hb:aF.o b∈K:=hb
    show ic m _ _ (aF.o b)∈Kp
    rw[sw _ (by have:=hK _ hb;omega)]
    exact dK.1 (cU _ hb)
  · unfold M.may at cU
    rw[hex.vN] at cU
    simp only[aqG,if_false,zL,aq0] at cU
    have hb:aF.o b∈q::K:=hb
    show ic m _ _ (aF.o b)∈Kp
    rcases aqR.1 hb with hb|hb
    · rw[hb,Me q hq]
      exact dK.1 (cU 1 (by simp))
    · rw[sw _ (by have:=hK _ hb;omega)]
      exact dK.1 (cU _ (by simp[hb]))
  · refine .inr ⟨?_,AT hd⟩
    have:=(List.getElem?_eq_some_iff.1 hd).1
    show j.nx+i<_
    omega
 have BP:zi aF aX m:=⟨fun p i hp b hb=>by
  subst uH
  show ic m _ _ (aF.o b)=p
  rw[hb]
  exact aho p i hp⟩
 obtain⟨g1,g2⟩:=nI BQ BP
 have FF:Pn (fun i=>i<σ.nx) (fun i=>i<σ1.nx) (fun i=>i<j.nx+(cN T j.bZ h).length) aF aX:=by
  subst uH
  refine⟨fun i hi=>⟨?_, ?_, ?_⟩,fun b hb=>sw _ (by omega)⟩
  · show i<_
    have hi:i<σ.nx:=hi
    omega
  · show mZ aF m i=aF.g i
    unfold mZ
    cases hl:au m.ids i with
    |none=>rfl
    |some x=>
     have hi:i<σ.nx:=hi
     rcases(FL i x (cz hl)).2.1 with h1|rfl
     · omega
     · have Br:au m.new i=none:=by
        cases hn:au m.new i with
        |none=>rfl
        |some y=>
         have:=(hex.new _ (cz hn)).1
         have:=he.nx
         simp only at*
         omega
       simp only[Br]
  · exact KN (.inl (by have hi:i<σ.nx:=hi;omega))
 have ahm:∀b,aF.o b<4→aX.o b=aF.o b:=fun b hb=>by subst uH;exact sw _ hb
 refine⟨aX,⟨fun t a oE=> ?_,⟨fun i x fT=> ?_,fun b hb=> ?_,fun x hx=> ?_⟩, ?_⟩,⟨⟨rfl,rfl,rfl,aqM _,fun b hb hc=>⟨ahm b (by omega),rfl⟩,fun b hb hc=>⟨hb, ?_⟩⟩,fun i hi=>(FF.u i (by have:=hk.bR;show i<σ.nx;omega)).2.1⟩,⟨fun t ht=> ?_,rfl,fun i hi=> ?_, ?_⟩,rfl⟩
 ·
  rw[gX] at oE
  unfold lQ at mR
  split at mR
  case h_2=>cases mR
  rename_i gM aiZ
  cases mR
  cases hl:au (lQ.nq (j.sl.map aqO) gM) t with
  |some a'=>
   rw[hl] at oE
   cases oE
   exact PK (g1 gM aiZ) FT hl
  |none=>
   rw[hl] at oE
   dsimp only at oE
   rw[ux (f:=fun t=> !(bp wr t))] at oE
   split at oE
   case isFalse=>cases oE
   rename_i mT
   have mT:t∉wr:=kz (by simpa using mT)
   have h1:au σ1.sl t=some a:=(he.sl t mT).trans oE
   obtain⟨v,k1,k2⟩:=cZ.sr t a h1
   obtain⟨v0,_,k3⟩:=hk.sr t a oE
   exact⟨v,k1,eM.two FF k2 k3⟩
 ·
  unfold cw at fT
  rw[gX] at fT
  cases hl:au sb i with
  |some y=>
   rw[hl] at fT
   cases y with
   |none=>cases fT
   |some y=>
    cases fT
    obtain⟨k1,k2,k3⟩:=g2 sb Ma i x (by unfold cw;rw[hl])
    obtain⟨q,hq⟩:=nB k1
    obtain⟨⟨_,k4⟩,_⟩:=kF _ hq
    have:=hk.bR
    refine⟨?_,k2,k3⟩
    rw[arW] at k4
    rcases k4 with k4|k4
    · have:=aqT k4
      simp only at*
      omega
    · exact hex.xH i i (hex.LQ _ (aqX.2 ⟨_,arf.2 ⟨hq,k4⟩,rfl⟩))
  |none=>
   rw[hl] at fT
   dsimp only at fT
   have mU:cw σ.ob i=some x∧i∈(kept σ mv).map aqO:=by
    unfold kept at fT⊢
    rw[ux (f:=fun t=> !(bp mv t))] at fT
    by_cases hm:(!bp mv i)=true
    · rw[if_pos hm] at fT
      refine⟨fT, ?_⟩
      cases ln:au σ.ob i with
      |none=>rw[ln] at fT;cases fT
      |some y=>exact aqX.2 ⟨(i,y),arf.2 ⟨cz ln,hm⟩,rfl⟩
    · rw[if_neg hm] at fT;cases fT
   obtain⟨kb,Ug⟩:=mU
   have h1:cw σ1.ob i=some x:=by
    have:=he.ob i (by show i∈lk;exact(u5 i Ug).2.2)
    unfold cw at kb⊢
    rw[this]
    exact kb
   obtain⟨k1,k2,k3⟩:=cZ.ob.ob i x h1
   obtain⟨_,m2,m3⟩:=hk.ob.ob i x kb
   refine⟨k1,(FF.u i m2).1,OR.two FF m2 (fun b hb=> ?_) k3 m3⟩
   subst uH
   show ic m _ _ (aF.o b)=i
   rw[hb]
   exact ahn i Ug m2
 ·
  show aX.o b<j.nx+_
  subst uH
  show ic m _ _ (aF.o b)<_
  have:=hk.bR
  rcases TW (aF.o b) with⟨p,h1,h2⟩|h1|⟨h1,h2⟩|h1
  · have:=FL p _ h1;omega
  · omega
  · rw[h1]
    omega
  · omega
 · show x<j.nx+_
   have:=hk.bR
   omega
 · show 2000≤j.nx+_
   have:=hk.bR
   omega
 ·
  subst uH
  show aF.o b=ic m _ _ (aF.o b)
  have hc:ic m ((kept σ mv).map aqO) σ.nx (aF.o b)=0∨ic m ((kept σ mv).map aqO) σ.nx (aF.o b)=3:=hc
  have:=hk.bR
  rcases TW (aF.o b) with⟨p,h1,h2⟩|h1|⟨h1,h2⟩|h1
  · have:=FL p _ h1;omega
  · omega
  · exact h1.symm
  · omega
 ·
  show au (sa++_) t=_
  rw[gX]
  have:au sa t=none:=by
   unfold lQ at mR
   split at mR
   case h_2=>cases mR
   cases mR
   cases hl:au (lQ.nq (j.sl.map aqO) _) t with
   |none=>rfl
   |some a=>
    have:=ID hl
    simp only[aqX] at this
    obtain⟨q,hq,rfl⟩:=this
    exact(ht (dK.1 (pR _ hq))).elim
  rw[this]
  dsimp only
  rw[ux (f:=fun t=> !(bp wr t))]
  rw[if_pos]
  cases hm:bp wr t with
  |true=>exact(ht (dK.1 hm)).elim
  |false=>rfl
 ·
  show au (sb++kept σ mv) i=_
  rw[gX]
  have:au sb i=none:=by
   cases hl:au sb i with
   |none=>rfl
   |some y=>
    obtain⟨p,q,y',k1,k2,_⟩:=LI Ma hl
    cases k2
    obtain⟨⟨_,_⟩,k3⟩:=kF _ k1
    have ck:i∈lk:=hi
    rw[lm] at ck
    exact(kz k3 ck).elim
  rw[this]
  unfold kept
  dsimp only
  rw[ux (f:=fun t=> !(bp mv t)),if_pos]
  cases hm:bp mv i with
  |true=>
   have ck:i∈lk:=hi
   rw[lm] at ck
   rcases aqP.1 ck with ck|ck
   · unfold kept at ck
     simp only[aqX,arf] at ck
     obtain⟨q,⟨_,hq⟩,rfl⟩:=ck
     rw[hm] at hq
     cases hq
   · exact(p_ Bt (dK.1 hm) ck).elim
  |false=>rfl
 · show σ.nx≤j.nx+_
   omega
end
end Rx
end Go.Proofs.YtncbfgppjfcijaaGreat
namespace Go.Proofs.YtncbfgppjfcijaaGreat
open Go Go.RowKit Dp
namespace Rx
section
variable {D:Nat→Type} [∀n,ab (D n)]
variable {P:Program} {T:aV D} {Φ:List (ar D)} {n:Nat} {γ:Gh D} {w:World} {L:List (Nat×Value)} {Qx:Exit→Act→World→Prop}
theorem jQ.append{U:Nat→Prop}:∀{as:List (AV D)} {vs:List Value} {bs:List (AV D)} {us:List Value},jQ U γ w as vs→jQ U γ w bs us→jQ U γ w (as++bs) (vs++us)
 |[],[],_,_,_,h=>h
 |a::as,v::vs,_,_,h,h'=>⟨h.1,jQ.append h.2 h'⟩
 |[],_::_,_,_,h,_=>h.elim
 |_::_,[],_,_,h,_=>h.elim
theorem Od{U:Nat→Prop}:∀{cs:List (A0 D)} {vs:List Value},jR U γ w cs vs→jQ U γ w (cs.map Oe) vs
 |[],[],_=>trivial
 |c::cs,v::vs,h=>by
  refine⟨?_,Od h.2⟩
  cases c with
  |ptr i off=>exact h.1
  |rp n x off K=>exact h.1
 |[],_::_,h=>h.elim
 |_::_,[],h=>h.elim
theorem Sh [Rd](hP:dh P T)(hR:bQ T)(cE:∀c∈Φ,ff P T c){U:Nat→Prop}{ah:Nat}{sl:List (Nat×AV D)}{ob:List (Nat×Option (AO D))}{d:Option Tmp}{ty:TypeId}{pos:String}{af:Array Edge}{gd:Option (Nat×Bool)}{e:bT D}{l:List Nat}
  (hx:Cx U ah γ w sl L ob) {op:Op} {as:List (AV D)} (he:dk sl op.operands.toList=some as) (h:Q.R ob (uo T Φ ah op as) l e):
  OW P Qx L ⟨d,op,ty,pos,af,gd⟩ w (fun v w'=>∃γ',cJ U ah γ w ob e γ' v w'):=by
 unfold uo at h
 split at h
 · rename_i u G5 ts
   have he:dk sl (u::G5.toList)=some as:=by simpa[Op.operands,Call.operands] using he
   split at h
   case h_2=>exact(h:False).elim
   rename_i f fJ gM _
   obtain⟨h1,h2⟩:=oU he
   obtain⟨vu,k1,cs,rfl,k2⟩:=bJ hx.sr h1
   obtain⟨vs,k3,k4⟩:=Vy hx.sr h2
   split at h
   · rename_i hf
     have e0:p6 f cs= .func (.func f) #[] cs.toArray:=if_pos hf
     rw[e0] at k1
     obtain⟨m1,m2⟩:=V5 hR cE hx (jQ.append k4 (Od k2)) h
     have:=OW.aly (P:=P) (Q:=Qx) (L:=L) (w:=w) (d:=d) (ty:=ty) (pos:=pos) (af:=af) (g:=gd) (f:=f) (u:=u) (args:=G5.toList) (fJ:=cs.toArray) (vs:=vs) (ats:=ts) m1 k1 k3 (by simpa using m2)
     simpa using this
   · rename_i hf
     have e0:p6 f cs= .func (.func (f-1000000)) cs.toArray #[]:=if_neg (by rw[hf];decide)
     rw[e0] at k1
     obtain⟨m1,m2⟩:=V5 hR cE hx (jQ.append (Od k2) k4) h
     refine OW.RD fun a hr=>⟨f-1000000,(cs++vs).toArray, ?_,m2⟩
     simp[execOp,resolve,invoke,Deferred.ofValue,hr _ _ k1,m1]
     exact yf hr _ k3
 · exact ae4 hP hR hx he h
def mI(d:Option Tmp)(v:Value)(L:List (Nat×Value)):List (Nat×Value):=match d with
 |some d=>(d,v)::L
 |none=>L
theorem Fr.mI [I:Rd]{a:Act}(h:Fr n L a){d:Option Tmp}(hd:∀t,d=some t→I.ft n t=true)(v:Value):Fr n (mI d v L) (a.put d v):=by
 cases d with
 |none=>exact h
 |some t=>exact h.put (hd t rfl) v
theorem WL.take [I:Rd]{ops:Array Oper}{rest:List Oper}{o:Oper}{R:Value→World→Prop}(hd:∀t,o.dst=some t→I.ft n t=true)(hw:∀a,Fr n L a→Region.wanted o (yielded ops a.tmps)=true)(h:OW P Qx L o w R)
  (k:∀v w',R v w'→WL P n ops Qx rest (mI o.dst v L) w'):WL P n ops Qx (o::rest) L w:=by
 intro a ha
 refine wpListIn_step fun K hK=> ?_
 rw[if_pos (hw a ha)]
 exact h a K (fun x v hx=>ha.ev hx) fun v w' hr=>hK _ _ (k v w' hr _ (Fr.mI ha hd v))
theorem WL.pass [I:Rd]{ops:Array Oper}{rest:List Oper}{o:Oper}(hd:∀t,o.dst=some t→I.ft n t=true)(hw:∀a,Fr n L a→Region.wanted o (yielded ops a.tmps)=false)
  (k:WL P n ops Qx rest (mI o.dst undef L) w):WL P n ops Qx (o::rest) L w:=by
 intro a ha
 refine wpListIn_step fun K hK=> ?_
 rw[if_neg (by rw[hw a ha];simp)]
 exact⟨fun _ _=>trivial,hK _ _ (k _ (Fr.mI ha hd _))⟩
theorem I5 [Rd]{ops:List Oper}{j d:Nat}{og:Oper}{b:Bool}{a:Act}(ha:Fr n L a)(hj:ops[j]? =some og)(hd:og.dst=some d)(hl:Dp.look L d=some (.bool b)):yielded ops.toArray a.tmps j=some b:=by
 have:=ha.get d _ hl
 simp[yielded,hj,hd,this]
theorem Qv [Rd]{ops:List Oper}{j d:Nat}{og:Oper}{a:Act}(ha:Fr n L a)(hj:ops[j]? =some og)(hd:og.dst=some d)(hl:Dp.look L d=some undef):yielded ops.toArray a.tmps j=none:=by
 have:=ha.get d _ hl
 simp[yielded,hj,hd,this,undef]
theorem apj(N:Nat):fY (fun i=>i<N) N=fun i=>i<N+64:=by
 funext i
 unfold fY
 apply propext
 omega
theorem Kn.cx{σ:S D}(h:Kn σ γ w L):Cx (fun i=>i<σ.nx) σ.nx γ w σ.sl L σ.ob:=
 ⟨h.sr,h.ob,fun i h1 h2 h3=>by omega,by have:=h.bR;omega⟩
theorem Kn.ap{σ:S D}{γ':Gh D}{w':World}{v:Value}{e:bT D}(h:Kn σ γ w L)(hp:cJ (fun i=>i<σ.nx) σ.nx γ w σ.ob e γ' v w')(d:Option Tmp):Kn (tA σ d e) γ' w' (mI d v L):=by
 have eb:=hp.kp
 have vi:=hp.dst
 have bb:=hp.ob
 rw[apj] at eb vi bb
 refine⟨?_,bb,by show 2000≤σ.nx+64;have:=h.bR;omega⟩
 cases d with
 |none=>exact h.sr.cj eb
 |some t=>exact(h.sr.cj eb).cons vi
theorem Kn.skip{σ:S D}(h:Kn σ γ w L)(d:Option Tmp):Kn (pt σ d) γ w (mI d undef L):=by
 have eb:fA (fun i=>i<σ.nx) (fun i=>i<σ.nx+64) γ w γ w:=⟨fun i h=>by show i<_;have h:i<σ.nx:=h;omega,fun _ _=>rfl,fun _ _=>rfl,fun _ _ _=>⟨rfl,rfl⟩⟩
 refine⟨?_,⟨fun i x hx=> ?_,fun b hb=>eb.u _ (h.ob.cl b hb),fun x hx=>eb.u _ (h.ob.ro x hx)⟩,by show 2000≤σ.nx+64;have:=h.bR;omega⟩
 · cases d with
   |none=>exact h.sr.cj eb
   |some t=>exact(h.sr.cj eb).cons rfl
 · obtain⟨h1,h2,h3⟩:=h.ob.ob i x hx
   exact⟨h1,eb.u _ h2,h3.cj eb h2 fun _ _ _=>⟨rfl,rfl⟩⟩
theorem Lj{α:Type}{l:List (Nat×α)}{d:Nat}{a:α}(h:au l d=some a)(t:Nat):au ((d,a)::l) t=au l t:=by
 simp only[au]
 cases hb:aqH d t with
 |true=>
  have:=aqK hb
  subst this
  simp[h]
 |false=>rfl
theorem Kn.iC{σ:S D}{d:Nat}{c:Bool}{K:List Nat}{g:Nat}(h:Kn σ γ w L)(hd:au σ.sl d=some (.c (.one (.v .bool c K g)))):Kn (iC σ d c K g) γ w L:=
 ⟨fun t a ha=>h.sr t a (by rw[←Lj hd];exact ha),h.ob,h.bR⟩
theorem bB.iC{σ:S D}{d:Nat}{c:Bool}{K:List Nat}{g:Nat}(wr:List Nat)(hd:au σ.sl d=some (.c (.one (.v .bool c K g)))):bB wr σ (iC σ d c K g):=
 ⟨fun t _=>Lj hd t,rfl,fun _ _=>rfl,aqM _⟩
theorem bB.ap{σ:S D}{e:bT D}{d:Option Tmp}{wr:List Nat}(hd:∀t,d=some t→t∈wr)(he:yj σ.lk e=true):bB wr σ (tA σ d e):=by
 unfold yj at he
 simp only[aqL] at he
 refine⟨fun t ht=> ?_,rfl,fun i hi=> ?_,by show σ.nx≤σ.nx+64;omega⟩
 · cases d with
   |none=>rfl
   |some d=>
    show au ((d,e.dst)::σ.sl) t=_
    simp only[au]
    have:aqH d t=false:=by
     cases hb:aqH d t with
     |true=>
      have:=aqK hb
      exact(ht (hd t (by rw[this]))).elim
     |false=>rfl
    rw[this]
    rfl
 · show au (e.fz.map (fun i=>(i,none))++e.nt++σ.ob) i=_
   have h1:au (e.fz.map fun i=>(i,(none:Option (AO D)))) i=none:=by
    rw[lP]
    intro hm
    simp only[List.map_map,aqX] at hm
    obtain⟨x,hx,rfl⟩:=hm
    exact p_ he.2 hx hi
   have h2:au e.nt i=none:=by
    rw[lP]
    exact fun hm=>p_ he.1 hm hi
   rw[List.append_assoc,gX,h1]
   dsimp only
   rw[gX,h2]
theorem bB.skip{σ:S D}{d:Option Tmp}{wr:List Nat}(hd:∀t,d=some t→t∈wr):bB wr σ (pt σ d):=by
 refine⟨fun t ht=> ?_,rfl,fun _ _=>rfl,by show σ.nx≤σ.nx+64;omega⟩
 cases d with
 |none=>rfl
 |some d=>
  show au ((d,_)::σ.sl) t=_
  simp only[au]
  have:aqH d t=false:=by
   cases hb:aqH d t with
   |true=>
    have:=aqK hb
    exact(ht (hd t (by rw[this]))).elim
   |false=>rfl
  rw[this]
  rfl
theorem Q4{ρ:Type}{p:Nat}{o:Oper}{σ:S D}{lg:List Lg}{k:S D→List Lg→Option ρ}{r:ρ}(h:ue T Φ p o σ lg k=some r):
  ∃as e l,dk σ.sl o.op.operands.toList=some as∧Q.R σ.ob (uo T Φ σ.nx o.op as) l e∧yj σ.lk e=true∧k (tA σ o.dst e) (⟨p,l.reverse,e.wr⟩::lg)=some r:=by
 unfold ue at h
 split at h
 case h_2=>cases h
 rename_i as ha
 obtain⟨l,e,h1,h2⟩:=Q.Gn h
 split at h2
 case h_2=>cases h2
 rename_i hc
 exact⟨as,e,l,ha,h1,hc,by simpa using h2⟩
theorem NU{o:Oper}{r:List Oper}{t:Nat}(h:o.dst=some t):t∈dstsOf (o::r):=by
 unfold dstsOf
 simp[List.filterMap_cons,h]
theorem NT{o:Oper}{r:List Oper}{t:Nat}(h:t∈dstsOf r):t∈dstsOf (o::r):=by
 unfold dstsOf at h⊢
 rw[List.filterMap_cons]
 split
 · exact h
 · exact aq7 _ h
theorem Nr{ops:List Oper}{sl:List (Nat×AV D)}{j d:Nat}{a:AV D}(h:guardOf ops sl j=some (d,a)):∃og,ops[j]? =some og∧og.dst=some d∧au sl d=some a:=by
 unfold guardOf at h
 split at h
 case h_2=>cases h
 rename_i og ho
 split at h
 case h_2=>cases h
 rename_i d' hd
 split at h
 case h_2=>cases h
 rename_i a' ha
 cases h
 exact⟨og,ho,hd,ha⟩
theorem Ce{ρ:Type}{c:Bool}{a b:Option ρ}{r:ρ}(h:Cf c a b=some r):(c=true∧a=some r)∨(c=false∧b=some r):=by
 cases c with
 |true=>exact .inl ⟨rfl,h⟩
 |false=>exact .inr ⟨rfl,h⟩
section
variable (hP:dh P T) (hR:bQ T) (cE:∀c∈Φ,ff P T c)
include hP hR cE
theorem acZ [Rd]{σ:S D}(hk:Kn σ γ w L){o:Oper}{as:List (AV D)}{e:bT D}{l:List Nat}(ha:dk σ.sl o.op.operands.toList=some as)(hq:Q.R σ.ob (uo T Φ σ.nx o.op as) l e):
  OW P Qx L o w (fun v w'=>∃γ',Frame γ w γ' w'∧Kn (tA σ o.dst e) γ' w' (mI o.dst v L)):=by
 obtain⟨d,op,ty,pos,af,gd⟩:=o
 refine OW.mono (Sh hP hR cE hk.cx ha hq) ?_
 rintro v w' ⟨γ',hp⟩
 exact⟨γ',hp.fr,hk.ap hp d⟩
theorem sV [I:Rd]{ops:List Oper}:∀{l:List Oper} {p:Nat} {σ:S D} {lg:List Lg} {ρ:Type} {k:S D→List Lg→Option ρ} {r:ρ} {γ:Gh D} {w:World} {L:List (Nat×Value)},im T Φ ops l p σ lg k=some r→(∀t∈dstsOf l,I.ft n t=true)→Kn σ γ w L→
  (∀aI A4 γ' w' L',Kn aI γ' w' L'→Frame γ w γ' w'→bB (dstsOf l) σ aI→k aI A4=some r→NK n (Qx .normal) L' w')→WL P n ops.toArray Qx l L w
 |[],p,σ,lg,ρ,k,r,γ,w,L,h,hd,hk,hc=>WL.nil (hc σ lg γ w L hk (Frame.refl _ _) (bB.refl _ _) h)
 |o::l,p,σ,lg,ρ,k,r,γ,w,L,h,hd,hk,hc=>by
  have qX:∀t,o.dst=some t→I.ft n t=true:=fun t ht=>hd t (NU ht)
  have qY:∀t∈dstsOf l,I.ft n t=true:=fun t ht=>hd t (NT ht)
  have run:∀{dN:S D},Kn dN γ w L→bB (dstsOf (o::l)) σ dN→(∀a,Fr n L a→Region.wanted o (yielded ops.toArray a.tmps)=true)→ue T Φ p o dN lg (fun σ lg=>im T Φ ops l (p+1) σ lg k)=some r→WL P n ops.toArray Qx (o::l) L w:=by
   intro dN lp mV hw h
   obtain⟨as,e,l',h1,h2,h3,h4⟩:=Q4 h
   refine WL.take qX hw (acZ hP hR cE lp h1 h2) ?_
   rintro v w' ⟨γ',hf,bH⟩
   have iI:bB (dstsOf (o::l)) dN (tA dN o.dst e):=bB.ap (fun t ht=>NU ht) h3
   exact sV h4 qY bH fun aI A4 wb pi zf MD MP MT M3=>hc aI A4 wb pi zf MD (hf.trans MP) ((mV.trans iI).trans (MT.mono fun t ht=>NT ht)) M3
  have pass:∀{dN:S D},Kn dN γ w L→bB (dstsOf (o::l)) σ dN→(∀a,Fr n L a→Region.wanted o (yielded ops.toArray a.tmps)=false)→im T Φ ops l (p+1) (pt dN o.dst) lg k=some r→WL P n ops.toArray Qx (o::l) L w:=by
   intro dN lp mV hw h
   refine WL.pass qX hw ?_
   have iI:bB (dstsOf (o::l)) dN (pt dN o.dst):=bB.skip fun t ht=>NU ht
   exact sV h qY (lp.skip o.dst) fun aI A4 wb pi zf MD MP MT M3=>hc aI A4 wb pi zf MD MP ((mV.trans iI).trans (MT.mono fun t ht=>NT ht)) M3
  simp only[im] at h
  split at h
  · rename_i hg
    exact run hk (bB.refl _ _) (fun a _=>by simp[Region.wanted,hg]) h
  · rename_i j b hg
    split at h
    case h_1=>cases h
    rename_i d a pS
    obtain⟨og,ho,xY,hl⟩:=Nr pS
    split at h
    · rename_i c K g
      obtain⟨v,ss,iR⟩:=hk.sr d _ hl
      have iR:v= .bool c:=iR.1
      subst iR
      have hy:∀a,Fr n L a→Region.wanted o (yielded ops.toArray a.tmps)=(c==b):=fun a ha=>by
       simp[Region.wanted,hg,I5 ha ho xY ss]
      rcases Ce h with⟨rfl,h⟩|⟨rfl,h⟩
      · have fE:=hk.iC hl
        have lZ:=bB.iC (dstsOf (o::l)) hl
        cases b with
        |true=>exact run fE lZ (fun a ha=>by rw[hy a ha];rfl) h
        |false=>exact pass fE lZ (fun a ha=>by rw[hy a ha];rfl) h
      · have fE:=hk.iC hl
        have lZ:=bB.iC (dstsOf (o::l)) hl
        cases b with
        |true=>exact pass fE lZ (fun a ha=>by rw[hy a ha];rfl) h
        |false=>exact run fE lZ (fun a ha=>by rw[hy a ha];rfl) h
    · split at h
      case isFalse=>cases h
      rename_i hu
      have ha:a= .c (.one .undef):=by
       unfold LD at hu
       split at hu
       · rfl
       · cases hu
      subst ha
      obtain⟨v,ss,iR⟩:=hk.sr d _ hl
      have iR:v=undef:=iR
      subst iR
      exact pass hk (bB.refl _ _) (fun a ha=>by simp[Region.wanted,hg,Qv ha ho xY ss]) h
end
end
end Rx
end Go.Proofs.YtncbfgppjfcijaaGreat
namespace Go.Proofs.YtncbfgppjfcijaaGreat
open Go Go.RowKit Dp
namespace Rx
section
variable {D:Nat→Type} [∀n,ab (D n)]
variable {P:Program} {T:aV D} {Φ:List (ar D)} {n:Nat} {γ:Gh D} {w:World} {L:List (Nat×Value)} {Qx:Exit→Act→World→Prop}
theorem Out.CQ:∀{a b:Out},a.beq b=true→a=b
 | .normal,.normal,_=>rfl
 | .exit a,.exit b,h=>by rw[aqK h]
 | .goto a,.goto b,h=>by rw[aqK h]
 | .ret,.ret,_=>rfl
 | .normal,.exit _,h=>by cases h
 | .normal,.goto _,h=>by cases h
 | .normal,.ret,h=>by cases h
 | .exit _,.normal,h=>by cases h
 | .exit _,.goto _,h=>by cases h
 | .exit _,.ret,h=>by cases h
 | .goto _,.normal,h=>by cases h
 | .goto _,.exit _,h=>by cases h
 | .goto _,.ret,h=>by cases h
 | .ret,.normal,h=>by cases h
 | .ret,.exit _,h=>by cases h
 | .ret,.goto _,h=>by cases h
theorem Nv{ρ:Type}{j:J}{wr mv:List Nat}{σ:S D}{k:S D→Option ρ}{h:HH D j.bZ}{r:ρ}(e:BV T j wr mv σ k h=some r):∃bc,k9 T j wr mv σ h=some bc∧k bc=some r:=by
 unfold BV at e
 split at e
 · rename_i aI h1
   exact⟨aI,h1,e⟩
 · cases e
theorem wv{ρ:Type}{wr mv:List Nat}{σ σ1:S D}{k:Out→S D→Option ρ}{kv:Option ρ}{o:Out}{r:ρ}:∀{E:List (Out×J)} {pr:Bool} {x:nY D pr ρ E},toE T pr E o σ1 kv=some x→oQ T pr wr mv σ k E x=some r→
  (∃j h bc,wa T j σ1 h∧k9 T j wr mv σ h=some bc∧k o bc=some r)∨kv=some r
 |[],pr,x,h,hf=>by
  simp only[toE] at h
  simp only[oQ] at hf
  exact .inr (h.trans hf)
 |(o',j)::E,pr,x,h,hf=>by
  cases pr with
  |true=>
   cases E with
   |nil=>
    simp only[toE] at h
    split at h
    case isFalse=>cases h
    rename_i hb
    obtain⟨y,h1,h2⟩:=p9 h
    cases h2
    have:=Out.CQ hb
    subst this
    simp only[oQ] at hf
    obtain⟨bc,h3,h4⟩:=Nv hf
    exact .inl ⟨j,x,bc,h1,h3,h4⟩
   |cons e E=>
    simp only[toE] at h
    split at h
    · rename_i hb
      obtain⟨y,h1,h2⟩:=p9 h
      cases h2
      have:=Out.CQ hb
      subst this
      simp only[oQ,xo,aqI] at hf
      obtain⟨bc,h3,h4⟩:=Nv hf
      exact .inl ⟨j,y,bc,h1,h3,h4⟩
    · split at h
      case h_2=>cases h
      rename_i y hy
      cases h
      simp only[oQ,xo,aqJ] at hf
      exact wv hy hf
  |false=>
   simp only[toE] at h
   split at h
   · rename_i hb
     obtain⟨y,h1,h2⟩:=p9 h
     cases h2
     have:=Out.CQ hb
     subst this
     simp only[oQ,xo,aqI] at hf
     obtain⟨bc,h3,h4⟩:=Nv hf
     exact .inl ⟨j,y,bc,h1,h3,h4⟩
   · split at h
     case h_2=>cases h
     rename_i y hy
     cases h
     simp only[oQ,xo,aqJ] at hf
     exact wv hy hf
theorem Kn.lk{σ:S D}(h:Kn σ γ w L)(l:List Nat):Kn {σ with lk:=l} γ w L:=⟨h.sr,h.ob,h.bR⟩
theorem bB.wo{wr:List Nat}{σ σ1:S D}{lk:List Nat}(hs:∀i∈σ.lk,i∈lk)(h:bB wr {σ with lk:=lk} σ1):bB wr σ {σ1 with lk:=σ.lk}:=
 ⟨h.sl,rfl,fun i hi=>h.ob i (hs i hi),h.nx⟩
theorem t_(hR:bQ T){cut:Option (Bool×List (Out×J))}{wr:List Nat}{ρ:Type}{body:∀{eo:Type},S D→(Out→S D→Option eo)→Option eo}{σ:S D}{k:Out→S D→Option ρ}{r:ρ}(h:wrap T wr cut body σ k=some r)(hk:Kn σ γ w L){G:Prop}(X:Out→List (Nat×Value)→World→Prop)
  (vm:∀{eo:Type} {aI:S D} {k':Out→S D→Option eo} {r':eo},body aI k'=some r'→Kn aI γ w L→(∀o σ1 aF w1 L1,Kn σ1 aF w1 L1→Frame γ w aF w1→bB wr aI σ1→k' o σ1=some r'→X o L1 w1)→G)
  (hc:∀o σ1 aF w1 L1,Kn σ1 aF w1 L1→Frame γ w aF w1→bB wr σ σ1→k o σ1=some r→X o L1 w1):G:=by
 unfold wrap at h
 split at h
 · exact vm h hk hc
 · rename_i pr E
   obtain⟨x,hx,hf⟩:=tx h
   refine vm hx (hk.lk _) fun o σ1 aF w1 L1 cZ cG he hto=> ?_
   have hs:∀i∈σ.lk,i∈(kept σ (pC E)).map aqO++σ.lk:=fun i hi=>aqP.2 (.inr hi)
   rcases wv hto hf with⟨j,y,bc,h1,h2,h3⟩|h1
   · obtain⟨aX,k1,k2,k3,k4⟩:=uF hR rfl hk cZ he h1 h2
     have:=k3.wo (σ:=σ) hs
     have e:({bc with lk:=σ.lk}:S D)=bc:=by rw[←k4]
     rw[show({({bc with lk:=(kept σ (pC E)).map aqO++σ.lk}:S D) with lk:=σ.lk}:S D)={bc with lk:=σ.lk} from rfl,e] at this
     exact hc o bc aX w1 L1 k1 (cG.trans k2) this h3
   · exact hc o _ aF w1 L1 (cZ.lk _) cG (he.wo hs) h1
theorem aay [I:Rd]{o:Oper}{a:Act}{w:World}{K:Act→World→Prop}{K2:Act→World→Prop}(hh:o.wpIn I.F 0 P a w K (Exit.then K2 Qx)):o.wpIn I.F 0 P a w K Qx:=by
 unfold Oper.wpIn at*
 refine⟨hh.1, ?_⟩
 have hh:=hh.2
 generalize (o.semAt I.F.round a.eval).run P w=r at*
 cases r with
 |ok n w'=>
  cases n<;>simp only[Oper.uponIn] at hh⊢<;>
   first
    |exact hh
    |exact⟨hh.1,hh.2.mono (fun e pi he=>by cases e<;>exact he)⟩
    |exact⟨hh.1,hh.2.mono (fun _ _ he=>he)⟩
 |halt x w'=>cases x<;>simp only[Oper.uponIn] at hh⊢<;>exact hh
theorem Lo [I:Rd]{ops:Array Oper}{l2:List Oper}:∀{l1:List Oper} {a:Act} {w:World},wpListIn I.F 0 P ops (Exit.then (wpListIn I.F 0 P ops Qx l2) Qx) l1 a w→wpListIn I.F 0 P ops Qx (l1++l2) a w
 |[],a,w,h=>h
 |o::l1,a,w,h=>by
  unfold wpListIn at h
  show wpListIn I.F 0 P ops Qx (o::(l1++l2)) a w
  unfold wpListIn
  split
  · rename_i hw
    rw[if_pos hw] at h
    exact Oper.wpIn_mono (fun a w h=>Lo h) (aay h)
  · rename_i hw
    rw[if_neg hw] at h
    exact⟨h.1,Lo h.2⟩
theorem WL.bq [Rd]{ops:Array Oper}{l1 l2:List Oper}(h:∀K:Act→World→Prop,(∀L' w',WL P n ops Qx l2 L' w'→NK n K L' w')→WL P n ops (Exit.then K Qx) l1 L w):WL P n ops Qx (l1++l2) L w:=
 fun a ha=>Lo (h _ (fun _ _ hc a' eR=>hc a' eR) a ha)
theorem NV(a b:List Oper):dstsOf (a++b)=dstsOf a++dstsOf b:=by
 unfold dstsOf
 simp
theorem acy{σ:S D}{γ:Gh D}{w:World}{L:List (Nat×Value)}{i m t tc q g h:Nat}{xs:List (D m)}(hk:Kn σ γ w L)(ho:cw σ.ob i=some (.bU m t tc q xs g h))(hl:bp σ.lk i=false):
  ∃aX,Kn {σ with ob:=(i,some (.sl m t xs [1] g))::σ.ob} aX w L∧Frame γ w aX w∧bB [] σ {σ with ob:=(i,some (.sl m t xs [1] g))::σ.ob}:=by
 obtain⟨hi,hU,h1,h2,_⟩:=hk.ob.ob i _ ho
 obtain⟨o',lU⟩:∃o':bL,o'=fun b=>if γ.o b=i∧qV (γ.g i) b=false then 1 else γ.o b:=⟨_,rfl⟩
 have bg:∀b,γ.o b≠i→o' b=γ.o b:=fun b hb=>by rw[lU];exact if_neg fun hc=>hb hc.1
 have hhd:∀b,qV (γ.g i) b=true→o' b=γ.o b:=fun b hb=>by rw[lU];exact if_neg fun hc=>by rw[hb] at hc;cases hc.2
 have iY:∀b,γ.o b=i→qV (γ.g i) b=false→o' b=1:=fun b e hb=>by rw[lU];exact if_pos ⟨e,hb⟩
 have uS:∀b,o' b=γ.o b∨o' b=1∧γ.o b=i:=fun b=>by
  rw[lU]
  by_cases hc:γ.o b=i∧qV (γ.g i) b=false
  · exact .inr ⟨if_pos hc,hc.1⟩
  · exact .inl (if_neg hc)
 have kp:fA (fun i=>i<σ.nx) (fun i=>i<σ.nx) γ w ⟨o',γ.g,γ.v⟩ w:=⟨fun _ h=>h,fun _ _=>rfl,fun _ _=>rfl,fun b _ hc=>⟨bg b (by omega),rfl⟩⟩
 refine⟨⟨o',γ.g,γ.v⟩,⟨hk.sr.cj kp,⟨fun j x hx=> ?_,fun b hb=> ?_,hk.ob.ro⟩,hk.bR⟩,⟨⟨rfl,rfl,rfl,aqM _,fun b _ hc=>⟨bg b (by omega),rfl⟩,fun b hb hc=>⟨hb, ?_⟩⟩,fun _ _=>rfl⟩,⟨fun _ _=>rfl,rfl,fun j hj=> ?_,aqM _⟩⟩
 · by_cases ed:i=j
   · subst ed
     have e:cw ((i,some (AO.sl m t xs [1] g))::σ.ob) i=some (.sl m t xs [1] g):=by simp[cw,au]
     rw[e] at hx
     cases hx
     refine⟨hi,hU, ?_,fun x hx=>by rw[aq1.1 hx];omega,h2.cj kp⟩
     refine Ow.oo (fun b hb=> ?_) (fun b hb=> ?_) h1.ow
     · obtain⟨f1,f2⟩:=xA hb
       show o' b=i
       rw[hhd b f2,f1]
     · have hb:iF γ.o i (γ.g i) b=1:=by simpa[In] using hb
       obtain⟨f1,f2⟩:=xz hb
       show o' b∈[1]
       rw[iY b f1 f2]
       exact aq1.2 rfl
   · have hb:aqH i j=false:=by
      cases hb:aqH i j with
      |true=>exact(ed (aqK hb)).elim
      |false=>rfl
     have e:cw ((i,some (AO.sl m t xs [1] g))::σ.ob) j=cw σ.ob j:=by simp[cw,au,hb]
     rw[e] at hx
     obtain⟨k1,k2,k3⟩:=hk.ob.ob j x hx
     exact⟨k1,k2,k3.cj kp k2 fun b _ hb=>⟨bg b (by rw[hb];exact fun e=>ed e.symm),rfl⟩⟩
 · show o' b<σ.nx
   rcases uS b with e|⟨e,_⟩
   · rw[e];exact hk.ob.cl b hb
   · rw[e];have:=hk.bR;omega
 · rcases uS b with e|⟨e,_⟩
   · exact e.symm
   · have hc:o' b=0∨o' b=3:=hc
     omega
 · have bg:i≠j:=fun e=>kz hl (e▸hj)
   have hb:aqH i j=false:=by
    cases hb:aqH i j with
    |true=>exact(bg (aqK hb)).elim
    |false=>rfl
   simp[au,hb]
theorem QX{w:World}{L:List (Nat×Value)}:∀{b:List Nat} {σ bc:S D} {γ:Gh D},rF σ b=some bc→Kn σ γ w L→∃aX,Kn bc aX w L∧Frame γ w aX w∧bB [] σ bc
 |[],σ,bc,γ,h,hk=>by
  cases h
  exact⟨γ,hk,Frame.refl _ _,bB.refl _ _⟩
 |i::r,σ,bc,γ,h,hk=>by
  simp only[rF] at h
  split at h
  case h_2=>cases h
  rename_i m t tc q xs g ht ho
  split at h
  case isTrue=>cases h
  rename_i hl
  obtain⟨aF,k1,k2,k3⟩:=acy hk ho (by simpa using hl)
  obtain⟨aX,j1,j2,j3⟩:=QX h k1
  exact⟨aX,j1,k2.trans j2,k3.trans j3⟩
theorem ajR{σ:S D}{γ:Gh D}{w:World}{L:List (Nat×Value)}{i n:Nat}{xs:List (D n)}{K:List Nat}{o:AO D}(hk:Kn σ γ w L)(ho:cw σ.ob i=some o)(hd:vV o=some (⟨.sl n,xs⟩,K))(hl:bp σ.lk i=false):
  ∃aX,Kn {σ with ob:=(i,some (.fz n xs (1::K)))::σ.ob} aX w L∧Frame γ w aX w∧bB [] σ {σ with ob:=(i,some (.fz n xs (1::K)))::σ.ob}:=by
 obtain⟨hi,hU,h1⟩:=hk.ob.ob i _ ho
 obtain⟨h2,h3⟩:=O7 h1 hd
 obtain⟨o',lU⟩:∃o':bL,o'=fun b=>if γ.o b=i then 1 else γ.o b:=⟨_,rfl⟩
 have bg:∀b,γ.o b≠i→o' b=γ.o b:=fun b hb=>by rw[lU];exact if_neg hb
 have gZ:∀b,γ.o b=i→o' b=1:=fun b hb=>by rw[lU];exact if_pos hb
 have uS:∀b,o' b=γ.o b∨o' b=1∧γ.o b=i:=fun b=>by
  by_cases hc:γ.o b=i
  · exact .inr ⟨gZ b hc,hc⟩
  · exact .inl (bg b hc)
 have kp:fA (fun i=>i<σ.nx) (fun i=>i<σ.nx) γ w ⟨o',γ.g,γ.v⟩ w:=⟨fun _ h=>h,fun _ _=>rfl,fun _ _=>rfl,fun b _ hc=>⟨bg b (by omega),rfl⟩⟩
 have UM:∀j,i≠j→aqH i j=false:=fun j ed=>by
  cases hb:aqH i j with
  |true=>exact(ed (aqK hb)).elim
  |false=>rfl
 refine⟨⟨o',γ.g,γ.v⟩,⟨hk.sr.cj kp,⟨fun j x hx=> ?_,fun b hb=> ?_,hk.ob.ro⟩,hk.bR⟩,⟨⟨rfl,rfl,rfl,aqM _,fun b _ hc=>⟨bg b (by omega),rfl⟩,fun b hb hc=>⟨hb, ?_⟩⟩,fun _ _=>rfl⟩,⟨fun _ _=>rfl,rfl,fun j hj=> ?_,aqM _⟩⟩
 · by_cases ed:i=j
   · subst ed
     have e:cw ((i,some (AO.fz n xs (1::K)))::σ.ob) i=some (.fz n xs (1::K)):=by simp[cw,au]
     rw[e] at hx
     cases hx
     refine⟨hi,hU, ?_,fun x hx=> ?_⟩
     · show cq (In o' (1::K)) w (γ.g i) ⟨.sl n,xs⟩
       refine cq.weaken (fun b hb=> ?_) h2
       unfold In at hb⊢
       rcases aqR.1 hb with hb|hb
       · rw[gZ b hb];exact List.mem_cons_self ..
       · rw[bg b (fun e=>by have:=h3 _ hb;omega)]
         exact aq7 _ hb
     · rcases aqR.1 hx with rfl|hx
       · omega
       · exact h3 x hx
   · have e:cw ((i,some (AO.fz n xs (1::K)))::σ.ob) j=cw σ.ob j:=by simp[cw,au,UM j ed]
     rw[e] at hx
     obtain⟨k1,k2,k3⟩:=hk.ob.ob j x hx
     exact⟨k1,k2,k3.cj kp k2 fun b _ hb=>⟨bg b (by rw[hb];exact fun e=>ed e.symm),rfl⟩⟩
 · show o' b<σ.nx
   rcases uS b with e|⟨e,_⟩
   · rw[e];exact hk.ob.cl b hb
   · rw[e];have:=hk.bR;omega
 · rcases uS b with e|⟨e,_⟩
   · exact e.symm
   · have hc:o' b=0∨o' b=3:=hc
     omega
 · have bg:i≠j:=fun e=>kz hl (e▸hj)
   simp[au,UM j bg]
theorem l_{w:World}{L:List (Nat×Value)}:∀{b:List Nat} {σ bc:S D} {γ:Gh D},lz σ b=some bc→Kn σ γ w L→∃aX,Kn bc aX w L∧Frame γ w aX w∧bB [] σ bc
 |[],σ,bc,γ,h,hk=>by
  cases h
  exact⟨γ,hk,Frame.refl _ _,bB.refl _ _⟩
 |i::r,σ,bc,γ,h,hk=>by
  simp only[lz] at h
  split at h
  case h_2=>cases h
  rename_i o ho
  split at h
  case h_2=>cases h
  rename_i n xs K hd
  split at h
  case isTrue=>cases h
  rename_i hl
  obtain⟨aF,k1,k2,k3⟩:=ajR hk ho hd (by simpa using hl)
  obtain⟨aX,j1,j2,j3⟩:=l_ h k1
  exact⟨aX,j1,k2.trans j2,k3.trans j3⟩
theorem ma{l:List Nat}{σ:S D}{ρ:Type}{k:S D→Option ρ}{r:ρ}(h:lu l σ k=some r):∃aI,lz σ l=some aI∧k aI=some r:=by
 unfold lu at h
 split at h
 case h_2=>cases h
 exact⟨_,by assumption,h⟩
theorem bB.lz{wr:List Nat}{σ aI:S D}(h:bB [] σ aI):bB wr σ aI:=h.mono fun t ht=>by cases ht
section
variable (hP:dh P T) (hR:bQ T) (cE:∀c∈Φ,ff P T c)
include hP hR cE
theorem ak9 [I:Rd]{ops:List Oper}:∀(sg:Sg) {ρ:Type} {l:List Oper} {p:Nat} {σ:S D} {k:S D→Option ρ} {r:ρ} {γ:Gh D} {w:World} {L:List (Nat×Value)} {Qx:Exit→Act→World→Prop},qa T Φ ops sg l p σ k=some r→(∀t∈dstsOf l,I.ft n t=true)→Kn σ γ w L→
  (∀aI γ' w' L',Kn aI γ' w' L'→Frame γ w γ' w'→bB (dstsOf l) σ aI→k aI=some r→NK n (Qx .normal) L' w')→WL P n ops.toArray Qx l L w:=by
 intro sg
 induction sg with
 |nil=>
  intro ρ l p σ k r γ w L Qx h hd hk hc
  simp only[qa] at h
  exact sV hP hR cE h hd hk fun aI _ γ' w' L' h1 h2 h3 h4=>hc aI γ' w' L' h1 h2 h3 h4
 |rF s b next LN=>
  intro ρ l p σ k r γ w L Qx h hd hk hc
  simp only[qa] at h
  have ld:l=l.take (s-p)++l.drop (s-p):=(arv _ _).symm
  generalize kb:l.take (s-p)=l1 at*
  generalize xT:l.drop (s-p)=l3 at*
  have qY:dstsOf l=dstsOf l1++dstsOf l3:=by rw[ld,NV]
  rw[qY] at hd hc
  rw[ld]
  refine WL.bq fun K1 fc=> ?_
  refine sV hP hR cE h (fun t ht=>hd t (aqP.2 (.inl ht))) hk fun σ1 _ aF w1 L1 k1 k2 k3 k4=> ?_
  refine fc _ _ ?_
  split at k4
  case h_2=>cases k4
  rename_i bc agK
  obtain⟨aX,m1,m2,m3⟩:=QX agK k1
  refine LN k4 (fun t ht=>hd t (aqP.2 (.inr ht))) m1 fun tJ tK w3 L3 n1 n2 n3 n4=> ?_
  refine hc tJ tK w3 L3 n1 ((k2.trans m2).trans n2) ?_ n4
  exact((k3.mono fun t ht=>aqP.2 (.inl ht)).trans (m3.mono fun t ht=>by cases ht)).trans (n3.mono fun t ht=>aqP.2 (.inr ht))
 |oj s m j inner next A_ LN=>
  intro ρ l p σ k r γ w L Qx h hd hk hc
  simp only[qa] at h
  have ld:l=l.take (s-p)++((l.drop (s-p)).take m++l.drop (s-p+m)):=by
   rw[←List.drop_drop,arv,arv]
  generalize kb:l.take (s-p)=l1 at*
  generalize ln:(l.drop (s-p)).take m=l2 at*
  generalize xT:l.drop (s-p+m)=l3 at*
  have qY:dstsOf l=dstsOf l1++(dstsOf l2++dstsOf l3):=by rw[ld,NV,NV]
  rw[qY] at hd hc
  rw[ld]
  refine WL.bq fun K1 fc=> ?_
  refine sV hP hR cE h (fun t ht=>hd t (aqP.2 (.inl ht))) hk fun σ1 _ aF w1 L1 k1 k2 k3 k4=> ?_
  refine fc _ _ ?_
  refine WL.bq fun K2 fU=> ?_
  have oN:∀t∈dstsOf l2,I.ft n t=true:=fun t ht=>hd t (aqP.2 (.inr (aqP.2 (.inl ht))))
  have hd3:∀t∈dstsOf l3,I.ft n t=true:=fun t ht=>hd t (aqP.2 (.inr (aqP.2 (.inr ht))))
  refine t_ hR k4 k1 (X:=fun _ L1 w1=>NK n K2 L1 w1) ?_ ?_
  · intro eo aI k' r' hb bH hx
    have fin:∀{dN:S D},bB (dstsOf l2) aI dN→∀zn C9 zD Ix,Kn zn C9 zD Ix→Frame aF w1 C9 zD→bB (dstsOf l2) dN zn→k' .normal zn=some r'→NK n ((Exit.then K2 Qx) .normal) Ix zD:=
     fun mV zn C9 zD Ix m1 m2 m3 m4=>hx .normal zn C9 zD Ix m1 m2 (mV.trans m3) m4
    cases l2 with
    |nil=>cases hb
    |cons o l2=>
     dsimp only at hb
     split at hb
     · rename_i i b hg
       split at hb
       · rename_i d c K g pS
         obtain⟨_,_,_,hl⟩:=Nr pS
         have lZ:∀c',c=c'→bB (dstsOf (o::l2)) aI (iC aI d c' K g):=fun c' e=>by subst e;exact bB.iC _ hl
         have fE:∀c',c=c'→Kn (iC aI d c' K g) aF w1 L1:=fun c' e=>by subst e;exact bH.iC hl
         rcases Ce hb with⟨iW,hb⟩|⟨iW,hb⟩
         · cases b with
           |true=>exact A_ hb oN (fE _ iW) (fin (lZ _ iW))
           |false=>exact sV hP hR cE hb oN (fE _ iW) fun aI _=>fin (lZ _ iW) aI
         · cases b with
           |true=>exact sV hP hR cE hb oN (fE _ iW) fun aI _=>fin (lZ _ iW) aI
           |false=>exact A_ hb oN (fE _ iW) (fin (lZ _ iW))
       · exact sV hP hR cE hb oN bH fun aI _=>fin (bB.refl _ _) aI
     · exact A_ hb oN bH (fin (bB.refl _ _))
  · intro o bc aX w2 L2 m1 m2 m3 m4
    refine fU _ _ ?_
    refine LN m4 hd3 m1 fun tJ tK w3 L3 n1 n2 n3 n4=> ?_
    refine hc tJ tK w3 L3 n1 ((k2.trans m2).trans n2) ?_ n4
    exact((k3.mono fun t ht=>aqP.2 (.inl ht)).trans (m3.mono fun t ht=>aqP.2 (.inr (aqP.2 (.inl ht))))).trans (n3.mono fun t ht=>aqP.2 (.inr (aqP.2 (.inr ht))))
end
end
end Rx
end Go.Proofs.YtncbfgppjfcijaaGreat
