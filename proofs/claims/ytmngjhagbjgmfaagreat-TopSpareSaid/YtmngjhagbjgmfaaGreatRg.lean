import Derived.Test.YtmngjhagbjgmfaaGreatRe
set_option linter.all false
open Bool renaming and_eq_true->bt,true->ab
open Go renaming Operand->a_,TypeId->aY,Value->ah,World->ay
open List renaming all_eq_true->dU,getElem?_drop->wc,getElem?_eq_some_iff->gK,getElem?_take->ml,mem_append->bA,mem_cons->cu,mem_map->dE
open Nat renaming add_assoc->qX,beq->aU,eq_of_beq_eq_true->bB,le_of_ble_eq_true->dp,le_refl->bx,zero_add->kG
open Option renaming none->ak,some->aa
open Option.some renaming inj->jP,injEq->fE
open Prod.mk renaming injEq->wa
namespace Go.Proofs.YtmngjhagbjgmfaaGreat
open Go Go.RowKit Dp
namespace Rx
section
variable {D:Nat->Type} [∀n,ad (D n)]
variable {P:Program} {T:bc D} {Qx:Exit->Act->ay->Prop} {U:Nat->Prop} {ar:Nat} {γ:Gh D} {w:ay} {sl:List (Nat×AV D)} {L:List (Nat×ah)} {ob:List (Nat×Option (AO D))}
 {d:Option Tmp} {ty:aY} {pos:String} {af:Array Edge} {gd:Option (Nat×Bool)} {e:cY D} {l:List Nat}
def db.length:∀{cs:List (A1 D)} {us:List ah},db U γ w cs us->cs.length=us.length
 |[],[],_=>rfl
 |c::cs,u::us,h=>by simp[db.length h.2]
 |[],_::_,h=>h.elim
 |_::_,[],h=>h.elim
def db.take:∀{cs:List (A1 D)} {us:List ah},db U γ w cs us->∀k,db U γ w (cs.take k) (us.take k)
 |_,_,_,0=>by simp[db]
 |[],[],_,k+1=>trivial
 |c::cs,u::us,h,k+1=>⟨h.1,db.take h.2 k⟩
 |[],_::_,h,_=>h.elim
 |_::_,[],h,_=>h.elim
def db.drop:∀{cs:List (A1 D)} {us:List ah},db U γ w cs us->∀k,db U γ w (cs.drop k) (us.drop k)
 |_,_,h,0=>by simpa using h
 |[],[],_,k+1=>trivial
 |c::cs,u::us,h,k+1=>by simpa using db.drop h.2 k
 |[],_::_,h,_=>h.elim
 |_::_,[],h,_=>h.elim
def db.append:∀{cs:List (A1 D)} {us:List ah} {jd:List (A1 D)} {mS:List ah},db U γ w cs us->db U γ w jd mS->db U γ w (cs++jd) (us++mS)
 |[],[],_,_,_,h=>h
 |c::cs,u::us,_,_,h,h'=>⟨h.1,db.append h.2 h'⟩
 |[],_::_,_,_,h,_=>h.elim
 |_::_,[],_,_,h,_=>h.elim
def fT.one:∀{a:A1 D} {u:ah},fT U γ w a u->storable a=ab->u.oneCell'=ab
 | .v l d K t,u,h,_=>h.1.one
 | .ptr i off,u,⟨_,b,_,h⟩,_=>by subst h;rfl
 | .el ..,u,⟨_,_,_,_,b,f,len,cap,_,h⟩,_=>by subst h;rfl
 | .rp ..,u,⟨pa,h,_⟩,_=>by subst h;rfl
 | .vb n xs K t b,u,h,_=>dD.one (d:=⟨.sl n,xs⟩) h.1.1
 | .own i,u,⟨_,_,h⟩,_=>h
 | .fn f jf,u,⟨cs,h,_⟩,_=>by subst h;exact awm _ _
 | .ch ..,u,_,h=>by cases h
 | .yX ..,u,_,h=>by cases h
 | .tail ..,u,_,h=>by cases h
 | .pre ..,u,_,h=>by cases h
 | .uC ..,u,_,h=>by cases h
 | .bF,u,h,_=>by have h:u= .slice ak 0 0:=h;subst h;rfl
 | .sx,u,h,_=>by have h:u= .pointer ak:=h;subst h;rfl
 | .Dh,u,h,_=>by have h:u= .nilFunc:=h;subst h;rfl
 | .undef,u,_,h=>by cases h
 | .zD,u,_,h=>by cases h
 | .wP,u,h,_=>h
def db.Sl:∀{cs:List (A1 D)} {us:List ah},db U γ w cs us->cs.all storable=ab->∀u∈us,u.oneCell'=ab
 |[],[],_,_,u,hu=>by cases hu
 |c::cs,v::us,h,hs,u,hu=>by
  simp only[List.all_cons,bt]at hs;rcases cu.1 hu with rfl|hu
  ·exact h.1.one hs.1
  ·exact db.Sl h.2 hs.2 u hu
 |[],_::_,h,_,_,_=>h.elim
 |_::_,[],h,_,_,_=>h.elim
def NU{ty:kZ}{cs:List (A1 D)}{us:List ah}{off:Nat}{a:AV D}(h:db U γ w cs us)(hc:yT ty T cs off=aa a):off+ty.n T<=us.length∧gI U γ w a (pack ty.agg ((us.drop off).take (ty.n T))):=by
 unfold yT at hc;split at hc
 case isFalse=>cases hc
 rename_i hle;have ado:=dp hle;rw[h.length]at ado;refine⟨ado,?_⟩;have h2:=(h.drop off).take (ty.n T);unfold vh at hc;cases hg:ty.agg with
 |true=>simp only[hg,aI,fE]at hc;subst hc;exact⟨_,rfl,h2⟩
 |false=>
  simp only[hg,Bool.false_eq_true,aD]at hc;split at hc
  ·rename_i b hb;cases hc;rw[hb]at h2;generalize (us.drop off).take (ty.n T)=mS at h2;match mS,h2 with
   |[u],h2=>exact h2.1
  ·cases hc
def V3{cs:List ah}{b:Nat}{t:aY}(h:w.heap[b]? =aa (.cells cs.toArray t (0,0)))(off n:Nat):kb w ⟨b,off,ak⟩ ((cs.drop off).take n):=by
 intro j u hu;rw[ml]at hu;split at hu
 case isFalse=>cases hu
 rw[wc]at hu;have jX:(⟨b,off,ak⟩:Addr).add j=⟨b,off+j,ak⟩:=by unfold Addr.add;split<;>simp_all
 rw[jX,cell_of_row w b (off+j) cs.toArray t (0,0) h];simpa using hu
def kb.cut{pa:Addr}{cs:List ah}(h:kb w pa cs)(off n:Nat):kb w (pa.add off) ((cs.drop off).take n):=by
 intro j u hu;rw[ml]at hu;split at hu
 case isFalse=>cases hu
 rw[wc]at hu;rw[E5];exact h _ _ hu
def Ix{γ':Gh D}{K:List Nat}(hK:ek K):∀{ds:List (DV D)} {us:List ah} {g:Nat},cn (In γ'.o K) w us ds->(∀i x,ds[i]? =aa x->named U γ' (g+i) x)->db U γ' w (cellsD K g ds) us
 |[],[],g,_,_=>trivial
 |⟨lf,x⟩::ds,u::us,g,h,hn=>by
  refine⟨⟨?_,hn 0 _ rfl,?_⟩,Ix hK h.2 λi x hi=>?_⟩
  ·cases lf with
   |sl n=>exact h.1
   |int k=>exact h.1
   |bool=>exact h.1
   |str=>exact h.1
  ·cases lf with
   |sl n=>exact hK
   |int k=>exact lr
   |bool=>exact lr
   |str=>exact lr
  ·have:=hn (i+1) x (by simpa using hi);rwa[show g+(i+1)=g+1+i from by omega]at this
 |[],_::_,_,h,_=>h.elim
 |_::_,[],_,h,_=>h.elim
def fD.at{n:Nat}{S:Nat->Prop}{v:ah}{xs:List (D n)}{y:D n}{j:Int}{b f len cap:Nat}(h:fD S w v xs)(hv:v= .slice (aa ⟨b,f,ak⟩) len cap)(hj:idx xs j=aa y):
  ∃cs,ad.rd S w cs y∧kb w ⟨b,f+j.toNat*ad.sz (D n),ak⟩ cs:=by
 obtain⟨p,yZ,rfl,h⟩:=h
 unfold idx at hj
 split at hj
 case isFalse=>cases hj
 rcases h with h|⟨a,aK,rfl,h1,h2⟩
 ·subst h;simp at hj
 ·have ha:a=⟨b,f,ak⟩:=by
   have:=iq (λv=>match v with|Value.slice (aa a) _ _=>a|_=>(⟨0,0,ak⟩:Addr)) hv;simpa using this
  subst ha;obtain⟨c,ij,kq⟩:=h1.get hj;refine⟨c,kq,λm u hu=>?_⟩;have:=h2 _ _ (Nn h1.pd ij hu);rw[jL,qX,<-jL];exact this
def Lt{b b' o o':Nat}(h:fP b o=fP b' o'):b=b'∧o=o':=by unfold fP at h;cases h;exact⟨rfl,rfl⟩
def yL(f:Nat->ah)(i:Nat)(v:ah):Nat->ah:=λj=>if j=i then v else f j
def CA(f:Nat->DV D)(i:Nat)(v:DV D):Nat->DV D:=λj=>if j=i then v else f j
def arp [Rd](hP:dS P T)(hR:cF T)(hx:Cx U ar γ w sl L ob){t:aY}{ee:kZ}{x:a_}{i n n' t' tc q off b len cap g' h0:Nat}{j:Int}{xs:List (D n')}(ht:aF T.ty t=aa ee)(hv:ev L x=aa (fP b (j.toNat*ad.sz (D n)+off)))
  (hU:U i) (hg:γ.g i= .slice (aa ⟨b,0,ak⟩) len cap) (ho:dw ob i=aa (.cZ n' t' tc q xs g' h0))
  (h:Q.R ob (if aU n n'&&LH ee then .part (idx xs j) λy=>match(T.out n' y)[off]? with
     |some x=>SS i n' j off t' tc q xs g' h0 (ar+16) x
     |none=> .fail
    else .fail) l e):
  OW P Qx L ⟨d,.load t x,ty,pos,af,gd⟩ w (λv w'=>∃γ',dR U ar γ w ob e γ' v w'):=by
 have hT:=(hP.ty t ee ht).1
 have hz:=PY T ee
 have gT:=FE T ee
 split at h
 case isFalse=>exact h.elim
 rename_i hc
 simp only[bt]at hc
 have hn:=bB hc.1
 subst hn
 obtain⟨y,hy,h⟩:=h
 dsimp only at h
 split at h
 case h_2=>exact h.elim
 rename_i lx hlx
 obtain⟨fB,_,h1,h2,h3⟩:=hx.ob.ob i _ ho
 obtain⟨cs,k1,k2⟩:=fD.at h1.ow.dh hg hy
 rw[kG]at k2
 rw[hR.rd]at k1
 obtain⟨u,k3,k4⟩:=cn.at k1 hlx
 have aV:=(gK.1 k3).1
 have mE:ee.n T=1∧ee.agg=false:=by
  cases ee with
  |one l=>exact⟨rfl,rfl⟩
  |_=>cases hc.2
 have MZ:kb w ⟨b,j.toNat*ad.sz (D n)+off,ak⟩ [u]:=by
  have:=kb.cut k2 off 1;have jX:(⟨b,j.toNat*ad.sz (D n),ak⟩:Addr).add off=⟨b,j.toNat*ad.sz (D n)+off,ak⟩:=by unfold Addr.add;split<;>simp_all
  rw[jX]at this;have e1:(cs.drop off).take 1=[u]:=by rw[List.drop_eq_getElem_cons aV];simp only[List.take_succ_cons,List.take_zero];rw[List.getElem?_eq_getElem aV]at k3;rw[jP k3]
  rwa[e1]at this
 have um:w.cell? ⟨b,j.toNat*ad.sz (D n)+off,ak⟩=aa u:=by have:=MZ 0 u rfl;rwa[add_zero']at this
 obtain⟨aW,c1,c2⟩:=Uu h1 hg
 have Uz:aW[j.toNat*ad.sz (D n)+off]? =aa u:=by rw[cell_of_row w b _ aW t' (0,0) c2]at um;exact um
 have Hw:OW P Qx L ⟨d,.load t x,ty,pos,af,gd⟩ w (λv' w'=>v'=u∧w'=w):=by have:=OW.Mh (P:=P) (Qx:=Qx) (L:=L) (w:=w) (d:=d) (ty:=ty) (pos:=pos) (af:=af) (g:=gd) hT hz hv MZ (by rw[gT,mE.1];rfl);refine OW.mono this ?_;rintro v' w' ⟨rfl,rfl⟩;rw[mE.2];exact⟨rfl,rfl⟩
 obtain⟨lf,dd⟩:=lx
 cases lf with
 |int k=>
  obtain⟨_,rfl⟩:=h
  exact dm Hw (eo hx k4)
 |bool=>
  obtain⟨_,rfl⟩:=h
  exact dm Hw (eo hx k4)
 |str=>
  obtain⟨_,rfl⟩:=h
  exact dm Hw (eo hx k4)
 |sl m=>
  dsimp only[SS]at h
  split at h
  case isFalse=>exact h.elim
  rename_i T3
  have T3:=bB T3
  subst T3
  have sF:∀(S:Nat->Prop) (w:ay) (cs:List ah),ad.rd S w cs y->∃u,cs[off]? =aa u∧Rv S w u (dd:List (D m)):=λS w cs hr=>by rw[hR.rd]at hr;exact cn.at hr hlx
  have m9:∃p c,u= .slice p (dd:List (D m)).length c:=by obtain⟨p,c,e1,_⟩:=u0 (k4:Rv _ w u (dd:List (D m)));exact⟨p,c,e1⟩
  split at h
  ·rename_i A';have A':=bB A';obtain⟨_,rfl⟩:=h;refine OW.mono Hw ?_;rintro v' w' ⟨rfl,rfl⟩;have hf:¬U (ar+17):=hx.fresh _ (by omega) (by omega);have MU:∀k,U k->yL γ.g (ar+17) (.agg aW) k=γ.g k:=λk hk=>by have bR:k≠ar+17:=λe=>hf (by rw[<-e];exact hk);unfold yL;rw[aL bR]
   have hv':∀k,U k->CA γ.v (ar+17) ⟨.sl n,xs⟩ k=γ.v k:=λk hk=>by have bR:k≠ar+17:=λe=>hf (by rw[<-e];exact hk);unfold CA;rw[aL bR]
   have e1:yL γ.g (ar+17) (.agg aW) (ar+17)= .agg aW:=by simp[yL]
   have e2:CA γ.v (ar+17) (⟨.sl n,xs⟩:DV D) (ar+17)=⟨.sl n,xs⟩:=by simp[CA]
   have D3:jw U ar (ar+17):= .inr ⟨by omega,by omega⟩;refine⟨_,mkPost (M:=[]) (N:=[]) (ps:=[]) (g':=yL γ.g (ar+17) (.agg aW)) (v':=CA γ.v (ar+17) ⟨.sl n,xs⟩) hx.ob (bP.refl _ _ _ _) (by simp) (by simp) (by simp) hx.cJ MU hv' ⟨.inl hU,⟨by omega,D3⟩,⟨xs,y,e2,hy,sF⟩,⟨b,len,cap,aW,by rw[<-hg];exact MU i hU,e1,Uz⟩,m9⟩ ?_⟩;intro k z hk ko;obtain⟨rfl,oD⟩:=nF hk;cases oD;refine⟨fB,.inl hU,?_,?_,.inr ⟨D3,e2,aW,e1,λb' n' c' p e=>?_⟩⟩
   ·show j9 _ _ _ (lA γ.o i (yL γ.g (ar+17) (.agg aW) i)) 0 1 w' (yL γ.g (ar+17) (.agg aW) i) xs;rw[MU i hU];exact h1
   ·rcases h2 with h2|⟨h2,h4⟩
    ·exact .inl h2
    ·exact .inr ⟨.inl h2,by show CA γ.v (ar+17) _ g'=_;rw[hv' g' h2];exact h4⟩
   ·have e:yL γ.g (ar+17) (.agg aW) i= .slice (aa ⟨b',0,ak⟩) n' c':=e;rw[MU i hU,hg]at e;cases e;exact cell_of_row w' b p aW t' (0,0) c2
  ·rename_i A';have A':h0≠0:=λe=>A' (by rw[e];rfl);obtain⟨_,rfl⟩:=h;rcases h3 with h3|⟨h3,h4,cells,h5,h6⟩
   ·exact(A' h3).elim
   refine dm Hw (pj hx ⟨hU,⟨A',h3⟩,⟨xs,y,h4,hy,sF⟩,⟨b,len,cap,cells,hg,h5,?_⟩,m9⟩);rw[<-h6 b len cap _ hg];exact um
def arn [Rd](hP:dS P T)(hR:cF T)(hx:Cx U ar γ w sl L ob){t:aY}{ee:kZ}{x:a_}{vp:ah}{p:A1 D}(ht:aF T.ty t=aa ee)(hv:ev L x=aa vp)(hp:fT U γ w p vp)(h:Q.R ob (SQ T (ar+16) ee p) l e):
  OW P Qx L ⟨d,.load t x,ty,pos,af,gd⟩ w (λv w'=>∃γ',dR U ar γ w ob e γ' v w'):=by
 have hT:=(hP.ty t ee ht).1
 have hz:=PY T ee
 have gT:=FE T ee
 cases p with
 |ptr i off=>
  obtain⟨hU,b,hg,rfl⟩:=hp
  obtain⟨ao,l',ho,rfl,h⟩:=h
  cases ao with
  |sl=>exact h.elim
  |cZ=>exact h.elim
  |iu=>exact h.elim
  |fz=>exact h.elim
  |mp=>exact h.elim
  |box cs=>
   dsimp only at h
   split at h
   case h_2=>exact h.elim
   rename_i a ha
   obtain⟨_,rfl⟩:=h
   obtain⟨_,_,b',us,t',h1,h2,h3,h4,h5⟩:=hx.ob.ob i _ ho
   rw[hg]at h1
   obtain⟨rfl,_⟩:=Lt h1
   obtain⟨h6,h7⟩:=NU h4 ha
   refine dm (OW.Mh hT hz hv (V3 h3 off (ee.n T)) ?_) (pj hx h7)
   rw[gT]
   simp
   omega
 |rp n y off K=>
  obtain⟨pa,rfl,⟨cs,h1,h2,h3⟩,hK⟩:=hp
  dsimp only[SQ]at h
  split at h
  case h_2=>exact h.elim
  rename_i a ha
  obtain⟨_,rfl⟩:=h
  have h4:=(hR.rd n _ _ _ _).1 h1
  have T9:(T.out n y).length<=112:=by rw[LC];exact hR.uv n
  have h5:db (jw U ar) ⟨γ.o,γ.g,gh γ.v (ar+16) (T.out n y)⟩ w (cellsD K (ar+16) (T.out n y)) cs:=
   Ix hK h4 λi x hi=>mx rfl (by have:=(gK.1 hi).1;omega) hi
  obtain⟨h6,h7⟩:=NU h5 ha
  refine dm (OW.Mh hT hz hv (kb.cut h3 off (ee.n T)) ?_) (Ac hx _ T9 h7)
  rw[gT]
  simp
  omega
 |el i n j y off tc tj=>
  obtain⟨hU,hUc,⟨oh,pz,wU⟩,TD,b,f,len,cap,hg,rfl⟩:=hp
  obtain⟨ao,l',ho,rfl,h⟩:=h
  cases ao with
  |box=>exact h.elim
  |iu=>exact h.elim
  |fz=>exact h.elim
  |mp=>exact h.elim
  |cZ n' t' xH q xs g' h0=>
   obtain rfl:=j9.f0 (hx.ob.ob i _ ho).2.2.1 hg
   rw[kG]at hv
   exact arp hP hR hx ht hv hU hg ho h
  |sl n' t' xs K g'=>
   dsimp only at h
   obtain⟨_,_,h1,h2,h3⟩:=hx.ob.ob i _ ho
   have auA:=h1.dh
   have key:∀{y':D n'} {a:AV D},ad.sz (D n)=ad.sz (D n')->idx xs j=aa y'->yT ee T (cellsD K (ar+16) (T.out n' y')) off=aa a->e=⟨a,[],[]⟩->
     OW P Qx L ⟨d,.load t x,ty,pos,af,gd⟩ w (λv w'=>∃γ',dR U ar γ w ob e γ' v w'):=by
    rintro y' a eM gF ha rfl
    obtain⟨cs,h4,h5⟩:=fD.at auA hg gF
    have h6:=(hR.rd n' _ _ _ _).1 h4
    have T9:(T.out n' y').length<=112:=by rw[LC];exact hR.uv n'
    have h7:db (jw U ar) ⟨γ.o,γ.g,gh γ.v (ar+16) (T.out n' y')⟩ w (cellsD K (ar+16) (T.out n' y')) cs:=
     Ix h2 h6 λi x hi=>mx rfl (by have:=(gK.1 hi).1;omega) hi
    obtain⟨h8,h9⟩:=NU h7 ha
    have hc:=kb.cut h5 off (ee.n T)
    have jX:(⟨b,f+j.toNat*ad.sz (D n'),ak⟩:Addr).add off=⟨b,f+(j.toNat*ad.sz (D n)+off),ak⟩:=by rw[eM,jL,qX]
    rw[jX]at hc
    refine dm (OW.Mh hT hz hv hc ?_) (Ac hx _ T9 h9)
    rw[gT]
    simp
    omega
   split at h
   ·rename_i Uj;have Uj:=bB Uj;subst Uj;split at h
    case h_2=>exact h.elim
    rename_i a ha;obtain⟨_,rfl⟩:=h;rcases h3 with h3|⟨_,h3⟩
    ·exact(hUc.1 h3).elim
    ·rw[pz]at h3;cases h3;exact key rfl wU ha rfl
   ·split at h
    ·rename_i hn;have hn:=bB hn;subst hn;obtain⟨y',gF,h⟩:=h;dsimp only at h;split at h
     case h_2=>exact h.elim
     rename_i a ha;obtain⟨_,rfl⟩:=h;exact key rfl gF ha rfl
    ·exact h.elim
 |_=>exact h.elim
def Ow.tO{n:Nat}{t:aY}{o o':cB}{k k':Nat}{K K':List Nat}{v:ah}{xs:List (D n)}(hk:∀b,o b=k->o' b=k')(hK:∀b,In o K b->In o' K' b)(h:Ow t o k K w v xs):Ow t o' k' K' w v xs:=by
 rcases h with h|⟨g,f,cap,aW,aK,e1,e2,e3,e4,e5,e6,e7,e8⟩
 ·exact .inl h
 ·exact .inr ⟨g,f,cap,aW,aK,e1,hk _ e2,e3,e4,e5,e6,e7.mono λ_ _=>ad.mono λb hb _=>⟨hK b hb,rfl⟩,e8⟩
def nR(fz:List Nat):List (Nat×Nat):=fz.map λi=>(i,1)
def GG{fz:List Nat}{x:Nat}:(x∈fz->rel (nR fz) x=1)∧(x∉fz->rel (nR fz) x=x):=by
 unfold rel;constructor
 ·intro h;split
  ·rename_i y hy;have:=dO hy;simp only[nR,dE]at this;obtain⟨_,_,h2⟩:=this;cases h2;rfl
  ·rename_i hn;exact(yi hn 1 (by simp only[nR,dE];exact⟨x,h,rfl⟩)).elim
 ·intro h;split
  ·rename_i y hy;have:=dO hy;simp only[nR,dE]at this;obtain⟨z,hz,h2⟩:=this;cases h2;exact(h hz).elim
  ·rfl
def dD.weaken{S S':Nat->Prop}{v:ah}{x:DV D}(hm:∀b,S b->S' b)(h:dD S w v x):dD S' w v x:=h.mono λb hb _=>⟨hm b hb,rfl⟩
def cn.weaken{S S':Nat->Prop}{vs:List ah}{xs:List (DV D)}(hm:∀b,S b->S' b)(h:cn S w vs xs):cn S' w vs xs:=h.mono λb hb _=>⟨hm b hb,rfl⟩
def Xf{j:Nat}{ao:AO D}{d:DV D}{K:List Nat}(h:OR U γ w j ao)(e:BN ao=aa (d,K)):dD (In γ.o (j::K)) w (γ.g j) d∧ek K:=by
 cases ao with
 |sl n t xs K' g=>simp only[BN,fE,wa]at e;obtain⟨rfl,rfl⟩:=e;exact⟨h.1.rv,h.2.1⟩
 |cZ n t tc q xs g ht=>
  simp only[BN,fE,wa]at e;obtain⟨rfl,rfl⟩:=e;refine⟨Rv.weaken (λb hb=>?_) h.1.rv,lr⟩;unfold In at hb⊢;simp only[cu,List.not_mem_nil,kE]at hb⊢;rcases hb with hb|hb
  ·exact(Du hb).1
  ·exact(Dt hb).1
 |box=>cases e
 |iu=>cases e
 |fz=>cases e
 |mp=>cases e
def ajz{j:Nat}{ao:AO D}{d:DV D}{K:List Nat}(h:OR U γ w j ao)(e:O4 ao=aa (d,K)):dD (In γ.o K) w (γ.g j) d∧ek K:=by
 cases ao with
 |fz n xs K'=>simp only[O4,fE,wa]at e;obtain⟨rfl,rfl⟩:=e;exact h
 |_=>cases e
def C_(bH:OB U γ w ob):∀{as:List (A1 D)} {ls:List Lf} {us:List ah} {l:List Nat} {r:List (DV D)×List Nat×List Nat},Q.R ob (u9 ls as) l r->db U γ w as us->
  cn (In γ.o (r.2.2++r.2.1)) w us r.1∧ek r.2.1∧(∀i∈r.2.2,1000<=i∧U i)∧(r.2.2≠[]->1∈r.2.1)
 |[],ls,us,l,r,h,hv=>by
  simp only[u9]at h;obtain⟨_,rfl⟩:=h;cases us with
  |nil=>exact⟨trivial,lr,by simp,λh=>(h rfl).elim⟩
  |cons _ _=>exact hv.elim
 |a::as,ls,us,l,r,h,hv=>by
  cases us with
  |nil=>exact hv.elim
  |cons u us=>
  cases ls with
  |nil=>simp only[u9]at h;exact h.elim
  |cons lf ls=>
   simp only[u9]at h;cases a with
   |v l' x K g=>
    obtain⟨l1,l2,r',_,h1,h2⟩:=Q.fW h;obtain⟨_,rfl⟩:=h2;obtain⟨i1,i2,i3,i4⟩:=C_ bH h1 hv.2;obtain⟨j1,_,j3⟩:=hv.1;refine⟨⟨j1.weaken λb hb=>?_,i1.weaken λb hb=>?_⟩,?_,i3,λh=>?_⟩
    ·simp only[In,bA]at hb⊢;exact .inr (.inl hb)
    ·simp only[In,bA]at hb⊢;rcases hb with hb|hb;exact .inl hb;exact .inr (.inr hb)
    ·intro x hx;rcases bA.1 hx with hx|hx;exact j3 x hx;exact i2 x hx
    ·exact bA.2 (.inr (i4 h))
   |bF=>
    dsimp only at h;split at h
    ·rename_i n;obtain⟨l1,l2,r',_,h1,h2⟩:=Q.fW h;obtain⟨_,rfl⟩:=h2;obtain⟨i1,i2,i3,i4⟩:=C_ bH h1 hv.2;have hu:u= .slice ak 0 0:=hv.1;subst hu;exact⟨⟨C1 _ _,i1⟩,i2,i3,i4⟩
    ·exact h.elim
   |own j=>
    obtain⟨ao,l',ho,rfl,h⟩:=h;dsimp only at h;split at h
    ·rename_i dv K Ba;obtain⟨l1,l2,r',_,h1,h2⟩:=Q.fW h;obtain⟨_,rfl⟩:=h2;obtain⟨i1,i2,i3,i4⟩:=C_ bH h1 hv.2;obtain⟨_,_,k0⟩:=bH.ob j _ ho;obtain⟨j1,j3⟩:=ajz k0 Ba;obtain⟨_,rfl,_⟩:=hv.1;refine⟨⟨j1.weaken λb hb=>?_,i1.weaken λb hb=>?_⟩,?_,i3,λh=>?_⟩
     ·simp only[In,bA]at hb⊢;exact .inr (.inl hb)
     ·simp only[In,bA]at hb⊢;rcases hb with hb|hb;exact .inl hb;exact .inr (.inr hb)
     ·intro x hx;rcases bA.1 hx with hx|hx;exact j3 x hx;exact i2 x hx
     ·exact bA.2 (.inr (i4 h))
    split at h
    case h_2=>exact h.elim
    rename_i dv K Ba;obtain⟨l1,l2,r',_,h1,h2⟩:=Q.fW h;obtain⟨_,rfl⟩:=h2;obtain⟨i1,i2,i3,i4⟩:=C_ bH h1 hv.2;obtain⟨k1,k2,k0⟩:=bH.ob j _ ho;obtain⟨k3,k4⟩:=Xf k0 Ba;obtain⟨_,rfl,_⟩:=hv.1;refine⟨⟨?_,i1.weaken λb hb=>?_⟩,?_,?_,λ_=>by simp⟩
    ·refine dD.weaken (λb hb=>?_) k3;unfold In at hb⊢;rcases cu.1 hb with hb|hb<;>simp[hb]
    ·unfold In at hb⊢;rcases bA.1 hb with hb|hb<;>simp[hb]
    ·intro x hx;simp only[List.cons_append,cu,bA]at hx;rcases hx with rfl|hx|hx
     ·omega
     ·exact k4 x hx
     ·exact i2 x hx
    ·intro i hi;simp only[cu]at hi;rcases hi with rfl|hi
     ·exact⟨k1,k2⟩
     ·exact i3 i hi
   |_=>exact h.elim
def U5{fz K:List Nat}{o:cB}(hK:ek K)(h1:fz≠[]->1∈K)(hf:∀i∈fz,1000<=i):∀b,In o (fz++K) b->In (λb=>rel (nR fz) (o b)) K b:=by
 intro b hb;simp only[In,bA]at hb⊢;by_cases h:o b∈fz
 ·rw[GG.1 h];exact h1 (List.ne_nil_of_mem h)
 ·rw[GG.2 h];exact hb.resolve_left h
def db.ZV{cs mS:List (A1 D)}{us vs:List ah}{off:Nat}{jd:List (A1 D)}(h:db U γ w cs us)(h':db U γ w mS vs)(hc:CF cs mS off=aa jd):
  off+vs.length<=us.length∧mS.all storable=ab∧jd=cs.take off++mS++cs.drop (off+mS.length)∧db U γ w jd (us.take off++vs++us.drop (off+vs.length)):=by
 unfold CF at hc
 split at hc
 case isFalse=>cases hc
 rename_i hb
 simp only[bt]at hb
 have hle:=dp hb.1
 cases hc
 rw[h.length,h'.length]at hle
 refine⟨hle,hb.2,rfl,?_⟩
 rw[h'.length]
 exact((h.take off).append h').append (h.drop _)
def aCv{cs mS:List (A1 D)}{off:Nat}(h:cs.all storable=ab)(h':mS.all storable=ab)(k:Nat):(cs.take off++mS++cs.drop k).all storable=ab:=by
 simp only[List.all_append,bt];refine⟨⟨?_,h'⟩,?_⟩
 ·exact dU.2 λx hx=>dU.1 h x (List.mem_of_mem_take hx)
 ·exact dU.2 λx hx=>dU.1 h x (List.mem_of_mem_drop hx)
def V4{a:AV D}{us:List (A1 D)}{v:ah}(h:cellsOf a=aa us)(hv:gI U γ w a v):∃vs,db U γ w us vs∧((∃u,vs=[u]∧v=u∧∃b,a= .c (.one b))∨v= .agg vs.toArray∧∃b,a= .c (.agg b)):=by
 unfold cellsOf at h;split at h
 ·cases h;exact⟨[v],⟨hv,trivial⟩,.inl ⟨v,rfl,rfl,_,rfl⟩⟩
 ·cases h;obtain⟨vs,rfl,h2⟩:=hv;exact⟨vs,h2,.inr ⟨rfl,_,rfl⟩⟩
 ·cases h
def V2{a:AV D}{us:List (A1 D)}{v:ah}(h:cellsOf a=aa us)(hv:gI U γ w a v)(hs:us.all storable=ab):∃vs,db U γ w us vs∧v.cells=vs.toArray∧∀u∈vs,u.oneCell'=ab:=by
 obtain⟨vs,h1,h2⟩:=V4 h hv;refine⟨vs,h1,?_,h1.Sl hs⟩;rcases h2 with⟨u,rfl,rfl,_⟩|⟨rfl,_⟩
 ·exact N7 (h1.Sl hs v (by simp))
 ·rfl
end
end Rx
end Go.Proofs.YtmngjhagbjgmfaaGreat
namespace Go.Proofs.YtmngjhagbjgmfaaGreat
open Go Go.RowKit Dp
namespace Rx
section
variable {D:Nat->Type} [∀n,ad (D n)]
variable {P:Program} {T:bc D} {Qx:Exit->Act->ay->Prop} {U:Nat->Prop} {ar:Nat} {γ:Gh D} {w:ay} {sl:List (Nat×AV D)} {L:List (Nat×ah)} {ob:List (Nat×Option (AO D))}
 {d:Option Tmp} {ty:aY} {pos:String} {af:Array Edge} {gd:Option (Nat×Bool)} {e:cY D} {l:List Nat}
def ew:∀{l:List Nat} {x:Nat},bN l x=ab↔x∈l
 |[],x=>by simp[bN]
 |y::r,x=>by
  simp only[bN,cu];cases hb:aU y x with
  |true=>have:=bB hb;simp[this]
  |false=>
   have bR:¬x=y:=λe=>by subst e;simp at hb
   simp only[rZ,bR,false_or];exact ew
def pu{l:List Nat}{x:Nat}(h:bN l x=false):x∉l:=λhm=>by rw[ew.2 hm]at h;cases h
def Ev{K M:List Nat}(h:∀x∈K,x∉M):ni K M=ab:=by
 unfold ni;rw[dU];intro x hx;rw[dU];intro y hy;have bR:x≠y:=λe=>h x hx (e▸hy);cases hb:aU x y with
 |true=>exact(bR (bB hb)).elim
 |false=>rfl
def anJ [Rd](hP:dS P T)(hR:cF T)(hx:Cx U ar γ w sl L ob){t:aY}{ee:kZ}{x u:a_}{va:ah}{a:AV D}{i n n' t' tc q off vi b len cap s gx:Nat}{j j':Int}{xs:List (D n')}(ht:aF T.ty t=aa ee)(hv:ev L x=aa (fP b (j.toNat*ad.sz (D n)+off)))
  (hU:U i) (hg:γ.g i= .slice (aa ⟨b,0,ak⟩) len cap) (hu:ev L u=aa va) (e_:gI U γ w a va) (ho:dw ob i=aa (.iu n' t' tc q xs j' vi s gx))
  (h:Q.R ob (match a with
    | .c (.one (.yX i' s'))=>if aU i i'&&aU s s'&&aU n n'&&aU off vi&&LH ee then .part (yN j j') λ_=> .ret ⟨.c (.one .undef),[(i,aa (.cZ n' t' tc q xs gx 0))],[]⟩else .fail
    |_=> .fail) l e):
  OW P Qx L ⟨d,.store t x u,ty,pos,af,gd⟩ w (λv w'=>∃γ',dR U ar γ w ob e γ' v w'):=by
 have hT:=(hP.ty t ee ht).1
 have gT:=FE T ee
 split at h
 case h_2=>cases h
 rename_i i' s'
 split at h
 case isFalse=>cases h
 rename_i hc
 simp only[bt]at hc
 obtain⟨⟨⟨⟨c1,c2⟩,c3⟩,c4⟩,c5⟩:=hc
 have c1:=bB c1
 have c2:=bB c2
 have c3:=bB c3
 have c4:=bB c4
 subst c1 c2 c3 c4
 obtain⟨y,hy,h⟩:=h
 have hjj:j=j':=by
  unfold yN at hy;split at hy
  ·assumption
  ·cases hy
 subst hjj
 obtain⟨_,rfl⟩:=h
 have mE:ee.n T=1:=by
  cases ee with
  |one l=>rfl
  |_=>cases c5
 obtain⟨fB,_,h1,h2,b',aC4,yZ,h3,h4⟩:=hx.ob.ob i _ ho
 rw[hg]at h3
 cases h3
 obtain⟨_,_,e_,h1c⟩:=(e_:U i∧U s∧va=γ.g s∧va.oneCell'=ab)
 subst e_
 obtain⟨gg,p,aW,e1,e2,e3,e4,e5,e6⟩:=h4
 cases e1
 have bV:=run_storeCells_at P b (j.toNat*ad.sz (D n)+off) t' [γ.g s] 0 aW w e3 (by simp;omega) (by intro u hu;simp at hu;subst hu;exact e4)
 have hb:=(Du e2).1
 have b7:bP [i] [] γ.o w γ.o (w.setRow b (ss aW (j.toNat*ad.sz (D n)+off) (γ.g s))):=bP.row _ hb
 have c_:=N7 e4
 refine OW.KW λa ha=>⟨w.setRow b (ss aW (j.toNat*ad.sz (D n)+off) (γ.g s)),?_,?_⟩
 ·have as7:(storeCells ⟨b,j.toNat*ad.sz (D n)+off,ak⟩ [γ.g s]).run P w= .ok () (w.setRow b (ss aW (j.toNat*ad.sz (D n)+off) (γ.g s))):=bV;have eM:(γ.g s).cells.size=1:=by rw[c_];rfl
  simp only[fP]at hv;simp[execOp,ha _ _ hv,ha _ _ hu,Instr.storeAt,Instr.sureAddr,storeVar,hT.sizeOf,eM,gT,mE,c_,as7]
 refine⟨_,mkPost (M:=[i]) (N:=[]) (ps:=[]) (g':=γ.g) (v':=γ.v) hx.ob b7 (by simp[fB,hU,cY.wr]) (by simp) (by simp) hx.cJ (λ_ _=>rfl) (λ_ _=>rfl) rfl ?_⟩
 intro k z hk ko
 obtain⟨rfl,hz⟩:=nF hk
 cases hz
 refine⟨fB,.inl hU,e6,?_,.inl rfl⟩
 rcases h1 with h1|⟨h1,h5⟩
 ·exact .inl h1
 ·exact .inr ⟨.inl h1,h5⟩
def anH [Rd](hP:dS P T)(hR:cF T)(hx:Cx U ar γ w sl L ob){t:aY}{ee:kZ}{x u:a_}{vp va:ah}{p:A1 D}{a:AV D}(ht:aF T.ty t=aa ee)(hv:ev L x=aa vp)(hp:fT U γ w p vp)
  (hu:ev L u=aa va) (e_:gI U γ w a va) (h:Q.R ob (ZO T (ar+16) ee a p) l e):
  OW P Qx L ⟨d,.store t x u,ty,pos,af,gd⟩ w (λv w'=>∃γ',dR U ar γ w ob e γ' v w'):=by
 have hT:=(hP.ty t ee ht).1
 have gT:=FE T ee
 cases p with
 |ptr i off=>
  obtain⟨hU,b,hg,rfl⟩:=hp
  obtain⟨ao,l',ho,rfl,h⟩:=h
  cases ao with
  |sl=>exact h.elim
  |cZ=>exact h.elim
  |iu=>exact h.elim
  |fz=>exact h.elim
  |mp=>exact h.elim
  |box cs=>
   dsimp only at h
   split at h
   case h_2=>exact h.elim
   rename_i us Tz
   split at h
   case isFalse=>exact h.elim
   rename_i hlen
   split at h
   case h_2=>exact h.elim
   rename_i jd M0
   obtain⟨_,rfl⟩:=h
   obtain⟨fB,_,b',QE,t',h1,h2,h3,h4,h5⟩:=hx.ob.ob i _ ho
   rw[hg]at h1
   obtain⟨rfl,_⟩:=Lt h1
   have bV:us.all storable=ab:=by
    unfold CF at M0;split at M0
    ·rename_i hb;simp only[bt]at hb;exact hb.2
    ·cases M0
   obtain⟨vs,k1,k2,k3⟩:=V2 Tz e_ bV
   obtain⟨m1,_,m3,m4⟩:=h4.ZV k1 M0
   have atV:=bB hlen
   refine OW.mono (OW.anI (c:=i) hT hv hu h3 h2 k2 k3 (by rw[gT,<-atV,k1.length]) m1) ?_
   rintro v w' ⟨rfl,b7,auf⟩
   have hM:∀x∈[i],1000<=x:=by simp[fB]
   have hk:jj U (jw U ar) γ w ⟨λb=>rel [] (γ.o b),γ.g,γ.v⟩ w':=abA b7 hM (by simp) (λ_ _=>rfl) (λ_ _=>rfl)
   refine⟨_,mkPost (M:=[i]) (N:=[]) (ps:=[]) (g':=γ.g) (v':=γ.v) hx.ob b7 (by simp[fB,hU,cY.wr]) (by simp) (by simp) hx.cJ (λ_ _=>rfl) (λ_ _=>rfl) rfl ?_⟩
   intro j x hj ko
   obtain⟨rfl,dZ⟩:=nF hj
   cases dZ
   refine⟨fB,.inl hU,b,_,t',hg,h2,auf,m4.df hk,?_⟩
   rw[m3]
   exact aCv h5 bV _
 |el i n j y off tc tj=>
  obtain⟨hU,hUc,⟨oh,pz,wU⟩,TD,b,f,len,cap,hg,rfl⟩:=hp
  obtain⟨ao,l',ho,rfl,h⟩:=h
  cases ao with
  |box=>exact h.elim
  |cZ=>exact h.elim
  |fz=>exact h.elim
  |mp=>exact h.elim
  |iu n' t' xH q xs j' vi s gx=>
   obtain⟨_,_,_,_,_,_,_,e0,_⟩:=hx.ob.ob i _ ho
   have e0:=hg.symm.trans e0
   simp only[ah.slice.injEq,fE,Addr.mk.injEq]at e0
   obtain⟨⟨_,rfl,_⟩,_⟩:=e0
   rw[kG]at hv
   exact anJ hP hR hx ht hv hU hg hu e_ ho h
  |sl n' t' xs K g'=>
   dsimp only at h
   split at h
   case h_2=>exact h.elim
   rename_i us Tz
   split at h
   case isFalse=>exact h.elim
   rename_i sN
   simp only[bt]at sN
   obtain⟨⟨hlen,Hp⟩,hle⟩:=sN
   have hlen:=bB hlen
   have Hp:=bB Hp
   subst Hp
   have hle:=dp hle
   obtain⟨l1,l2,r,_,hr,h⟩:=Q.fW h
   obtain⟨y',gF,h⟩:=h
   dsimp only at h
   split at h
   case h_2=>exact h.elim
   rename_i z hz
   split at h
   case isTrue=>exact h.elim
   rename_i iw
   obtain⟨zs,iZ,_,rfl⟩:=h
   obtain⟨fB,_,h1,h2,h3⟩:=hx.ob.ob i _ ho
   obtain⟨vs,k1,k2⟩:=V4 Tz e_
   obtain⟨r1,r2,r3,r4⟩:=C_ hx.ob hr k1
   obtain⟨ds,K1,fz⟩:=r
   dsimp only at*
   have ady:i∉fz:=pu (by simpa using iw)
   have Tx:vs.length=us.length:=k1.length.symm
   have vI:vs.length=ds.length:=r1.length
   have mE:∀u∈vs,u.oneCell'=ab:=by
    have:∀{vs:List ah} {ds:List (DV D)},cn (In γ.o (fz++K1)) w vs ds->∀u∈vs,u.oneCell'=ab:=by
     intro vs;induction vs with
     |nil=>intro ds _ u hu;cases hu
     |cons v vs ih=>
      intro ds h u hu;cases ds with
      |nil=>exact h.elim
      |cons d ds=>
       rcases cu.1 hu with rfl|hu
       ·exact h.1.one
       ·exact ih h.2 u hu
    exact this r1
   have hvc:va.cells=vs.toArray:=by
    rcases k2 with⟨u,rfl,rfl,_⟩|⟨rfl,_⟩
    ·exact N7 (mE va (by simp))
    ·rfl
   have ML:=hR.iX hz
   have Um:∀i∈fz,1000<=i:=λi hi=>(r3 i hi).1
   have ng:Ow t' γ.o i (fz++K1++K) w (γ.g i) xs:=Ow.tO (λ_ h=>h) (λb hb=>by unfold In at hb⊢;simp[hb]) h1
   have hEP:Fs (γ.g i) (ad.sz (D n)) j ((⟨b,f,ak⟩:Addr).add (j.toNat*ad.sz (D n))):=⟨_,len,cap,hg,rfl⟩
   have ui:ni (fz++K1++K) [i]=ab:=Ev λx hx=>by
    simp only[List.mem_singleton];rintro rfl;simp only[bA]at hx;rcases hx with(hx|hx)|hx
    ·exact ady hx
    ·have:=r2 _ hx;omega
    ·have:=h2 _ hx;omega
   obtain⟨w',fy,b7,kn⟩:=Ow.put (P:=P) (off:=off) (c':=vs) (y':=z) hEP ng gF mE (by rw[hR.sz,Tx];exact hle) (λcs ja=>by rw[hR.rd]at ja⊢;rw[ML,vI];refine((ja.take off).append ?_).append (ja.drop _);exact r1.weaken λb hb=>by unfold In at hb⊢;rw[bA];exact .inl hb) ui
   have asD:zs=xs.set j.toNat z:=by
    unfold di at iZ;split at iZ
    ·cases iZ;rfl
    ·cases iZ
   subst asD
   have jX:((⟨b,f,ak⟩:Addr).add (j.toNat*ad.sz (D n))).add off=⟨b,f+(j.toNat*ad.sz (D n)+off),ak⟩:=by rw[jL,jL,qX]
   rw[jX]at fy
   have hM:∀x∈[i],1000<=x:=by simp[fB]
   have pC:∀p∈nR fz,1000<=p.1:=λp hp=>by simp only[nR,dE]at hp;obtain⟨q,hq,rfl⟩:=hp;exact Um q hq
   refine OW.KW λa ha=>⟨w',?_,?_⟩
   ·simp only[fP]at hv;simp[execOp,ha _ _ hv,ha _ _ hu,Instr.storeAt,Instr.sureAddr,storeVar,hT.sizeOf,hvc,gT,<-hlen,Tx,fy]
   refine⟨_,mkPost (M:=[i]) (N:=[]) (ps:=nR fz) (g':=γ.g) (v':=gh γ.v (ar+16) [⟨.sl n,xs.set j.toNat z⟩]) hx.ob b7 (by simp[fB,hU,cY.wr]) (by simp) ?_ hx.cJ (λ_ _=>rfl) (λi hi=>sw hx (by simp) hi) rfl ?_⟩
   ·intro p hp;refine⟨pC p hp,?_,?_⟩<;>simp only[nR,dE]at hp<;>obtain⟨q,hq,rfl⟩:=hp
    ·intro _;simp[cY.wr,hq]
    ·exact .inl rfl
   ·intro k x hk ko;obtain⟨rfl,dZ⟩:=nF hk;cases dZ;refine⟨fB,.inl hU,Ow.tO (λb hb=>?_) (λb hb=>?_) kn,λx hx=>?_,mx (γ:=γ) (i:=0) rfl (by omega) rfl⟩
    ·show rel (nR fz) (γ.o b)=i;rw[hb,GG.2 ady]
    ·by_cases hK:γ.o b∈K
     ·show rel (nR fz) (γ.o b)∈_;rw[GG.2 λhf=>by have:=Um _ hf;have:=h2 _ hK;omega]
      simp[hK]
     ·have h5:In γ.o (fz++K1) b:=by
       unfold In at hb⊢;simp only[bA]at hb⊢;rcases hb with hb|hb
       ·exact hb
       ·exact(hK hb).elim
      have h6:=U5 r2 r4 Um b h5;unfold In at h6⊢;simp only[bA];exact .inl h6
    ·rcases bA.1 hx with hx|hx
     ·exact r2 _ hx
     ·exact h2 _ hx
 |_=>exact h.elim
def Cx.nw(hx:Cx U ar γ w sl L ob){b:Nat}(hb:b<w.heap.size){k:Nat}(h1:ar<=k)(h2:k<ar+128):γ.o b≠k:=λe=>hx.fresh k h1 h2 (e▸hx.ob.cl b hb)
def kV(f:Nat->ah)(i:Nat)(v:ah):Nat->ah:=λj=>if j=i then v else f j
def oI(f:Nat->ah)(i:Nat)(v:ah):kV f i v i=v:=by simp[kV]
def ur(hx:Cx U ar γ w sl L ob){v:ah}{i:Nat}(h:U i):kV γ.g ar v i=γ.g i:=by have:i≠ar:=λe=>hx.fresh ar (bx _) (by omega) (e▸h);simp[kV,this]
def oO:jw U ar ar:= .inr ⟨bx _,by omega⟩
def ajq(hx:Cx U ar γ w sl L ob){cs:List (A1 D)}{us:List ah}{b:Nat}{t:aY}{w':ay}(hv:db U γ w cs us)(hs:cs.all storable=ab)(hb:w.heap.size<=b)(b7:bP [] [ar] γ.o w (grow γ.o w ar) w')(hc:w'.heap[b]? =aa (.cells us.toArray t (0,0))):
  ∃γ',dR U ar γ w ob ⟨.c (.one (.ptr ar 0)),[(ar,aa (.box cs))],[]⟩ γ' (fP b 0) w':=by
 have hk:jj U (jw U ar) γ w ⟨λb=>rel [] (grow γ.o w ar b),kV γ.g ar (fP b 0),γ.v⟩ w':=abA b7 (by simp) (by simp) (λi hi=>ur hx hi) (λ_ _=>rfl)
 refine⟨_,mkPost (M:=[]) (N:=[ar]) (ps:=[]) (g':=kV γ.g ar (fP b 0)) (v':=γ.v) hx.ob b7 (by simp) (by simp) (by simp) hx.cJ (λi hi=>ur hx hi) (λ_ _=>rfl) ⟨oO,b,oI _ _ _,rfl⟩ ?_⟩
 intro j x hj ko
 obtain⟨rfl,dZ⟩:=nF hj
 cases dZ
 exact⟨hx.cJ,oO,b,us,t,oI _ _ _,sR γ.o w ar b hb,hc,hv.df hk,hs⟩
def PX{γ:Gh D}(bR:∀n,In γ.o [] n->False):∀ls:List Lf,db U γ w (wh.BC ls:List (A1 D)) (wg ls)
 |[]=>trivial
 |l::r=>⟨by cases l<;>first|rfl|exact⟨rfl,LU _,lr⟩,PX bR r⟩
def Yf:∀ls:List Lf,(wh.BC ls:List (A1 D)).all storable=ab
 |[]=>rfl
 |l::r=>by simp only[wh.BC,List.all_cons,bt];exact⟨by cases l<;>rfl,Yf r⟩
def akO{ee:kZ}{cs:List (A1 D)}(h:wh T ee=aa cs):db U γ w cs (FF T ee)∧cs.all storable=ab:=by
 unfold wh at h;split at h<;>first
  |(cases h;exact⟨⟨⟨rfl,LU _,lr⟩,trivial⟩,rfl⟩)
  |(cases h;exact⟨⟨rfl,trivial⟩,rfl⟩)
  |(cases h;exact⟨PX (by simp[In]) _,Yf _⟩)
  |cases h
def akP{T:bc D}{ee:kZ}(h:ee.agg=false):∃u,FF T ee=[u]∧u.oneCell'=ab:=by
 cases ee with
 |one l=>cases l<;>exact⟨_,rfl,rfl⟩
 |st n=>cases h
 |ptr=>exact⟨_,rfl,rfl⟩
 |fn=>exact⟨_,rfl,rfl⟩
def aCt [Rd](hP:dS P T)(hx:Cx U ar γ w sl L ob){t:aY}{ee:kZ}{cs:List (A1 D)}(ht:aF T.ty t=aa ee)(hz:wh T ee=aa cs):
  OW P Qx L ⟨d,.alloc t,ty,pos,af,gd⟩ w (λv w'=>∃γ',dR U ar γ w ob ⟨.c (.one (.ptr ar 0)),[(ar,aa (.box cs))],[]⟩ γ' v w'):=by
 have hT:=(hP.ty t ee ht).1
 obtain⟨h1,h2⟩:=akO (U:=U) (γ:=γ) (w:=w) hz
 refine OW.mono (OW.aCu (o:=γ.o) ar hT (λh=>akP h)) ?_
 rintro v w' ⟨b,rfl,hb,b7,hc⟩
 exact ajq hx h1 h2 hb b7 hc
def aCa [Rd](hx:Cx U ar γ w sl L ob){t:aY}{u:a_}{a:AV D}{va:ah}{cs:List (A1 D)}(hu:ev L u=aa va)(e_:gI U γ w a va)(hc:cellsOf a=aa cs)(hs:cs.all storable=ab):
  OW P Qx L ⟨d,.box t u,ty,pos,af,gd⟩ w (λv w'=>∃γ',dR U ar γ w ob ⟨.c (.one (.ptr ar 0)),[(ar,aa (.box cs))],[]⟩ γ' v w'):=by
 obtain⟨vs,h1,h2,h3⟩:=V2 hc e_ hs
 refine OW.mono (OW.aCb (o:=γ.o) ar vs hu h2) ?_
 rintro v w' ⟨b,rfl,hb,b7,hc⟩
 exact ajq hx h1 hs hb b7 hc
