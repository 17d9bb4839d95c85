import Derived.Test.YtmngjhagbjgmfaaGreatRe
set_option linter.all false
open Bool renaming and_eq_true->bq,true->ab
open Go renaming Operand->aZ,TypeId->aX,Value->ah,World->ax
open List renaming all_eq_true->dR,getElem?_drop->v9,getElem?_eq_some_iff->gH,getElem?_take->mh,mem_append->bz,mem_cons->cr,mem_map->dC
open Nat renaming add_assoc->qU,beq->aT,eq_of_beq_eq_true->bA,le_of_ble_eq_true->dm,le_refl->bw,zero_add->kD
open Option renaming some->aa
open Option.some renaming inj->jM,injEq->fC
open Prod.mk renaming injEq->v7
namespace Go.Proofs.YtmngjhagbjgmfaaGreat
open Go Go.RowKit Dp
namespace Rx
section
variable {D:Nat->Type} [∀n,ad (D n)]
variable {P:Program} {T:bb D} {Qx:Exit->Act->ax->Prop} {U:Nat->Prop} {aq:Nat} {γ:Gh D} {w:ax} {sl:List (Nat×AV D)} {L:List (Nat×ah)} {ob:List (Nat×Option (AO D))}
 {d:Option Tmp} {ty:aX} {pos:String} {af:Array Edge} {gd:Option (Nat×Bool)} {e:cW D} {l:List Nat}
def c_.length:∀{cs:List (A1 D)} {us:List ah},c_ U γ w cs us->cs.length=us.length
 |[],[],_=>rfl
 |c::cs,u::us,h=>by simp[c_.length h.2]
 |[],_::_,h=>h.elim
 |_::_,[],h=>h.elim
def c_.take:∀{cs:List (A1 D)} {us:List ah},c_ U γ w cs us->∀k,c_ U γ w (cs.take k) (us.take k)
 |_,_,_,0=>by simp[c_]
 |[],[],_,k+1=>trivial
 |c::cs,u::us,h,k+1=>⟨h.1,c_.take h.2 k⟩
 |[],_::_,h,_=>h.elim
 |_::_,[],h,_=>h.elim
def c_.drop:∀{cs:List (A1 D)} {us:List ah},c_ U γ w cs us->∀k,c_ U γ w (cs.drop k) (us.drop k)
 |_,_,h,0=>by simpa using h
 |[],[],_,k+1=>trivial
 |c::cs,u::us,h,k+1=>by simpa using c_.drop h.2 k
 |[],_::_,h,_=>h.elim
 |_::_,[],h,_=>h.elim
def c_.append:∀{cs:List (A1 D)} {us:List ah} {i_:List (A1 D)} {mP:List ah},c_ U γ w cs us->c_ U γ w i_ mP->c_ U γ w (cs++i_) (us++mP)
 |[],[],_,_,_,h=>h
 |c::cs,u::us,_,_,h,h'=>⟨h.1,c_.append h.2 h'⟩
 |[],_::_,_,_,h,_=>h.elim
 |_::_,[],_,_,h,_=>h.elim
def fR.one:∀{a:A1 D} {u:ah},fR U γ w a u->storable a=ab->u.oneCell'=ab
 | .v l d K t,u,h,_=>h.1.one
 | .ptr i off,u,⟨_,b,_,h⟩,_=>by subst h;rfl
 | .el ..,u,⟨_,_,_,_,b,f,len,cap,_,h⟩,_=>by subst h;rfl
 | .rp ..,u,⟨pa,h,_⟩,_=>by subst h;rfl
 | .vb n xs K t b,u,h,_=>dA.one (d:=⟨.sl n,xs⟩) h.1.1
 | .own i,u,⟨_,_,h⟩,_=>h
 | .fn f jc,u,⟨cs,h,_⟩,_=>by subst h;exact awi _ _
 | .ch ..,u,_,h=>by cases h
 | .yT ..,u,_,h=>by cases h
 | .tail ..,u,_,h=>by cases h
 | .pre ..,u,_,h=>by cases h
 | .uy ..,u,_,h=>by cases h
 | .bE,u,h,_=>by have h:u= .slice none 0 0:=h;subst h;rfl
 | .ss,u,h,_=>by have h:u= .pointer none:=h;subst h;rfl
 | .Dd,u,h,_=>by have h:u= .nilFunc:=h;subst h;rfl
 | .undef,u,_,h=>by cases h
 | .zz,u,_,h=>by cases h
 | .wL,u,h,_=>h
def c_.Sh:∀{cs:List (A1 D)} {us:List ah},c_ U γ w cs us->cs.all storable=ab->∀u∈us,u.oneCell'=ab
 |[],[],_,_,u,hu=>by cases hu
 |c::cs,v::us,h,hs,u,hu=>by
  simp only[List.all_cons,bq]at hs;rcases cr.1 hu with rfl|hu
  ·exact h.1.one hs.1
  ·exact c_.Sh h.2 hs.2 u hu
 |[],_::_,h,_,_,_=>h.elim
 |_::_,[],h,_,_,_=>h.elim
def NQ{ty:kW}{cs:List (A1 D)}{us:List ah}{off:Nat}{a:AV D}(h:c_ U γ w cs us)(hc:yP ty T cs off=aa a):off+ty.n T<=us.length∧gF U γ w a (pack ty.agg ((us.drop off).take (ty.n T))):=by
 unfold yP at hc;split at hc
 case isFalse=>cases hc
 rename_i hle;have adk:=dm hle;rw[h.length]at adk;refine⟨adk,?_⟩;have h2:=(h.drop off).take (ty.n T);unfold u7 at hc;cases hg:ty.agg with
 |true=>simp only[hg,aH,fC]at hc;subst hc;exact⟨_,rfl,h2⟩
 |false=>
  simp only[hg,Bool.false_eq_true,aC]at hc;split at hc
  ·rename_i b hb;cases hc;rw[hb]at h2;generalize (us.drop off).take (ty.n T)=mP at h2;match mP,h2 with
   |[u],h2=>exact h2.1
  ·cases hc
def VZ{cs:List ah}{b:Nat}{t:aX}(h:w.heap[b]? =aa (.cells cs.toArray t (0,0)))(off n:Nat):j8 w ⟨b,off,none⟩ ((cs.drop off).take n):=by
 intro j u hu;rw[mh]at hu;split at hu
 case isFalse=>cases hu
 rw[v9]at hu;have jU:(⟨b,off,none⟩:Addr).add j=⟨b,off+j,none⟩:=by unfold Addr.add;split<;>simp_all
 rw[jU,cell_of_row w b (off+j) cs.toArray t (0,0) h];simpa using hu
def j8.cut{pa:Addr}{cs:List ah}(h:j8 w pa cs)(off n:Nat):j8 w (pa.add off) ((cs.drop off).take n):=by
 intro j u hu;rw[mh]at hu;split at hu
 case isFalse=>cases hu
 rw[v9]at hu;rw[E0];exact h _ _ hu
def Is{γ':Gh D}{K:List Nat}(hK:eh K):∀{ds:List (DV D)} {us:List ah} {g:Nat},cm (In γ'.o K) w us ds->(∀i x,ds[i]? =aa x->named U γ' (g+i) x)->c_ U γ' w (cellsD K g ds) us
 |[],[],g,_,_=>trivial
 |⟨lf,x⟩::ds,u::us,g,h,hn=>by
  refine⟨⟨?_,hn 0 _ rfl,?_⟩,Is hK h.2 λi x hi=>?_⟩
  ·cases lf with
   |sl n=>exact h.1
   |int k=>exact h.1
   |bool=>exact h.1
   |str=>exact h.1
  ·cases lf with
   |sl n=>exact hK
   |int k=>exact lj
   |bool=>exact lj
   |str=>exact lj
  ·have:=hn (i+1) x (by simpa using hi);rwa[show g+(i+1)=g+1+i from by omega]at this
 |[],_::_,_,h,_=>h.elim
 |_::_,[],_,h,_=>h.elim
def fB.at{n:Nat}{S:Nat->Prop}{v:ah}{xs:List (D n)}{y:D n}{j:Int}{b f len cap:Nat}(h:fB S w v xs)(hv:v= .slice (aa ⟨b,f,none⟩) len cap)(hj:idx xs j=aa y):
  ∃cs,ad.rd S w cs y∧j8 w ⟨b,f+j.toNat*ad.sz (D n),none⟩ cs:=by
 obtain⟨p,yV,rfl,h⟩:=h
 unfold idx at hj
 split at hj
 case isFalse=>cases hj
 rcases h with h|⟨a,aJ,rfl,h1,h2⟩
 ·subst h;simp at hj
 ·have ha:a=⟨b,f,none⟩:=by
   have:=ik (λv=>match v with|Value.slice (aa a) _ _=>a|_=>(⟨0,0,none⟩:Addr)) hv;simpa using this
  subst ha;obtain⟨c,ie,km⟩:=h1.get hj;refine⟨c,km,λm u hu=>?_⟩;have:=h2 _ _ (Nj h1.o9 ie hu);rw[jI,qU,<-jI];exact this
def Lp{b b' o o':Nat}(h:fN b o=fN b' o'):b=b'∧o=o':=by unfold fN at h;cases h;exact⟨rfl,rfl⟩
def yH(f:Nat->ah)(i:Nat)(v:ah):Nat->ah:=λj=>if j=i then v else f j
def Cv(f:Nat->DV D)(i:Nat)(v:DV D):Nat->DV D:=λj=>if j=i then v else f j
def arl [Rd](hP:dQ P T)(hR:cE T)(hx:Cx U aq γ w sl L ob){t:aX}{eb:kW}{x:aZ}{i n n' t' tc q off b len cap g' h0:Nat}{j:Int}{xs:List (D n')}(ht:aE T.ty t=aa eb)(hv:ev L x=aa (fN b (j.toNat*ad.sz (D n)+off)))
  (hU:U i) (hg:γ.g i= .slice (aa ⟨b,0,none⟩) len cap) (ho:dt ob i=aa (.cX n' t' tc q xs g' h0))
  (h:Q.R ob (if aT n n'&&LC eb then .part (idx xs j) λy=>match(T.out n' y)[off]? with
     |some x=>SN i n' j off t' tc q xs g' h0 (aq+16) x
     |none=> .fail
    else .fail) l e):
  OW P Qx L ⟨d,.load t x,ty,pos,af,gd⟩ w (λv w'=>∃γ',dP U aq γ w ob e γ' v w'):=by
 have hT:=(hP.ty t eb ht).1
 have hz:=PU T eb
 have gP:=FA T eb
 split at h
 case isFalse=>exact h.elim
 rename_i hc
 simp only[bq]at hc
 have hn:=bA hc.1
 subst hn
 obtain⟨y,hy,h⟩:=h
 dsimp only at h
 split at h
 case h_2=>exact h.elim
 rename_i lx hlx
 obtain⟨fy,_,h1,h2,h3⟩:=hx.ob.ob i _ ho
 obtain⟨cs,k1,k2⟩:=fB.at h1.ow.de hg hy
 rw[kD]at k2
 rw[hR.rd]at k1
 obtain⟨u,k3,k4⟩:=cm.at k1 hlx
 have aU:=(gH.1 k3).1
 have mA:eb.n T=1∧eb.agg=false:=by
  cases eb with
  |one l=>exact⟨rfl,rfl⟩
  |_=>cases hc.2
 have MV:j8 w ⟨b,j.toNat*ad.sz (D n)+off,none⟩ [u]:=by
  have:=j8.cut k2 off 1;have jU:(⟨b,j.toNat*ad.sz (D n),none⟩:Addr).add off=⟨b,j.toNat*ad.sz (D n)+off,none⟩:=by unfold Addr.add;split<;>simp_all
  rw[jU]at this;have e1:(cs.drop off).take 1=[u]:=by rw[List.drop_eq_getElem_cons aU];simp only[List.take_succ_cons,List.take_zero];rw[List.getElem?_eq_getElem aU]at k3;rw[jM k3]
  rwa[e1]at this
 have ui:w.cell? ⟨b,j.toNat*ad.sz (D n)+off,none⟩=aa u:=by have:=MV 0 u rfl;rwa[add_zero']at this
 obtain⟨aV,c1,c2⟩:=Uq h1 hg
 have Uv:aV[j.toNat*ad.sz (D n)+off]? =aa u:=by rw[cell_of_row w b _ aV t' (0,0) c2]at ui;exact ui
 have Hr:OW P Qx L ⟨d,.load t x,ty,pos,af,gd⟩ w (λv' w'=>v'=u∧w'=w):=by have:=OW.Md (P:=P) (Qx:=Qx) (L:=L) (w:=w) (d:=d) (ty:=ty) (pos:=pos) (af:=af) (g:=gd) hT hz hv MV (by rw[gP,mA.1];rfl);refine OW.mono this ?_;rintro v' w' ⟨rfl,rfl⟩;rw[mA.2];exact⟨rfl,rfl⟩
 obtain⟨lf,dd⟩:=lx
 cases lf with
 |int k=>
  obtain⟨_,rfl⟩:=h
  exact dj Hr (ei hx k4)
 |bool=>
  obtain⟨_,rfl⟩:=h
  exact dj Hr (ei hx k4)
 |str=>
  obtain⟨_,rfl⟩:=h
  exact dj Hr (ei hx k4)
 |sl m=>
  dsimp only[SN]at h
  split at h
  case isFalse=>exact h.elim
  rename_i TY
  have TY:=bA TY
  subst TY
  have sy:∀(S:Nat->Prop) (w:ax) (cs:List ah),ad.rd S w cs y->∃u,cs[off]? =aa u∧Rv S w u (dd:List (D m)):=λS w cs hr=>by rw[hR.rd]at hr;exact cm.at hr hlx
  have mX:∃p c,u= .slice p (dd:List (D m)).length c:=by obtain⟨p,c,e1,_⟩:=uW (k4:Rv _ w u (dd:List (D m)));exact⟨p,c,e1⟩
  split at h
  ·rename_i A7;have A7:=bA A7;obtain⟨_,rfl⟩:=h;refine OW.mono Hr ?_;rintro v' w' ⟨rfl,rfl⟩;have hf:¬U (aq+17):=hx.fresh _ (by omega) (by omega);have MQ:∀k,U k->yH γ.g (aq+17) (.agg aV) k=γ.g k:=λk hk=>by have bQ:k≠aq+17:=λe=>hf (by rw[<-e];exact hk);unfold yH;rw[aK bQ]
   have hv':∀k,U k->Cv γ.v (aq+17) ⟨.sl n,xs⟩ k=γ.v k:=λk hk=>by have bQ:k≠aq+17:=λe=>hf (by rw[<-e];exact hk);unfold Cv;rw[aK bQ]
   have e1:yH γ.g (aq+17) (.agg aV) (aq+17)= .agg aV:=by simp[yH]
   have e2:Cv γ.v (aq+17) (⟨.sl n,xs⟩:DV D) (aq+17)=⟨.sl n,xs⟩:=by simp[Cv]
   have DZ:jt U aq (aq+17):= .inr ⟨by omega,by omega⟩;refine⟨_,mkPost (M:=[]) (N:=[]) (ps:=[]) (g':=yH γ.g (aq+17) (.agg aV)) (v':=Cv γ.v (aq+17) ⟨.sl n,xs⟩) hx.ob (bO.refl _ _ _ _) (by simp) (by simp) (by simp) hx.cI MQ hv' ⟨.inl hU,⟨by omega,DZ⟩,⟨xs,y,e2,hy,sy⟩,⟨b,len,cap,aV,by rw[<-hg];exact MQ i hU,e1,Uv⟩,mX⟩ ?_⟩;intro k z hk kl;obtain⟨rfl,oA⟩:=nC hk;cases oA;refine⟨fy,.inl hU,?_,?_,.inr ⟨DZ,e2,aV,e1,λb' n' c' p e=>?_⟩⟩
   ·show j6 _ _ _ (lr γ.o i (yH γ.g (aq+17) (.agg aV) i)) 0 1 w' (yH γ.g (aq+17) (.agg aV) i) xs;rw[MQ i hU];exact h1
   ·rcases h2 with h2|⟨h2,h4⟩
    ·exact .inl h2
    ·exact .inr ⟨.inl h2,by show Cv γ.v (aq+17) _ g'=_;rw[hv' g' h2];exact h4⟩
   ·have e:yH γ.g (aq+17) (.agg aV) i= .slice (aa ⟨b',0,none⟩) n' c':=e;rw[MQ i hU,hg]at e;cases e;exact cell_of_row w' b p aV t' (0,0) c2
  ·rename_i A7;have A7:h0≠0:=λe=>A7 (by rw[e];rfl);obtain⟨_,rfl⟩:=h;rcases h3 with h3|⟨h3,h4,cells,h5,h6⟩
   ·exact(A7 h3).elim
   refine dj Hr (pf hx ⟨hU,⟨A7,h3⟩,⟨xs,y,h4,hy,sy⟩,⟨b,len,cap,cells,hg,h5,?_⟩,mX⟩);rw[<-h6 b len cap _ hg];exact ui
def arj [Rd](hP:dQ P T)(hR:cE T)(hx:Cx U aq γ w sl L ob){t:aX}{eb:kW}{x:aZ}{vp:ah}{p:A1 D}(ht:aE T.ty t=aa eb)(hv:ev L x=aa vp)(hp:fR U γ w p vp)(h:Q.R ob (SM T (aq+16) eb p) l e):
  OW P Qx L ⟨d,.load t x,ty,pos,af,gd⟩ w (λv w'=>∃γ',dP U aq γ w ob e γ' v w'):=by
 have hT:=(hP.ty t eb ht).1
 have hz:=PU T eb
 have gP:=FA T eb
 cases p with
 |ptr i off=>
  obtain⟨hU,b,hg,rfl⟩:=hp
  obtain⟨ao,l',ho,rfl,h⟩:=h
  cases ao with
  |sl=>exact h.elim
  |cX=>exact h.elim
  |im=>exact h.elim
  |fz=>exact h.elim
  |mp=>exact h.elim
  |box cs=>
   dsimp only at h
   split at h
   case h_2=>exact h.elim
   rename_i a ha
   obtain⟨_,rfl⟩:=h
   obtain⟨_,_,b',us,t',h1,h2,h3,h4,h5⟩:=hx.ob.ob i _ ho
   rw[hg]at h1
   obtain⟨rfl,_⟩:=Lp h1
   obtain⟨h6,h7⟩:=NQ h4 ha
   refine dj (OW.Md hT hz hv (VZ h3 off (eb.n T)) ?_) (pf hx h7)
   rw[gP]
   simp
   omega
 |rp n y off K=>
  obtain⟨pa,rfl,⟨cs,h1,h2,h3⟩,hK⟩:=hp
  dsimp only[SM]at h
  split at h
  case h_2=>exact h.elim
  rename_i a ha
  obtain⟨_,rfl⟩:=h
  have h4:=(hR.rd n _ _ _ _).1 h1
  have T5:(T.out n y).length<=112:=by rw[Ly];exact hR.uo n
  have h5:c_ (jt U aq) ⟨γ.o,γ.g,ga γ.v (aq+16) (T.out n y)⟩ w (cellsD K (aq+16) (T.out n y)) cs:=
   Is hK h4 λi x hi=>mr rfl (by have:=(gH.1 hi).1;omega) hi
  obtain⟨h6,h7⟩:=NQ h5 ha
  refine dj (OW.Md hT hz hv (j8.cut h3 off (eb.n T)) ?_) (zZ hx _ T5 h7)
  rw[gP]
  simp
  omega
 |el i n j y off tc tj=>
  obtain⟨hU,hUc,⟨oc,pu,wQ⟩,Tz,b,f,len,cap,hg,rfl⟩:=hp
  obtain⟨ao,l',ho,rfl,h⟩:=h
  cases ao with
  |box=>exact h.elim
  |im=>exact h.elim
  |fz=>exact h.elim
  |mp=>exact h.elim
  |cX n' t' xD q xs g' h0=>
   obtain rfl:=j6.f0 (hx.ob.ob i _ ho).2.2.1 hg
   rw[kD]at hv
   exact arl hP hR hx ht hv hU hg ho h
  |sl n' t' xs K g'=>
   dsimp only at h
   obtain⟨_,_,h1,h2,h3⟩:=hx.ob.ob i _ ho
   have auv:=h1.de
   have key:∀{y':D n'} {a:AV D},ad.sz (D n)=ad.sz (D n')->idx xs j=aa y'->yP eb T (cellsD K (aq+16) (T.out n' y')) off=aa a->e=⟨a,[],[]⟩->
     OW P Qx L ⟨d,.load t x,ty,pos,af,gd⟩ w (λv w'=>∃γ',dP U aq γ w ob e γ' v w'):=by
    rintro y' a eK gC ha rfl
    obtain⟨cs,h4,h5⟩:=fB.at auv hg gC
    have h6:=(hR.rd n' _ _ _ _).1 h4
    have T5:(T.out n' y').length<=112:=by rw[Ly];exact hR.uo n'
    have h7:c_ (jt U aq) ⟨γ.o,γ.g,ga γ.v (aq+16) (T.out n' y')⟩ w (cellsD K (aq+16) (T.out n' y')) cs:=
     Is h2 h6 λi x hi=>mr rfl (by have:=(gH.1 hi).1;omega) hi
    obtain⟨h8,h9⟩:=NQ h7 ha
    have hc:=j8.cut h5 off (eb.n T)
    have jU:(⟨b,f+j.toNat*ad.sz (D n'),none⟩:Addr).add off=⟨b,f+(j.toNat*ad.sz (D n)+off),none⟩:=by rw[eK,jI,qU]
    rw[jU]at hc
    refine dj (OW.Md hT hz hv hc ?_) (zZ hx _ T5 h9)
    rw[gP]
    simp
    omega
   split at h
   ·rename_i Uf;have Uf:=bA Uf;subst Uf;split at h
    case h_2=>exact h.elim
    rename_i a ha;obtain⟨_,rfl⟩:=h;rcases h3 with h3|⟨_,h3⟩
    ·exact(hUc.1 h3).elim
    ·rw[pu]at h3;cases h3;exact key rfl wQ ha rfl
   ·split at h
    ·rename_i hn;have hn:=bA hn;subst hn;obtain⟨y',gC,h⟩:=h;dsimp only at h;split at h
     case h_2=>exact h.elim
     rename_i a ha;obtain⟨_,rfl⟩:=h;exact key rfl gC ha rfl
    ·exact h.elim
 |_=>exact h.elim
def Ow.tK{n:Nat}{t:aX}{o o':cA}{k k':Nat}{K K':List Nat}{v:ah}{xs:List (D n)}(hk:∀b,o b=k->o' b=k')(hK:∀b,In o K b->In o' K' b)(h:Ow t o k K w v xs):Ow t o' k' K' w v xs:=by
 rcases h with h|⟨g,f,cap,aV,aJ,e1,e2,e3,e4,e5,e6,e7,e8⟩
 ·exact .inl h
 ·exact .inr ⟨g,f,cap,aV,aJ,e1,hk _ e2,e3,e4,e5,e6,e7.mono λ_ _=>ad.mono λb hb _=>⟨hK b hb,rfl⟩,e8⟩
def nO(fz:List Nat):List (Nat×Nat):=fz.map λi=>(i,1)
def GB{fz:List Nat}{x:Nat}:(x∈fz->rel (nO fz) x=1)∧(x∉fz->rel (nO fz) x=x):=by
 unfold rel;constructor
 ·intro h;split
  ·rename_i y hy;have:=dM hy;simp only[nO,dC]at this;obtain⟨_,_,h2⟩:=this;cases h2;rfl
  ·rename_i hn;exact(yd hn 1 (by simp only[nO,dC];exact⟨x,h,rfl⟩)).elim
 ·intro h;split
  ·rename_i y hy;have:=dM hy;simp only[nO,dC]at this;obtain⟨z,hz,h2⟩:=this;cases h2;exact(h hz).elim
  ·rfl
def dA.weaken{S S':Nat->Prop}{v:ah}{x:DV D}(hm:∀b,S b->S' b)(h:dA S w v x):dA S' w v x:=h.mono λb hb _=>⟨hm b hb,rfl⟩
def cm.weaken{S S':Nat->Prop}{vs:List ah}{xs:List (DV D)}(hm:∀b,S b->S' b)(h:cm S w vs xs):cm S' w vs xs:=h.mono λb hb _=>⟨hm b hb,rfl⟩
def Xb{j:Nat}{ao:AO D}{d:DV D}{K:List Nat}(h:OR U γ w j ao)(e:BJ ao=aa (d,K)):dA (In γ.o (j::K)) w (γ.g j) d∧eh K:=by
 cases ao with
 |sl n t xs K' g=>simp only[BJ,fC,v7]at e;obtain⟨rfl,rfl⟩:=e;exact⟨h.1.rv,h.2.1⟩
 |cX n t tc q xs g ht=>
  simp only[BJ,fC,v7]at e;obtain⟨rfl,rfl⟩:=e;refine⟨Rv.weaken (λb hb=>?_) h.1.rv,lj⟩;unfold In at hb⊢;simp only[cr,List.not_mem_nil,kB]at hb⊢;rcases hb with hb|hb
  ·exact(Dm hb).1
  ·exact(Dl hb).1
 |box=>cases e
 |im=>cases e
 |fz=>cases e
 |mp=>cases e
def ajv{j:Nat}{ao:AO D}{d:DV D}{K:List Nat}(h:OR U γ w j ao)(e:O0 ao=aa (d,K)):dA (In γ.o K) w (γ.g j) d∧eh K:=by
 cases ao with
 |fz n xs K'=>simp only[O0,fC,v7]at e;obtain⟨rfl,rfl⟩:=e;exact h
 |_=>cases e
def C6(bG:OB U γ w ob):∀{as:List (A1 D)} {ls:List Lf} {us:List ah} {l:List Nat} {r:List (DV D)×List Nat×List Nat},Q.R ob (u0 ls as) l r->c_ U γ w as us->
  cm (In γ.o (r.2.2++r.2.1)) w us r.1∧eh r.2.1∧(∀i∈r.2.2,1000<=i∧U i)∧(r.2.2≠[]->1∈r.2.1)
 |[],ls,us,l,r,h,hv=>by
  simp only[u0]at h;obtain⟨_,rfl⟩:=h;cases us with
  |nil=>exact⟨trivial,lj,by simp,λh=>(h rfl).elim⟩
  |cons _ _=>exact hv.elim
 |a::as,ls,us,l,r,h,hv=>by
  cases us with
  |nil=>exact hv.elim
  |cons u us=>
  cases ls with
  |nil=>simp only[u0]at h;exact h.elim
  |cons lf ls=>
   simp only[u0]at h;cases a with
   |v l' x K g=>
    obtain⟨l1,l2,r',_,h1,h2⟩:=Q.fU h;obtain⟨_,rfl⟩:=h2;obtain⟨i1,i2,i3,i4⟩:=C6 bG h1 hv.2;obtain⟨j1,_,j3⟩:=hv.1;refine⟨⟨j1.weaken λb hb=>?_,i1.weaken λb hb=>?_⟩,?_,i3,λh=>?_⟩
    ·simp only[In,bz]at hb⊢;exact .inr (.inl hb)
    ·simp only[In,bz]at hb⊢;rcases hb with hb|hb;exact .inl hb;exact .inr (.inr hb)
    ·intro x hx;rcases bz.1 hx with hx|hx;exact j3 x hx;exact i2 x hx
    ·exact bz.2 (.inr (i4 h))
   |bE=>
    dsimp only at h;split at h
    ·rename_i n;obtain⟨l1,l2,r',_,h1,h2⟩:=Q.fU h;obtain⟨_,rfl⟩:=h2;obtain⟨i1,i2,i3,i4⟩:=C6 bG h1 hv.2;have hu:u= .slice none 0 0:=hv.1;subst hu;exact⟨⟨CX _ _,i1⟩,i2,i3,i4⟩
    ·exact h.elim
   |own j=>
    obtain⟨ao,l',ho,rfl,h⟩:=h;dsimp only at h;split at h
    ·rename_i dv K A8;obtain⟨l1,l2,r',_,h1,h2⟩:=Q.fU h;obtain⟨_,rfl⟩:=h2;obtain⟨i1,i2,i3,i4⟩:=C6 bG h1 hv.2;obtain⟨_,_,k0⟩:=bG.ob j _ ho;obtain⟨j1,j3⟩:=ajv k0 A8;obtain⟨_,rfl,_⟩:=hv.1;refine⟨⟨j1.weaken λb hb=>?_,i1.weaken λb hb=>?_⟩,?_,i3,λh=>?_⟩
     ·simp only[In,bz]at hb⊢;exact .inr (.inl hb)
     ·simp only[In,bz]at hb⊢;rcases hb with hb|hb;exact .inl hb;exact .inr (.inr hb)
     ·intro x hx;rcases bz.1 hx with hx|hx;exact j3 x hx;exact i2 x hx
     ·exact bz.2 (.inr (i4 h))
    split at h
    case h_2=>exact h.elim
    rename_i dv K A8;obtain⟨l1,l2,r',_,h1,h2⟩:=Q.fU h;obtain⟨_,rfl⟩:=h2;obtain⟨i1,i2,i3,i4⟩:=C6 bG h1 hv.2;obtain⟨k1,k2,k0⟩:=bG.ob j _ ho;obtain⟨k3,k4⟩:=Xb k0 A8;obtain⟨_,rfl,_⟩:=hv.1;refine⟨⟨?_,i1.weaken λb hb=>?_⟩,?_,?_,λ_=>by simp⟩
    ·refine dA.weaken (λb hb=>?_) k3;unfold In at hb⊢;rcases cr.1 hb with hb|hb<;>simp[hb]
    ·unfold In at hb⊢;rcases bz.1 hb with hb|hb<;>simp[hb]
    ·intro x hx;simp only[List.cons_append,cr,bz]at hx;rcases hx with rfl|hx|hx
     ·omega
     ·exact k4 x hx
     ·exact i2 x hx
    ·intro i hi;simp only[cr]at hi;rcases hi with rfl|hi
     ·exact⟨k1,k2⟩
     ·exact i3 i hi
   |_=>exact h.elim
def UY{fz K:List Nat}{o:cA}(hK:eh K)(h1:fz≠[]->1∈K)(hf:∀i∈fz,1000<=i):∀b,In o (fz++K) b->In (λb=>rel (nO fz) (o b)) K b:=by
 intro b hb;simp only[In,bz]at hb⊢;by_cases h:o b∈fz
 ·rw[GB.1 h];exact h1 (List.ne_nil_of_mem h)
 ·rw[GB.2 h];exact hb.resolve_left h
def c_.ZR{cs mP:List (A1 D)}{us vs:List ah}{off:Nat}{i_:List (A1 D)}(h:c_ U γ w cs us)(h':c_ U γ w mP vs)(hc:CB cs mP off=aa i_):
  off+vs.length<=us.length∧mP.all storable=ab∧i_=cs.take off++mP++cs.drop (off+mP.length)∧c_ U γ w i_ (us.take off++vs++us.drop (off+vs.length)):=by
 unfold CB at hc
 split at hc
 case isFalse=>cases hc
 rename_i hb
 simp only[bq]at hb
 have hle:=dm hb.1
 cases hc
 rw[h.length,h'.length]at hle
 refine⟨hle,hb.2,rfl,?_⟩
 rw[h'.length]
 exact((h.take off).append h').append (h.drop _)
def aCr{cs mP:List (A1 D)}{off:Nat}(h:cs.all storable=ab)(h':mP.all storable=ab)(k:Nat):(cs.take off++mP++cs.drop k).all storable=ab:=by
 simp only[List.all_append,bq];refine⟨⟨?_,h'⟩,?_⟩
 ·exact dR.2 λx hx=>dR.1 h x (List.mem_of_mem_take hx)
 ·exact dR.2 λx hx=>dR.1 h x (List.mem_of_mem_drop hx)
def V0{a:AV D}{us:List (A1 D)}{v:ah}(h:cellsOf a=aa us)(hv:gF U γ w a v):∃vs,c_ U γ w us vs∧((∃u,vs=[u]∧v=u∧∃b,a= .c (.one b))∨v= .agg vs.toArray∧∃b,a= .c (.agg b)):=by
 unfold cellsOf at h;split at h
 ·cases h;exact⟨[v],⟨hv,trivial⟩,.inl ⟨v,rfl,rfl,_,rfl⟩⟩
 ·cases h;obtain⟨vs,rfl,h2⟩:=hv;exact⟨vs,h2,.inr ⟨rfl,_,rfl⟩⟩
 ·cases h
def VY{a:AV D}{us:List (A1 D)}{v:ah}(h:cellsOf a=aa us)(hv:gF U γ w a v)(hs:us.all storable=ab):∃vs,c_ U γ w us vs∧v.cells=vs.toArray∧∀u∈vs,u.oneCell'=ab:=by
 obtain⟨vs,h1,h2⟩:=V0 h hv;refine⟨vs,h1,?_,h1.Sh hs⟩;rcases h2 with⟨u,rfl,rfl,_⟩|⟨rfl,_⟩
 ·exact N3 (h1.Sh hs v (by simp))
 ·rfl
end
end Rx
end Go.Proofs.YtmngjhagbjgmfaaGreat
namespace Go.Proofs.YtmngjhagbjgmfaaGreat
open Go Go.RowKit Dp
namespace Rx
section
variable {D:Nat->Type} [∀n,ad (D n)]
variable {P:Program} {T:bb D} {Qx:Exit->Act->ax->Prop} {U:Nat->Prop} {aq:Nat} {γ:Gh D} {w:ax} {sl:List (Nat×AV D)} {L:List (Nat×ah)} {ob:List (Nat×Option (AO D))}
 {d:Option Tmp} {ty:aX} {pos:String} {af:Array Edge} {gd:Option (Nat×Bool)} {e:cW D} {l:List Nat}
def et:∀{l:List Nat} {x:Nat},bM l x=ab↔x∈l
 |[],x=>by simp[bM]
 |y::r,x=>by
  simp only[bM,cr];cases hb:aT y x with
  |true=>have:=bA hb;simp[this]
  |false=>
   have bQ:¬x=y:=λe=>by subst e;simp at hb
   simp only[rV,bQ,false_or];exact et
def pj{l:List Nat}{x:Nat}(h:bM l x=false):x∉l:=λhm=>by rw[et.2 hm]at h;cases h
def Er{K M:List Nat}(h:∀x∈K,x∉M):nc K M=ab:=by
 unfold nc;rw[dR];intro x hx;rw[dR];intro y hy;have bQ:x≠y:=λe=>h x hx (e▸hy);cases hb:aT x y with
 |true=>exact(bQ (bA hb)).elim
 |false=>rfl
def anF [Rd](hP:dQ P T)(hR:cE T)(hx:Cx U aq γ w sl L ob){t:aX}{eb:kW}{x u:aZ}{va:ah}{a:AV D}{i n n' t' tc q off u9 b len cap s gx:Nat}{j j':Int}{xs:List (D n')}(ht:aE T.ty t=aa eb)(hv:ev L x=aa (fN b (j.toNat*ad.sz (D n)+off)))
  (hU:U i) (hg:γ.g i= .slice (aa ⟨b,0,none⟩) len cap) (hu:ev L u=aa va) (eY:gF U γ w a va) (ho:dt ob i=aa (.im n' t' tc q xs j' u9 s gx))
  (h:Q.R ob (match a with
    | .c (.one (.yT i' s'))=>if aT i i'&&aT s s'&&aT n n'&&aT off u9&&LC eb then .part (yJ j j') λ_=> .ret ⟨.c (.one .undef),[(i,aa (.cX n' t' tc q xs gx 0))],[]⟩else .fail
    |_=> .fail) l e):
  OW P Qx L ⟨d,.store t x u,ty,pos,af,gd⟩ w (λv w'=>∃γ',dP U aq γ w ob e γ' v w'):=by
 have hT:=(hP.ty t eb ht).1
 have gP:=FA T eb
 split at h
 case h_2=>cases h
 rename_i i' s'
 split at h
 case isFalse=>cases h
 rename_i hc
 simp only[bq]at hc
 obtain⟨⟨⟨⟨c1,c2⟩,c3⟩,c4⟩,c5⟩:=hc
 have c1:=bA c1
 have c2:=bA c2
 have c3:=bA c3
 have c4:=bA c4
 subst c1 c2 c3 c4
 obtain⟨y,hy,h⟩:=h
 have hjj:j=j':=by
  unfold yJ at hy;split at hy
  ·assumption
  ·cases hy
 subst hjj
 obtain⟨_,rfl⟩:=h
 have mA:eb.n T=1:=by
  cases eb with
  |one l=>rfl
  |_=>cases c5
 obtain⟨fy,_,h1,h2,b',aC0,yV,h3,h4⟩:=hx.ob.ob i _ ho
 rw[hg]at h3
 cases h3
 obtain⟨_,_,eY,h1c⟩:=(eY:U i∧U s∧va=γ.g s∧va.oneCell'=ab)
 subst eY
 obtain⟨gg,p,aV,e1,e2,e3,e4,e5,e6⟩:=h4
 cases e1
 have bU:=run_storeCells_at P b (j.toNat*ad.sz (D n)+off) t' [γ.g s] 0 aV w e3 (by simp;omega) (by intro u hu;simp at hu;subst hu;exact e4)
 have hb:=(Dm e2).1
 have b6:bO [i] [] γ.o w γ.o (w.setRow b (sk aV (j.toNat*ad.sz (D n)+off) (γ.g s))):=bO.row _ hb
 have cY:=N3 e4
 refine OW.KS λa ha=>⟨w.setRow b (sk aV (j.toNat*ad.sz (D n)+off) (γ.g s)),?_,?_⟩
 ·have as3:(storeCells ⟨b,j.toNat*ad.sz (D n)+off,none⟩ [γ.g s]).run P w= .ok () (w.setRow b (sk aV (j.toNat*ad.sz (D n)+off) (γ.g s))):=bU;have eK:(γ.g s).cells.size=1:=by rw[cY];rfl
  simp only[fN]at hv;simp[execOp,ha _ _ hv,ha _ _ hu,Instr.storeAt,Instr.sureAddr,storeVar,hT.sizeOf,eK,gP,mA,cY,as3]
 refine⟨_,mkPost (M:=[i]) (N:=[]) (ps:=[]) (g':=γ.g) (v':=γ.v) hx.ob b6 (by simp[fy,hU,cW.wr]) (by simp) (by simp) hx.cI (λ_ _=>rfl) (λ_ _=>rfl) rfl ?_⟩
 intro k z hk kl
 obtain⟨rfl,hz⟩:=nC hk
 cases hz
 refine⟨fy,.inl hU,e6,?_,.inl rfl⟩
 rcases h1 with h1|⟨h1,h5⟩
 ·exact .inl h1
 ·exact .inr ⟨.inl h1,h5⟩
def anD [Rd](hP:dQ P T)(hR:cE T)(hx:Cx U aq γ w sl L ob){t:aX}{eb:kW}{x u:aZ}{vp va:ah}{p:A1 D}{a:AV D}(ht:aE T.ty t=aa eb)(hv:ev L x=aa vp)(hp:fR U γ w p vp)
  (hu:ev L u=aa va) (eY:gF U γ w a va) (h:Q.R ob (ZK T (aq+16) eb a p) l e):
  OW P Qx L ⟨d,.store t x u,ty,pos,af,gd⟩ w (λv w'=>∃γ',dP U aq γ w ob e γ' v w'):=by
 have hT:=(hP.ty t eb ht).1
 have gP:=FA T eb
 cases p with
 |ptr i off=>
  obtain⟨hU,b,hg,rfl⟩:=hp
  obtain⟨ao,l',ho,rfl,h⟩:=h
  cases ao with
  |sl=>exact h.elim
  |cX=>exact h.elim
  |im=>exact h.elim
  |fz=>exact h.elim
  |mp=>exact h.elim
  |box cs=>
   dsimp only at h
   split at h
   case h_2=>exact h.elim
   rename_i us Tv
   split at h
   case isFalse=>exact h.elim
   rename_i hlen
   split at h
   case h_2=>exact h.elim
   rename_i i_ MW
   obtain⟨_,rfl⟩:=h
   obtain⟨fy,_,b',QA,t',h1,h2,h3,h4,h5⟩:=hx.ob.ob i _ ho
   rw[hg]at h1
   obtain⟨rfl,_⟩:=Lp h1
   have bU:us.all storable=ab:=by
    unfold CB at MW;split at MW
    ·rename_i hb;simp only[bq]at hb;exact hb.2
    ·cases MW
   obtain⟨vs,k1,k2,k3⟩:=VY Tv eY bU
   obtain⟨m1,_,m3,m4⟩:=h4.ZR k1 MW
   have atQ:=bA hlen
   refine OW.mono (OW.anE (c:=i) hT hv hu h3 h2 k2 k3 (by rw[gP,<-atQ,k1.length]) m1) ?_
   rintro v w' ⟨rfl,b6,aub⟩
   have hM:∀x∈[i],1000<=x:=by simp[fy]
   have hk:jg U (jt U aq) γ w ⟨λb=>rel [] (γ.o b),γ.g,γ.v⟩ w':=abw b6 hM (by simp) (λ_ _=>rfl) (λ_ _=>rfl)
   refine⟨_,mkPost (M:=[i]) (N:=[]) (ps:=[]) (g':=γ.g) (v':=γ.v) hx.ob b6 (by simp[fy,hU,cW.wr]) (by simp) (by simp) hx.cI (λ_ _=>rfl) (λ_ _=>rfl) rfl ?_⟩
   intro j x hj kl
   obtain⟨rfl,dX⟩:=nC hj
   cases dX
   refine⟨fy,.inl hU,b,_,t',hg,h2,aub,m4.db hk,?_⟩
   rw[m3]
   exact aCr h5 bU _
 |el i n j y off tc tj=>
  obtain⟨hU,hUc,⟨oc,pu,wQ⟩,Tz,b,f,len,cap,hg,rfl⟩:=hp
  obtain⟨ao,l',ho,rfl,h⟩:=h
  cases ao with
  |box=>exact h.elim
  |cX=>exact h.elim
  |fz=>exact h.elim
  |mp=>exact h.elim
  |im n' t' xD q xs j' u9 s gx=>
   obtain⟨_,_,_,_,_,_,_,e0,_⟩:=hx.ob.ob i _ ho
   have e0:=hg.symm.trans e0
   simp only[ah.slice.injEq,fC,Addr.mk.injEq]at e0
   obtain⟨⟨_,rfl,_⟩,_⟩:=e0
   rw[kD]at hv
   exact anF hP hR hx ht hv hU hg hu eY ho h
  |sl n' t' xs K g'=>
   dsimp only at h
   split at h
   case h_2=>exact h.elim
   rename_i us Tv
   split at h
   case isFalse=>exact h.elim
   rename_i sJ
   simp only[bq]at sJ
   obtain⟨⟨hlen,Hl⟩,hle⟩:=sJ
   have hlen:=bA hlen
   have Hl:=bA Hl
   subst Hl
   have hle:=dm hle
   obtain⟨l1,l2,r,_,hr,h⟩:=Q.fU h
   obtain⟨y',gC,h⟩:=h
   dsimp only at h
   split at h
   case h_2=>exact h.elim
   rename_i z hz
   split at h
   case isTrue=>exact h.elim
   rename_i iq
   obtain⟨zs,iW,_,rfl⟩:=h
   obtain⟨fy,_,h1,h2,h3⟩:=hx.ob.ob i _ ho
   obtain⟨vs,k1,k2⟩:=V0 Tv eY
   obtain⟨r1,r2,r3,r4⟩:=C6 hx.ob hr k1
   obtain⟨ds,K1,fz⟩:=r
   dsimp only at*
   have adu:i∉fz:=pj (by simpa using iq)
   have Tt:vs.length=us.length:=k1.length.symm
   have vE:vs.length=ds.length:=r1.length
   have mA:∀u∈vs,u.oneCell'=ab:=by
    have:∀{vs:List ah} {ds:List (DV D)},cm (In γ.o (fz++K1)) w vs ds->∀u∈vs,u.oneCell'=ab:=by
     intro vs;induction vs with
     |nil=>intro ds _ u hu;cases hu
     |cons v vs ih=>
      intro ds h u hu;cases ds with
      |nil=>exact h.elim
      |cons d ds=>
       rcases cr.1 hu with rfl|hu
       ·exact h.1.one
       ·exact ih h.2 u hu
    exact this r1
   have hvc:va.cells=vs.toArray:=by
    rcases k2 with⟨u,rfl,rfl,_⟩|⟨rfl,_⟩
    ·exact N3 (mA va (by simp))
    ·rfl
   have MH:=hR.iU hz
   have Ui:∀i∈fz,1000<=i:=λi hi=>(r3 i hi).1
   have m_:Ow t' γ.o i (fz++K1++K) w (γ.g i) xs:=Ow.tK (λ_ h=>h) (λb hb=>by unfold In at hb⊢;simp[hb]) h1
   have hEP:Fm (γ.g i) (ad.sz (D n)) j ((⟨b,f,none⟩:Addr).add (j.toNat*ad.sz (D n))):=⟨_,len,cap,hg,rfl⟩
   have ue:nc (fz++K1++K) [i]=ab:=Er λx hx=>by
    simp only[List.mem_singleton];rintro rfl;simp only[bz]at hx;rcases hx with(hx|hx)|hx
    ·exact adu hx
    ·have:=r2 _ hx;omega
    ·have:=h2 _ hx;omega
   obtain⟨w',fw,b6,kj⟩:=Ow.put (P:=P) (off:=off) (c':=vs) (y':=z) hEP m_ gC mA (by rw[hR.sz,Tt];exact hle) (λcs iY=>by rw[hR.rd]at iY⊢;rw[MH,vE];refine((iY.take off).append ?_).append (iY.drop _);exact r1.weaken λb hb=>by unfold In at hb⊢;rw[bz];exact .inl hb) ue
   have asz:zs=xs.set j.toNat z:=by
    unfold df at iW;split at iW
    ·cases iW;rfl
    ·cases iW
   subst asz
   have jU:((⟨b,f,none⟩:Addr).add (j.toNat*ad.sz (D n))).add off=⟨b,f+(j.toNat*ad.sz (D n)+off),none⟩:=by rw[jI,jI,qU]
   rw[jU]at fw
   have hM:∀x∈[i],1000<=x:=by simp[fy]
   have pz:∀p∈nO fz,1000<=p.1:=λp hp=>by simp only[nO,dC]at hp;obtain⟨q,hq,rfl⟩:=hp;exact Ui q hq
   refine OW.KS λa ha=>⟨w',?_,?_⟩
   ·simp only[fN]at hv;simp[execOp,ha _ _ hv,ha _ _ hu,Instr.storeAt,Instr.sureAddr,storeVar,hT.sizeOf,hvc,gP,<-hlen,Tt,fw]
   refine⟨_,mkPost (M:=[i]) (N:=[]) (ps:=nO fz) (g':=γ.g) (v':=ga γ.v (aq+16) [⟨.sl n,xs.set j.toNat z⟩]) hx.ob b6 (by simp[fy,hU,cW.wr]) (by simp) ?_ hx.cI (λ_ _=>rfl) (λi hi=>sq hx (by simp) hi) rfl ?_⟩
   ·intro p hp;refine⟨pz p hp,?_,?_⟩<;>simp only[nO,dC]at hp<;>obtain⟨q,hq,rfl⟩:=hp
    ·intro _;simp[cW.wr,hq]
    ·exact .inl rfl
   ·intro k x hk kl;obtain⟨rfl,dX⟩:=nC hk;cases dX;refine⟨fy,.inl hU,Ow.tK (λb hb=>?_) (λb hb=>?_) kj,λx hx=>?_,mr (γ:=γ) (i:=0) rfl (by omega) rfl⟩
    ·show rel (nO fz) (γ.o b)=i;rw[hb,GB.2 adu]
    ·by_cases hK:γ.o b∈K
     ·show rel (nO fz) (γ.o b)∈_;rw[GB.2 λhf=>by have:=Ui _ hf;have:=h2 _ hK;omega]
      simp[hK]
     ·have h5:In γ.o (fz++K1) b:=by
       unfold In at hb⊢;simp only[bz]at hb⊢;rcases hb with hb|hb
       ·exact hb
       ·exact(hK hb).elim
      have h6:=UY r2 r4 Ui b h5;unfold In at h6⊢;simp only[bz];exact .inl h6
    ·rcases bz.1 hx with hx|hx
     ·exact r2 _ hx
     ·exact h2 _ hx
 |_=>exact h.elim
def Cx.nw(hx:Cx U aq γ w sl L ob){b:Nat}(hb:b<w.heap.size){k:Nat}(h1:aq<=k)(h2:k<aq+128):γ.o b≠k:=λe=>hx.fresh k h1 h2 (e▸hx.ob.cl b hb)
def kS(f:Nat->ah)(i:Nat)(v:ah):Nat->ah:=λj=>if j=i then v else f j
def oF(f:Nat->ah)(i:Nat)(v:ah):kS f i v i=v:=by simp[kS]
def ul(hx:Cx U aq γ w sl L ob){v:ah}{i:Nat}(h:U i):kS γ.g aq v i=γ.g i:=by have:i≠aq:=λe=>hx.fresh aq (bw _) (by omega) (e▸h);simp[kS,this]
def oL:jt U aq aq:= .inr ⟨bw _,by omega⟩
def ajm(hx:Cx U aq γ w sl L ob){cs:List (A1 D)}{us:List ah}{b:Nat}{t:aX}{w':ax}(hv:c_ U γ w cs us)(hs:cs.all storable=ab)(hb:w.heap.size<=b)(b6:bO [] [aq] γ.o w (grow γ.o w aq) w')(hc:w'.heap[b]? =aa (.cells us.toArray t (0,0))):
  ∃γ',dP U aq γ w ob ⟨.c (.one (.ptr aq 0)),[(aq,aa (.box cs))],[]⟩ γ' (fN b 0) w':=by
 have hk:jg U (jt U aq) γ w ⟨λb=>rel [] (grow γ.o w aq b),kS γ.g aq (fN b 0),γ.v⟩ w':=abw b6 (by simp) (by simp) (λi hi=>ul hx hi) (λ_ _=>rfl)
 refine⟨_,mkPost (M:=[]) (N:=[aq]) (ps:=[]) (g':=kS γ.g aq (fN b 0)) (v':=γ.v) hx.ob b6 (by simp) (by simp) (by simp) hx.cI (λi hi=>ul hx hi) (λ_ _=>rfl) ⟨oL,b,oF _ _ _,rfl⟩ ?_⟩
 intro j x hj kl
 obtain⟨rfl,dX⟩:=nC hj
 cases dX
 exact⟨hx.cI,oL,b,us,t,oF _ _ _,sN γ.o w aq b hb,hc,hv.db hk,hs⟩
def PT{γ:Gh D}(bQ:∀n,In γ.o [] n->False):∀ls:List Lf,c_ U γ w (wa.By ls:List (A1 D)) (v_ ls)
 |[]=>trivial
 |l::r=>⟨by cases l<;>first|rfl|exact⟨rfl,LP _,lj⟩,PT bQ r⟩
def Yb:∀ls:List Lf,(wa.By ls:List (A1 D)).all storable=ab
 |[]=>rfl
 |l::r=>by simp only[wa.By,List.all_cons,bq];exact⟨by cases l<;>rfl,Yb r⟩
def akK{eb:kW}{cs:List (A1 D)}(h:wa T eb=aa cs):c_ U γ w cs (FB T eb)∧cs.all storable=ab:=by
 unfold wa at h;split at h<;>first
  |(cases h;exact⟨⟨⟨rfl,LP _,lj⟩,trivial⟩,rfl⟩)
  |(cases h;exact⟨⟨rfl,trivial⟩,rfl⟩)
  |(cases h;exact⟨PT (by simp[In]) _,Yb _⟩)
  |cases h
def akL{T:bb D}{eb:kW}(h:eb.agg=false):∃u,FB T eb=[u]∧u.oneCell'=ab:=by
 cases eb with
 |one l=>cases l<;>exact⟨_,rfl,rfl⟩
 |st n=>cases h
 |ptr=>exact⟨_,rfl,rfl⟩
 |fn=>exact⟨_,rfl,rfl⟩
def aCp [Rd](hP:dQ P T)(hx:Cx U aq γ w sl L ob){t:aX}{eb:kW}{cs:List (A1 D)}(ht:aE T.ty t=aa eb)(hz:wa T eb=aa cs):
  OW P Qx L ⟨d,.alloc t,ty,pos,af,gd⟩ w (λv w'=>∃γ',dP U aq γ w ob ⟨.c (.one (.ptr aq 0)),[(aq,aa (.box cs))],[]⟩ γ' v w'):=by
 have hT:=(hP.ty t eb ht).1
 obtain⟨h1,h2⟩:=akK (U:=U) (γ:=γ) (w:=w) hz
 refine OW.mono (OW.aCq (o:=γ.o) aq hT (λh=>akL h)) ?_
 rintro v w' ⟨b,rfl,hb,b6,hc⟩
 exact ajm hx h1 h2 hb b6 hc
def aB8 [Rd](hx:Cx U aq γ w sl L ob){t:aX}{u:aZ}{a:AV D}{va:ah}{cs:List (A1 D)}(hu:ev L u=aa va)(eY:gF U γ w a va)(hc:cellsOf a=aa cs)(hs:cs.all storable=ab):
  OW P Qx L ⟨d,.box t u,ty,pos,af,gd⟩ w (λv w'=>∃γ',dP U aq γ w ob ⟨.c (.one (.ptr aq 0)),[(aq,aa (.box cs))],[]⟩ γ' v w'):=by
 obtain⟨vs,h1,h2,h3⟩:=VY hc eY hs
 refine OW.mono (OW.aB9 (o:=γ.o) aq vs hu h2) ?_
 rintro v w' ⟨b,rfl,hb,b6,hc⟩
 exact ajm hx h1 hs hb b6 hc
