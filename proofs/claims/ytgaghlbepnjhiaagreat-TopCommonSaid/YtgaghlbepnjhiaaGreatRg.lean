import Derived.Test.YtgaghlbepnjhiaaGreatRe
set_option linter.all false
open Bool renaming and_eq_true->bt,true->ab
open Go renaming Operand->ba,TypeId->aX,Value->ai,World->ax
open List renaming all_eq_true->dX,getElem?_drop->wk,getElem?_eq_some_iff->g9,getElem?_take->mq,mem_append->bg,mem_cons->cj,mem_map->dk
open Nat renaming add_assoc->q9,beq->aW,eq_of_beq_eq_true->bA,le_of_ble_eq_true->dw,le_refl->bw,zero_add->ke
open Option renaming some->aa
open Option.some renaming inj->kb,injEq->fK
open Prod.mk renaming injEq->wj
namespace Go.Proofs.YtgaghlbepnjhiaaGreat
open Go Go.RowKit Dp
namespace Rx
section
variable {D:Nat->Type} [∀n,ad (D n)]
variable {P:Program} {T:bc D} {Qx:Exit->Act->ax->Prop} {U:Nat->Prop} {ar:Nat} {γ:Gh D} {w:ax} {sl:List (Nat×AV D)} {L:List (Nat×ai)} {ob:List (Nat×Option (AO D))}
 {d:Option Tmp} {ty:aX} {pos:String} {af:Array Edge} {gd:Option (Nat×Bool)} {e:de D} {l:List Nat}
def dj.length:∀{cs:List (A1 D)} {us:List ai},dj U γ w cs us->cs.length=us.length
 |[],[],_=>rfl
 |c::cs,u::us,h=>by simp[dj.length h.2]
 |[],_::_,h=>h.elim
 |_::_,[],h=>h.elim
def dj.take:∀{cs:List (A1 D)} {us:List ai},dj U γ w cs us->∀k,dj U γ w (cs.take k) (us.take k)
 |_,_,_,0=>by simp[dj]
 |[],[],_,k+1=>trivial
 |c::cs,u::us,h,k+1=>⟨h.1,dj.take h.2 k⟩
 |[],_::_,h,_=>h.elim
 |_::_,[],h,_=>h.elim
def dj.drop:∀{cs:List (A1 D)} {us:List ai},dj U γ w cs us->∀k,dj U γ w (cs.drop k) (us.drop k)
 |_,_,h,0=>by simpa using h
 |[],[],_,k+1=>trivial
 |c::cs,u::us,h,k+1=>by simpa using dj.drop h.2 k
 |[],_::_,h,_=>h.elim
 |_::_,[],h,_=>h.elim
def dj.append:∀{cs:List (A1 D)} {us:List ai} {jm:List (A1 D)} {mV:List ai},dj U γ w cs us->dj U γ w jm mV->dj U γ w (cs++jm) (us++mV)
 |[],[],_,_,_,h=>h
 |c::cs,u::us,_,_,h,h'=>⟨h.1,dj.append h.2 h'⟩
 |[],_::_,_,_,h,_=>h.elim
 |_::_,[],_,_,h,_=>h.elim
def fY.one:∀{a:A1 D} {u:ai},fY U γ w a u->storable a=ab->u.oneCell'=ab
 | .v l d K t,u,h,_=>h.1.one
 | .ptr i off,u,⟨_,b,_,h⟩,_=>by subst h;rfl
 | .el ..,u,⟨_,_,_,_,b,f,len,cap,_,h⟩,_=>by subst h;rfl
 | .rp ..,u,⟨pa,h,_⟩,_=>by subst h;rfl
 | .vb n xs K t b,u,h,_=>dI.one (d:=⟨.sl n,xs⟩) h.1.1
 | .own i,u,⟨_,_,h⟩,_=>h
 | .fn f jo,u,⟨cs,h,_⟩,_=>by subst h;exact axy _ _
 | .ch ..,u,_,h=>by cases h
 | .zh ..,u,_,h=>by cases h
 | .tail ..,u,_,h=>by cases h
 | .pre ..,u,_,h=>by cases h
 | .tt ..,u,_,h=>by cases h
 | .bH,u,h,_=>by have h:u= .slice none 0 0:=h;subst h;rfl
 | .sF,u,h,_=>by have h:u= .pointer none:=h;subst h;rfl
 | .DM,u,h,_=>by have h:u= .nilFunc:=h;subst h;rfl
 | .undef,u,_,h=>by cases h
 | .zS,u,_,h=>by cases h
 | .wU,u,h,_=>h
def dj.Td:∀{cs:List (A1 D)} {us:List ai},dj U γ w cs us->cs.all storable=ab->∀u∈us,u.oneCell'=ab
 |[],[],_,_,u,hu=>by cases hu
 |c::cs,v::us,h,hs,u,hu=>by
  simp only[List.all_cons,bt]at hs;rcases cj.1 hu with rfl|hu
  ·exact h.1.one hs.1
  ·exact dj.Td h.2 hs.2 u hu
 |[],_::_,h,_,_,_=>h.elim
 |_::_,[],h,_,_,_=>h.elim
def OQ{ty:lc}{cs:List (A1 D)}{us:List ai}{off:Nat}{a:AV D}(h:dj U γ w cs us)(hc:ze ty T cs off=aa a):off+ty.n T<=us.length∧gW U γ w a (pack ty.agg ((us.drop off).take (ty.n T))):=by
 unfold ze at hc;split at hc
 case isFalse=>cases hc
 rename_i hle;have aef:=dw hle;rw[h.length]at aef;refine⟨aef,?_⟩;have h2:=(h.drop off).take (ty.n T);unfold vq at hc;cases hg:ty.agg with
 |true=>simp only[hg,aH,fK]at hc;subst hc;exact⟨_,rfl,h2⟩
 |false=>
  simp only[hg,Bool.false_eq_true,aB]at hc;split at hc
  ·rename_i b hb;cases hc;rw[hb]at h2;generalize (us.drop off).take (ty.n T)=mV at h2;match mV,h2 with
   |[u],h2=>exact h2.1
  ·cases hc
def WW{cs:List ai}{b:Nat}{t:aX}(h:w.heap[b]? =aa (.cells cs.toArray t (0,0)))(off n:Nat):j_ w ⟨b,off,none⟩ ((cs.drop off).take n):=by
 intro j u hu;rw[mq]at hu;split at hu
 case isFalse=>cases hu
 rw[wk]at hu;have jX:(⟨b,off,none⟩:Addr).add j=⟨b,off+j,none⟩:=by unfold Addr.add;split<;>simp_all
 rw[jX,cell_of_row w b (off+j) cs.toArray t (0,0) h];simpa using hu
def j_.cut{pa:Addr}{cs:List ai}(h:j_ w pa cs)(off n:Nat):j_ w (pa.add off) ((cs.drop off).take n):=by
 intro j u hu;rw[mq]at hu;split at hu
 case isFalse=>cases hu
 rw[wk]at hu;rw[Fw];exact h _ _ hu
def I6{γ':Gh D}{K:List Nat}(hK:eo K):∀{ds:List (DV D)} {us:List ai} {g:Nat},cz (In γ'.o K) w us ds->(∀i x,ds[i]? =aa x->named U γ' (g+i) x)->dj U γ' w (cellsD K g ds) us
 |[],[],g,_,_=>trivial
 |⟨lf,x⟩::ds,u::us,g,h,hn=>by
  refine⟨⟨?_,hn 0 _ rfl,?_⟩,I6 hK h.2 λi x hi=>?_⟩
  ·cases lf with
   |sl n=>exact h.1
   |int k=>exact h.1
   |bool=>exact h.1
   |str=>exact h.1
  ·cases lf with
   |sl n=>exact hK
   |int k=>exact lz
   |bool=>exact lz
   |str=>exact lz
  ·have:=hn (i+1) x (by simpa using hi);rwa[show g+(i+1)=g+1+i from by omega]at this
 |[],_::_,_,h,_=>h.elim
 |_::_,[],_,h,_=>h.elim
def fJ.at{n:Nat}{S:Nat->Prop}{v:ai}{xs:List (D n)}{y:D n}{j:Int}{b f len cap:Nat}(h:fJ S w v xs)(hv:v= .slice (aa ⟨b,f,none⟩) len cap)(hj:idx xs j=aa y):
  ∃cs,ad.rd S w cs y∧j_ w ⟨b,f+j.toNat*ad.sz (D n),none⟩ cs:=by
 obtain⟨p,zi,rfl,h⟩:=h
 unfold idx at hj
 split at hj
 case isFalse=>cases hj
 rcases h with h|⟨a,aJ,rfl,h1,h2⟩
 ·subst h;simp at hj
 ·have ha:a=⟨b,f,none⟩:=by
   have:=iF (λv=>match v with|Value.slice (aa a) _ _=>a|_=>(⟨0,0,none⟩:Addr)) hv;simpa using this
  subst ha;obtain⟨c,jD,kz⟩:=h1.get hj;refine⟨c,kz,λm u hu=>?_⟩;have:=h2 _ _ (N4 h1.pu jD hu);rw[jR,q9,<-jR];exact this
def Mh{b b' o o':Nat}(h:fT b o=fT b' o'):b=b'∧o=o':=by unfold fT at h;cases h;exact⟨rfl,rfl⟩
def yZ(f:Nat->ai)(i:Nat)(v:ai):Nat->ai:=λj=>if j=i then v else f j
def C1(f:Nat->DV D)(i:Nat)(v:DV D):Nat->DV D:=λj=>if j=i then v else f j
def asE [Rd](hP:ef P T)(hR:cK T)(hx:Cx U ar γ w sl L ob){t:aX}{eh:lc}{x:ba}{i n n' t' tc q off b len cap g' h0:Nat}{j:Int}{xs:List (D n')}(ht:aF T.ty t=aa eh)(hv:ev L x=aa (fT b (j.toNat*ad.sz (D n)+off)))
  (hU:U i) (hg:γ.g i= .slice (aa ⟨b,0,none⟩) len cap) (ho:dC ob i=aa (.df n' t' tc q xs g' h0))
  (h:Q.R ob (if aW n n'&&Mt eh then .part (idx xs j) λy=>match(T.out n' y)[off]? with
     |some x=>TI i n' j off t' tc q xs g' h0 (ar+16) x
     |none=> .fail
    else .fail) l e):
  OW P Qx L ⟨d,.load t x,ty,pos,af,gd⟩ w (λv w'=>∃γ',dW U ar γ w ob e γ' v w'):=by
 have hT:=(hP.ty t eh ht).1
 have hz:=QM T eh
 have ie:=F_ T eh
 split at h
 case isFalse=>exact h.elim
 rename_i hc
 simp only[bt]at hc
 have hn:=bA hc.1
 subst hn
 obtain⟨y,hy,h⟩:=h
 dsimp only at h
 split at h
 case h_2=>exact h.elim
 rename_i lx US
 obtain⟨fF,_,h1,h2,h3⟩:=hx.ob.ob i _ ho
 obtain⟨cs,k1,k2⟩:=fJ.at h1.ow.dp hg hy
 rw[ke]at k2
 rw[hR.rd]at k1
 obtain⟨u,k3,k4⟩:=cz.at k1 US
 have aS:=(g9.1 k3).1
 have mI:eh.n T=1∧eh.agg=false:=by
  cases eh with
  |one l=>exact⟨rfl,rfl⟩
  |_=>cases hc.2
 have NF:j_ w ⟨b,j.toNat*ad.sz (D n)+off,none⟩ [u]:=by
  have:=j_.cut k2 off 1;have jX:(⟨b,j.toNat*ad.sz (D n),none⟩:Addr).add off=⟨b,j.toNat*ad.sz (D n)+off,none⟩:=by unfold Addr.add;split<;>simp_all
  rw[jX]at this;have e1:(cs.drop off).take 1=[u]:=by rw[List.drop_eq_getElem_cons aS];simp only[List.take_succ_cons,List.take_zero];rw[List.getElem?_eq_getElem aS]at k3;rw[kb k3]
  rwa[e1]at this
 have ul:w.cell? ⟨b,j.toNat*ad.sz (D n)+off,none⟩=aa u:=by have:=NF 0 u rfl;rwa[add_zero']at this
 obtain⟨aU,c1,c2⟩:=Vm h1 hg
 have Vr:aU[j.toNat*ad.sz (D n)+off]? =aa u:=by rw[cell_of_row w b _ aU t' (0,0) c2]at ul;exact ul
 have H0:OW P Qx L ⟨d,.load t x,ty,pos,af,gd⟩ w (λv' w'=>v'=u∧w'=w):=by have:=OW.MY (P:=P) (Qx:=Qx) (L:=L) (w:=w) (d:=d) (ty:=ty) (pos:=pos) (af:=af) (g:=gd) hT hz hv NF (by rw[ie,mI.1];rfl);refine OW.mono this ?_;rintro v' w' ⟨rfl,rfl⟩;rw[mI.2];exact⟨rfl,rfl⟩
 obtain⟨lf,dd⟩:=lx
 cases lf with
 |int k=>
  obtain⟨_,rfl⟩:=h
  exact du H0 (er hx k4)
 |bool=>
  obtain⟨_,rfl⟩:=h
  exact du H0 (er hx k4)
 |str=>
  obtain⟨_,rfl⟩:=h
  exact du H0 (er hx k4)
 |sl m=>
  dsimp only[TI]at h
  split at h
  case isFalse=>exact h.elim
  rename_i UP
  have UP:=bA UP
  subst UP
  have sK:∀(S:Nat->Prop) (w:ax) (cs:List ai),ad.rd S w cs y->∃u,cs[off]? =aa u∧Rv S w u (dd:List (D m)):=λS w cs hr=>by rw[hR.rd]at hr;exact cz.at hr US
  have nh:∃p c,u= .slice p (dd:List (D m)).length c:=by obtain⟨p,c,e1,_⟩:=u9 (k4:Rv _ w u (dd:List (D m)));exact⟨p,c,e1⟩
  split at h
  ·rename_i Bp;have Bp:=bA Bp;obtain⟨_,rfl⟩:=h;refine OW.mono H0 ?_;rintro v' w' ⟨rfl,rfl⟩;have hf:¬U (ar+17):=hx.fresh _ (by omega) (by omega);have NA:∀k,U k->yZ γ.g (ar+17) (.agg aU) k=γ.g k:=λk hk=>by have bM:k≠ar+17:=λe=>hf (by rw[<-e];exact hk);unfold yZ;rw[aK bM]
   have hv':∀k,U k->C1 γ.v (ar+17) ⟨.sl n,xs⟩ k=γ.v k:=λk hk=>by have bM:k≠ar+17:=λe=>hf (by rw[<-e];exact hk);unfold C1;rw[aK bM]
   have e1:yZ γ.g (ar+17) (.agg aU) (ar+17)= .agg aU:=by simp[yZ]
   have e2:C1 γ.v (ar+17) (⟨.sl n,xs⟩:DV D) (ar+17)=⟨.sl n,xs⟩:=by simp[C1]
   have Es:jG U ar (ar+17):= .inr ⟨by omega,by omega⟩;refine⟨_,mkPost (M:=[]) (N:=[]) (ps:=[]) (g':=yZ γ.g (ar+17) (.agg aU)) (v':=C1 γ.v (ar+17) ⟨.sl n,xs⟩) hx.ob (bJ.refl _ _ _ _) (by simp) (by simp) (by simp) hx.cO NA hv' ⟨.inl hU,⟨by omega,Es⟩,⟨xs,y,e2,hy,sK⟩,⟨b,len,cap,aU,by rw[<-hg];exact NA i hU,e1,Vr⟩,nh⟩ ?_⟩;intro k z hk ky;obtain⟨rfl,oH⟩:=nN hk;cases oH;refine⟨fF,.inl hU,?_,?_,.inr ⟨Es,e2,aU,e1,λb' n' c' p e=>?_⟩⟩
   ·show iM _ _ _ (lE γ.o i (yZ γ.g (ar+17) (.agg aU) i)) 0 1 w' (yZ γ.g (ar+17) (.agg aU) i) xs;rw[NA i hU];exact h1
   ·rcases h2 with h2|⟨h2,h4⟩
    ·exact .inl h2
    ·exact .inr ⟨.inl h2,by show C1 γ.v (ar+17) _ g'=_;rw[hv' g' h2];exact h4⟩
   ·have e:yZ γ.g (ar+17) (.agg aU) i= .slice (aa ⟨b',0,none⟩) n' c':=e;rw[NA i hU,hg]at e;cases e;exact cell_of_row w' b p aU t' (0,0) c2
  ·rename_i Bp;have Bp:h0≠0:=λe=>Bp (by rw[e];rfl);obtain⟨_,rfl⟩:=h;rcases h3 with h3|⟨h3,h4,cells,h5,h6⟩
   ·exact(Bp h3).elim
   refine du H0 (pz hx ⟨hU,⟨Bp,h3⟩,⟨xs,y,h4,hy,sK⟩,⟨b,len,cap,cells,hg,h5,?_⟩,nh⟩);rw[<-h6 b len cap _ hg];exact ul
def asC [Rd](hP:ef P T)(hR:cK T)(hx:Cx U ar γ w sl L ob){t:aX}{eh:lc}{x:ba}{vp:ai}{p:A1 D}(ht:aF T.ty t=aa eh)(hv:ev L x=aa vp)(hp:fY U γ w p vp)(h:Q.R ob (TH T (ar+16) eh p) l e):
  OW P Qx L ⟨d,.load t x,ty,pos,af,gd⟩ w (λv w'=>∃γ',dW U ar γ w ob e γ' v w'):=by
 have hT:=(hP.ty t eh ht).1
 have hz:=QM T eh
 have ie:=F_ T eh
 cases p with
 |ptr i off=>
  obtain⟨hU,b,hg,rfl⟩:=hp
  obtain⟨ao,l',ho,rfl,h⟩:=h
  cases ao with
  |sl=>exact h.elim
  |df=>exact h.elim
  |iH=>exact h.elim
  |fz=>exact h.elim
  |mp=>exact h.elim
  |box cs=>
   dsimp only at h
   split at h
   case h_2=>exact h.elim
   rename_i a ha
   obtain⟨_,rfl⟩:=h
   obtain⟨_,_,b',us,t',h1,h2,h3,h4,h5⟩:=hx.ob.ob i _ ho
   rw[hg]at h1
   obtain⟨rfl,_⟩:=Mh h1
   obtain⟨h6,h7⟩:=OQ h4 ha
   refine du (OW.MY hT hz hv (WW h3 off (eh.n T)) ?_) (pz hx h7)
   rw[ie]
   simp
   omega
 |rp n y off K=>
  obtain⟨pa,rfl,⟨cs,h1,h2,h3⟩,hK⟩:=hp
  dsimp only[TH]at h
  split at h
  case h_2=>exact h.elim
  rename_i a ha
  obtain⟨_,rfl⟩:=h
  have h4:=(hR.rd n _ _ _ _).1 h1
  have UX:(T.out n y).length<=112:=by rw[Mp];exact hR.uv n
  have h5:dj (jG U ar) ⟨γ.o,γ.g,gm γ.v (ar+16) (T.out n y)⟩ w (cellsD K (ar+16) (T.out n y)) cs:=
   I6 hK h4 λi x hi=>mD rfl (by have:=(g9.1 hi).1;omega) hi
  obtain⟨h6,h7⟩:=OQ h5 ha
  refine du (OW.MY hT hz hv (j_.cut h3 off (eh.n T)) ?_) (Au hx _ UX h7)
  rw[ie]
  simp
  omega
 |el i n j y off tc tj=>
  obtain⟨hU,hUc,⟨oo,pF,wZ⟩,Up,b,f,len,cap,hg,rfl⟩:=hp
  obtain⟨ao,l',ho,rfl,h⟩:=h
  cases ao with
  |box=>exact h.elim
  |iH=>exact h.elim
  |fz=>exact h.elim
  |mp=>exact h.elim
  |df n' t' xX q xs g' h0=>
   obtain rfl:=iM.f0 (hx.ob.ob i _ ho).2.2.1 hg
   rw[ke]at hv
   exact asE hP hR hx ht hv hU hg ho h
  |sl n' t' xs K g'=>
   dsimp only at h
   obtain⟨_,_,h1,h2,h3⟩:=hx.ob.ob i _ ho
   have avM:=h1.dp
   have key:∀{y':D n'} {a:AV D},ad.sz (D n)=ad.sz (D n')->idx xs j=aa y'->ze eh T (cellsD K (ar+16) (T.out n' y')) off=aa a->e=⟨a,[],[]⟩->
     OW P Qx L ⟨d,.load t x,ty,pos,af,gd⟩ w (λv w'=>∃γ',dW U ar γ w ob e γ' v w'):=by
    rintro y' a eQ gp ha rfl
    obtain⟨cs,h4,h5⟩:=fJ.at avM hg gp
    have h6:=(hR.rd n' _ _ _ _).1 h4
    have UX:(T.out n' y').length<=112:=by rw[Mp];exact hR.uv n'
    have h7:dj (jG U ar) ⟨γ.o,γ.g,gm γ.v (ar+16) (T.out n' y')⟩ w (cellsD K (ar+16) (T.out n' y')) cs:=
     I6 h2 h6 λi x hi=>mD rfl (by have:=(g9.1 hi).1;omega) hi
    obtain⟨h8,h9⟩:=OQ h7 ha
    have hc:=j_.cut h5 off (eh.n T)
    have jX:(⟨b,f+j.toNat*ad.sz (D n'),none⟩:Addr).add off=⟨b,f+(j.toNat*ad.sz (D n)+off),none⟩:=by rw[eQ,jR,q9]
    rw[jX]at hc
    refine du (OW.MY hT hz hv hc ?_) (Au hx _ UX h9)
    rw[ie]
    simp
    omega
   split at h
   ·rename_i Vb;have Vb:=bA Vb;subst Vb;split at h
    case h_2=>exact h.elim
    rename_i a ha;obtain⟨_,rfl⟩:=h;rcases h3 with h3|⟨_,h3⟩
    ·exact(hUc.1 h3).elim
    ·rw[pF]at h3;cases h3;exact key rfl wZ ha rfl
   ·split at h
    ·rename_i hn;have hn:=bA hn;subst hn;obtain⟨y',gp,h⟩:=h;dsimp only at h;split at h
     case h_2=>exact h.elim
     rename_i a ha;obtain⟨_,rfl⟩:=h;exact key rfl gp ha rfl
    ·exact h.elim
 |_=>exact h.elim
def Ow.tM{n:Nat}{t:aX}{o o':cE}{k k':Nat}{K K':List Nat}{v:ai}{xs:List (D n)}(hk:∀b,o b=k->o' b=k')(hK:∀b,In o K b->In o' K' b)(h:Ow t o k K w v xs):Ow t o' k' K' w v xs:=by
 rcases h with h|⟨g,f,cap,aU,aJ,e1,e2,e3,e4,e5,e6,e7,e8⟩
 ·exact .inl h
 ·exact .inr ⟨g,f,cap,aU,aJ,e1,hk _ e2,e3,e4,e5,e6,e7.mono λ_ _=>ad.mono λb hb _=>⟨hK b hb,rfl⟩,e8⟩
def nX(fz:List Nat):List (Nat×Nat):=fz.map λi=>(i,1)
def Ha{fz:List Nat}{x:Nat}:(x∈fz->rel (nX fz) x=1)∧(x∉fz->rel (nX fz) x=x):=by
 unfold rel;constructor
 ·intro h;split
  ·rename_i y hy;have:=dS hy;simp only[nX,dk]at this;obtain⟨_,_,h2⟩:=this;cases h2;rfl
  ·rename_i hn;exact(yA hn 1 (by simp only[nX,dk];exact⟨x,h,rfl⟩)).elim
 ·intro h;split
  ·rename_i y hy;have:=dS hy;simp only[nX,dk]at this;obtain⟨z,hz,h2⟩:=this;cases h2;exact(h hz).elim
  ·rfl
def dI.weaken{S S':Nat->Prop}{v:ai}{x:DV D}(hm:∀b,S b->S' b)(h:dI S w v x):dI S' w v x:=h.mono λb hb _=>⟨hm b hb,rfl⟩
def cz.weaken{S S':Nat->Prop}{vs:List ai}{xs:List (DV D)}(hm:∀b,S b->S' b)(h:cz S w vs xs):cz S' w vs xs:=h.mono λb hb _=>⟨hm b hb,rfl⟩
def X4{j:Nat}{ao:AO D}{d:DV D}{K:List Nat}(h:OR U γ w j ao)(e:B7 ao=aa (d,K)):dI (In γ.o (j::K)) w (γ.g j) d∧eo K:=by
 cases ao with
 |sl n t xs K' g=>simp only[B7,fK,wj]at e;obtain⟨rfl,rfl⟩:=e;exact⟨h.1.rv,h.2.1⟩
 |df n t tc q xs g ht=>
  simp only[B7,fK,wj]at e;obtain⟨rfl,rfl⟩:=e;refine⟨Rv.weaken (λb hb=>?_) h.1.rv,lz⟩;unfold In at hb⊢;simp only[cj,List.not_mem_nil,kF]at hb⊢;rcases hb with hb|hb
  ·exact(DU hb).1
  ·exact(DT hb).1
 |box=>cases e
 |iH=>cases e
 |fz=>cases e
 |mp=>cases e
def akF{j:Nat}{ao:AO D}{d:DV D}{K:List Nat}(h:OR U γ w j ao)(e:PS ao=aa (d,K)):dI (In γ.o K) w (γ.g j) d∧eo K:=by
 cases ao with
 |fz n xs K'=>simp only[PS,fK,wj]at e;obtain⟨rfl,rfl⟩:=e;exact h
 |_=>cases e
def DC(bK:OB U γ w ob):∀{as:List (A1 D)} {ls:List Lf} {us:List ai} {l:List Nat} {r:List (DV D)×List Nat×List Nat},Q.R ob (vi ls as) l r->dj U γ w as us->
  cz (In γ.o (r.2.2++r.2.1)) w us r.1∧eo r.2.1∧(∀i∈r.2.2,1000<=i∧U i)∧(r.2.2≠[]->1∈r.2.1)
 |[],ls,us,l,r,h,hv=>by
  simp only[vi]at h;obtain⟨_,rfl⟩:=h;cases us with
  |nil=>exact⟨trivial,lz,by simp,λh=>(h rfl).elim⟩
  |cons _ _=>exact hv.elim
 |a::as,ls,us,l,r,h,hv=>by
  cases us with
  |nil=>exact hv.elim
  |cons u us=>
  cases ls with
  |nil=>simp only[vi]at h;exact h.elim
  |cons lf ls=>
   simp only[vi]at h;cases a with
   |v l' x K g=>
    obtain⟨l1,l2,r',_,h1,h2⟩:=Q.ga h;obtain⟨_,rfl⟩:=h2;obtain⟨i1,i2,i3,i4⟩:=DC bK h1 hv.2;obtain⟨j1,_,j3⟩:=hv.1;refine⟨⟨j1.weaken λb hb=>?_,i1.weaken λb hb=>?_⟩,?_,i3,λh=>?_⟩
    ·simp only[In,bg]at hb⊢;exact .inr (.inl hb)
    ·simp only[In,bg]at hb⊢;rcases hb with hb|hb;exact .inl hb;exact .inr (.inr hb)
    ·intro x hx;rcases bg.1 hx with hx|hx;exact j3 x hx;exact i2 x hx
    ·exact bg.2 (.inr (i4 h))
   |bH=>
    dsimp only at h;split at h
    ·rename_i n;obtain⟨l1,l2,r',_,h1,h2⟩:=Q.ga h;obtain⟨_,rfl⟩:=h2;obtain⟨i1,i2,i3,i4⟩:=DC bK h1 hv.2;have hu:u= .slice none 0 0:=hv.1;subst hu;exact⟨⟨Dt _ _,i1⟩,i2,i3,i4⟩
    ·exact h.elim
   |own j=>
    obtain⟨ao,l',ho,rfl,h⟩:=h;dsimp only at h;split at h
    ·rename_i dv K Bq;obtain⟨l1,l2,r',_,h1,h2⟩:=Q.ga h;obtain⟨_,rfl⟩:=h2;obtain⟨i1,i2,i3,i4⟩:=DC bK h1 hv.2;obtain⟨_,_,k0⟩:=bK.ob j _ ho;obtain⟨j1,j3⟩:=akF k0 Bq;obtain⟨_,rfl,_⟩:=hv.1;refine⟨⟨j1.weaken λb hb=>?_,i1.weaken λb hb=>?_⟩,?_,i3,λh=>?_⟩
     ·simp only[In,bg]at hb⊢;exact .inr (.inl hb)
     ·simp only[In,bg]at hb⊢;rcases hb with hb|hb;exact .inl hb;exact .inr (.inr hb)
     ·intro x hx;rcases bg.1 hx with hx|hx;exact j3 x hx;exact i2 x hx
     ·exact bg.2 (.inr (i4 h))
    split at h
    case h_2=>exact h.elim
    rename_i dv K Bq;obtain⟨l1,l2,r',_,h1,h2⟩:=Q.ga h;obtain⟨_,rfl⟩:=h2;obtain⟨i1,i2,i3,i4⟩:=DC bK h1 hv.2;obtain⟨k1,k2,k0⟩:=bK.ob j _ ho;obtain⟨k3,k4⟩:=X4 k0 Bq;obtain⟨_,rfl,_⟩:=hv.1;refine⟨⟨?_,i1.weaken λb hb=>?_⟩,?_,?_,λ_=>by simp⟩
    ·refine dI.weaken (λb hb=>?_) k3;unfold In at hb⊢;rcases cj.1 hb with hb|hb<;>simp[hb]
    ·unfold In at hb⊢;rcases bg.1 hb with hb|hb<;>simp[hb]
    ·intro x hx;simp only[List.cons_append,cj,bg]at hx;rcases hx with rfl|hx|hx
     ·omega
     ·exact k4 x hx
     ·exact i2 x hx
    ·intro i hi;simp only[cj]at hi;rcases hi with rfl|hi
     ·exact⟨k1,k2⟩
     ·exact i3 i hi
   |_=>exact h.elim
def VU{fz K:List Nat}{o:cE}(hK:eo K)(h1:fz≠[]->1∈K)(hf:∀i∈fz,1000<=i):∀b,In o (fz++K) b->In (λb=>rel (nX fz) (o b)) K b:=by
 intro b hb;simp only[In,bg]at hb⊢;by_cases h:o b∈fz
 ·rw[Ha.1 h];exact h1 (List.ne_nil_of_mem h)
 ·rw[Ha.2 h];exact hb.resolve_left h
def dj.aaL{cs mV:List (A1 D)}{us vs:List ai}{off:Nat}{jm:List (A1 D)}(h:dj U γ w cs us)(h':dj U γ w mV vs)(hc:C6 cs mV off=aa jm):
  off+vs.length<=us.length∧mV.all storable=ab∧jm=cs.take off++mV++cs.drop (off+mV.length)∧dj U γ w jm (us.take off++vs++us.drop (off+vs.length)):=by
 unfold C6 at hc
 split at hc
 case isFalse=>cases hc
 rename_i hb
 simp only[bt]at hb
 have hle:=dw hb.1
 cases hc
 rw[h.length,h'.length]at hle
 refine⟨hle,hb.2,rfl,?_⟩
 rw[h'.length]
 exact((h.take off).append h').append (h.drop _)
def aDX{cs mV:List (A1 D)}{off:Nat}(h:cs.all storable=ab)(h':mV.all storable=ab)(k:Nat):(cs.take off++mV++cs.drop k).all storable=ab:=by
 simp only[List.all_append,bt];refine⟨⟨?_,h'⟩,?_⟩
 ·exact dX.2 λx hx=>dX.1 h x (List.mem_of_mem_take hx)
 ·exact dX.2 λx hx=>dX.1 h x (List.mem_of_mem_drop hx)
def WX{a:AV D}{us:List (A1 D)}{v:ai}(h:cellsOf a=aa us)(hv:gW U γ w a v):∃vs,dj U γ w us vs∧((∃u,vs=[u]∧v=u∧∃b,a= .c (.one b))∨v= .agg vs.toArray∧∃b,a= .c (.agg b)):=by
 unfold cellsOf at h;split at h
 ·cases h;exact⟨[v],⟨hv,trivial⟩,.inl ⟨v,rfl,rfl,_,rfl⟩⟩
 ·cases h;obtain⟨vs,rfl,h2⟩:=hv;exact⟨vs,h2,.inr ⟨rfl,_,rfl⟩⟩
 ·cases h
def WV{a:AV D}{us:List (A1 D)}{v:ai}(h:cellsOf a=aa us)(hv:gW U γ w a v)(hs:us.all storable=ab):∃vs,dj U γ w us vs∧v.cells=vs.toArray∧∀u∈vs,u.oneCell'=ab:=by
 obtain⟨vs,h1,h2⟩:=WX h hv;refine⟨vs,h1,?_,h1.Td hs⟩;rcases h2 with⟨u,rfl,rfl,_⟩|⟨rfl,_⟩
 ·exact O4 (h1.Td hs v (by simp))
 ·rfl
end
end Rx
end Go.Proofs.YtgaghlbepnjhiaaGreat
namespace Go.Proofs.YtgaghlbepnjhiaaGreat
open Go Go.RowKit Dp
namespace Rx
section
variable {D:Nat->Type} [∀n,ad (D n)]
variable {P:Program} {T:bc D} {Qx:Exit->Act->ax->Prop} {U:Nat->Prop} {ar:Nat} {γ:Gh D} {w:ax} {sl:List (Nat×AV D)} {L:List (Nat×ai)} {ob:List (Nat×Option (AO D))}
 {d:Option Tmp} {ty:aX} {pos:String} {af:Array Edge} {gd:Option (Nat×Bool)} {e:de D} {l:List Nat}
def eA:∀{l:List Nat} {x:Nat},bP l x=ab↔x∈l
 |[],x=>by simp[bP]
 |y::r,x=>by
  simp only[bP,cj];cases hb:aW y x with
  |true=>have:=bA hb;simp[this]
  |false=>
   have bM:¬x=y:=λe=>by subst e;simp at hb
   simp only[sd,bM,false_or];exact eA
def pC{l:List Nat}{x:Nat}(h:bP l x=false):x∉l:=λhm=>by rw[eA.2 hm]at h;cases h
def EU{K M:List Nat}(h:∀x∈K,x∉M):j7 K M=ab:=by
 unfold j7;rw[dX];intro x hx;rw[dX];intro y hy;have bM:x≠y:=λe=>h x hx (e▸hy);cases hb:aW x y with
 |true=>exact(bM (bA hb)).elim
 |false=>rfl
def aoT [Rd](hP:ef P T)(hR:cK T)(hx:Cx U ar γ w sl L ob){t:aX}{eh:lc}{x u:ba}{va:ai}{a:AV D}{i n n' t' tc q off vr b len cap s gx:Nat}{j j':Int}{xs:List (D n')}(ht:aF T.ty t=aa eh)(hv:ev L x=aa (fT b (j.toNat*ad.sz (D n)+off)))
  (hU:U i) (hg:γ.g i= .slice (aa ⟨b,0,none⟩) len cap) (hu:ev L u=aa va) (fc:gW U γ w a va) (ho:dC ob i=aa (.iH n' t' tc q xs j' vr s gx))
  (h:Q.R ob (match a with
    | .c (.one (.zh i' s'))=>if aW i i'&&aW s s'&&aW n n'&&aW off vr&&Mt eh then .part (y7 j j') λ_=> .ret ⟨.c (.one .undef),[(i,aa (.df n' t' tc q xs gx 0))],[]⟩else .fail
    |_=> .fail) l e):
  OW P Qx L ⟨d,.store t x u,ty,pos,af,gd⟩ w (λv w'=>∃γ',dW U ar γ w ob e γ' v w'):=by
 have hT:=(hP.ty t eh ht).1
 have ie:=F_ T eh
 split at h
 case h_2=>cases h
 rename_i i' s'
 split at h
 case isFalse=>cases h
 rename_i hc
 simp only[bt]at hc
 obtain⟨⟨⟨⟨c1,c2⟩,c3⟩,c4⟩,c5⟩:=hc
 have c1:=bA c1
 have c2:=bA c2
 have c3:=bA c3
 have c4:=bA c4
 subst c1 c2 c3 c4
 obtain⟨y,hy,h⟩:=h
 have hjj:j=j':=by
  unfold y7 at hy;split at hy
  ·assumption
  ·cases hy
 subst hjj
 obtain⟨_,rfl⟩:=h
 have mI:eh.n T=1:=by
  cases eh with
  |one l=>rfl
  |_=>cases c5
 obtain⟨fF,_,h1,h2,b',aEv,zi,h3,h4⟩:=hx.ob.ob i _ ho
 rw[hg]at h3
 cases h3
 obtain⟨_,_,fc,h1c⟩:=(fc:U i∧U s∧va=γ.g s∧va.oneCell'=ab)
 subst fc
 obtain⟨gg,p,aU,e1,e2,e3,e4,e5,e6⟩:=h4
 cases e1
 have b6:=run_storeCells_at P b (j.toNat*ad.sz (D n)+off) t' [γ.g s] 0 aU w e3 (by simp;omega) (by intro u hu;simp at hu;subst hu;exact e4)
 have hb:=(DU e2).1
 have b8:bJ [i] [] γ.o w γ.o (w.setRow b (sw aU (j.toNat*ad.sz (D n)+off) (γ.g s))):=bJ.row _ hb
 have dh:=O4 e4
 refine OW.LP λa ha=>⟨w.setRow b (sw aU (j.toNat*ad.sz (D n)+off) (γ.g s)),?_,?_⟩
 ·have aul:(storeCells ⟨b,j.toNat*ad.sz (D n)+off,none⟩ [γ.g s]).run P w= .ok () (w.setRow b (sw aU (j.toNat*ad.sz (D n)+off) (γ.g s))):=b6;have eQ:(γ.g s).cells.size=1:=by rw[dh];rfl
  simp only[fT]at hv;simp[execOp,ha _ _ hv,ha _ _ hu,Instr.storeAt,Instr.sureAddr,storeVar,hT.sizeOf,eQ,ie,mI,dh,aul]
 refine⟨_,mkPost (M:=[i]) (N:=[]) (ps:=[]) (g':=γ.g) (v':=γ.v) hx.ob b8 (by simp[fF,hU,de.wr]) (by simp) (by simp) hx.cO (λ_ _=>rfl) (λ_ _=>rfl) rfl ?_⟩
 intro k z hk ky
 obtain⟨rfl,hz⟩:=nN hk
 cases hz
 refine⟨fF,.inl hU,e6,?_,.inl rfl⟩
 rcases h1 with h1|⟨h1,h5⟩
 ·exact .inl h1
 ·exact .inr ⟨.inl h1,h5⟩
def aoR [Rd](hP:ef P T)(hR:cK T)(hx:Cx U ar γ w sl L ob){t:aX}{eh:lc}{x u:ba}{vp va:ai}{p:A1 D}{a:AV D}(ht:aF T.ty t=aa eh)(hv:ev L x=aa vp)(hp:fY U γ w p vp)
  (hu:ev L u=aa va) (fc:gW U γ w a va) (h:Q.R ob (aaE T (ar+16) eh a p) l e):
  OW P Qx L ⟨d,.store t x u,ty,pos,af,gd⟩ w (λv w'=>∃γ',dW U ar γ w ob e γ' v w'):=by
 have hT:=(hP.ty t eh ht).1
 have ie:=F_ T eh
 cases p with
 |ptr i off=>
  obtain⟨hU,b,hg,rfl⟩:=hp
  obtain⟨ao,l',ho,rfl,h⟩:=h
  cases ao with
  |sl=>exact h.elim
  |df=>exact h.elim
  |iH=>exact h.elim
  |fz=>exact h.elim
  |mp=>exact h.elim
  |box cs=>
   dsimp only at h
   split at h
   case h_2=>exact h.elim
   rename_i us Ul
   split at h
   case isFalse=>exact h.elim
   rename_i hlen
   split at h
   case h_2=>exact h.elim
   rename_i jm NG
   obtain⟨_,rfl⟩:=h
   obtain⟨fF,_,b',Rp,t',h1,h2,h3,h4,h5⟩:=hx.ob.ob i _ ho
   rw[hg]at h1
   obtain⟨rfl,_⟩:=Mh h1
   have b6:us.all storable=ab:=by
    unfold C6 at NG;split at NG
    ·rename_i hb;simp only[bt]at hb;exact hb.2
    ·cases NG
   obtain⟨vs,k1,k2,k3⟩:=WV Ul fc b6
   obtain⟨m1,_,m3,m4⟩:=h4.aaL k1 NG
   have au_:=bA hlen
   refine OW.mono (OW.aoS (c:=i) hT hv hu h3 h2 k2 k3 (by rw[ie,<-au_,k1.length]) m1) ?_
   rintro v w' ⟨rfl,b8,avr⟩
   have hM:∀x∈[i],1000<=x:=by simp[fF]
   have hk:iN U (jG U ar) γ w ⟨λb=>rel [] (γ.o b),γ.g,γ.v⟩ w':=acs b8 hM (by simp) (λ_ _=>rfl) (λ_ _=>rfl)
   refine⟨_,mkPost (M:=[i]) (N:=[]) (ps:=[]) (g':=γ.g) (v':=γ.v) hx.ob b8 (by simp[fF,hU,de.wr]) (by simp) (by simp) hx.cO (λ_ _=>rfl) (λ_ _=>rfl) rfl ?_⟩
   intro j x hj ky
   obtain⟨rfl,d_⟩:=nN hj
   cases d_
   refine⟨fF,.inl hU,b,_,t',hg,h2,avr,m4.dn hk,?_⟩
   rw[m3]
   exact aDX h5 b6 _
 |el i n j y off tc tj=>
  obtain⟨hU,hUc,⟨oo,pF,wZ⟩,Up,b,f,len,cap,hg,rfl⟩:=hp
  obtain⟨ao,l',ho,rfl,h⟩:=h
  cases ao with
  |box=>exact h.elim
  |df=>exact h.elim
  |fz=>exact h.elim
  |mp=>exact h.elim
  |iH n' t' xX q xs j' vr s gx=>
   obtain⟨_,_,_,_,_,_,_,e0,_⟩:=hx.ob.ob i _ ho
   have e0:=hg.symm.trans e0
   simp only[ai.slice.injEq,fK,Addr.mk.injEq]at e0
   obtain⟨⟨_,rfl,_⟩,_⟩:=e0
   rw[ke]at hv
   exact aoT hP hR hx ht hv hU hg hu fc ho h
  |sl n' t' xs K g'=>
   dsimp only at h
   split at h
   case h_2=>exact h.elim
   rename_i us Ul
   split at h
   case isFalse=>exact h.elim
   rename_i sQ
   simp only[bt]at sQ
   obtain⟨⟨hlen,HV⟩,hle⟩:=sQ
   have hlen:=bA hlen
   have HV:=bA HV
   subst HV
   have hle:=dw hle
   obtain⟨l1,l2,r,_,hr,h⟩:=Q.ga h
   obtain⟨y',gp,h⟩:=h
   dsimp only at h
   split at h
   case h_2=>exact h.elim
   rename_i z hz
   split at h
   case isTrue=>exact h.elim
   rename_i iJ
   obtain⟨zs,jh,_,rfl⟩:=h
   obtain⟨fF,_,h1,h2,h3⟩:=hx.ob.ob i _ ho
   obtain⟨vs,k1,k2⟩:=WX Ul fc
   obtain⟨r1,r2,r3,r4⟩:=DC hx.ob hr k1
   obtain⟨ds,K1,fz⟩:=r
   dsimp only at*
   have aeo:i∉fz:=pC (by simpa using iJ)
   have Uj:vs.length=us.length:=k1.length.symm
   have vN:vs.length=ds.length:=r1.length
   have mI:∀u∈vs,u.oneCell'=ab:=by
    have:∀{vs:List ai} {ds:List (DV D)},cz (In γ.o (fz++K1)) w vs ds->∀u∈vs,u.oneCell'=ab:=by
     intro vs;induction vs with
     |nil=>intro ds _ u hu;cases hu
     |cons v vs ih=>
      intro ds h u hu;cases ds with
      |nil=>exact h.elim
      |cons d ds=>
       rcases cj.1 hu with rfl|hu
       ·exact h.1.one
       ·exact ih h.2 u hu
    exact this r1
   have hvc:va.cells=vs.toArray:=by
    rcases k2 with⟨u,rfl,rfl,_⟩|⟨rfl,_⟩
    ·exact O4 (mI va (by simp))
    ·rfl
   have Nr:=hR.jf hz
   have Ve:∀i∈fz,1000<=i:=λi hi=>(r3 i hi).1
   have np:Ow t' γ.o i (fz++K1++K) w (γ.g i) xs:=Ow.tM (λ_ h=>h) (λb hb=>by unfold In at hb⊢;simp[hb]) h1
   have hEP:FU (γ.g i) (ad.sz (D n)) j ((⟨b,f,none⟩:Addr).add (j.toNat*ad.sz (D n))):=⟨_,len,cap,hg,rfl⟩
   have uh:j7 (fz++K1++K) [i]=ab:=EU λx hx=>by
    simp only[List.mem_singleton];rintro rfl;simp only[bg]at hx;rcases hx with(hx|hx)|hx
    ·exact aeo hx
    ·have:=r2 _ hx;omega
    ·have:=h2 _ hx;omega
   obtain⟨w',fD,b8,kw⟩:=Ow.put (P:=P) (off:=off) (c':=vs) (y':=z) hEP np gp mI (by rw[hR.sz,Uj];exact hle) (λcs jk=>by rw[hR.rd]at jk⊢;rw[Nr,vN];refine((jk.take off).append ?_).append (jk.drop _);exact r1.weaken λb hb=>by unfold In at hb⊢;rw[bg];exact .inl hb) uh
   have atS:zs=xs.set j.toNat z:=by
    unfold dq at jh;split at jh
    ·cases jh;rfl
    ·cases jh
   subst atS
   have jX:((⟨b,f,none⟩:Addr).add (j.toNat*ad.sz (D n))).add off=⟨b,f+(j.toNat*ad.sz (D n)+off),none⟩:=by rw[jR,jR,q9]
   rw[jX]at fD
   have hM:∀x∈[i],1000<=x:=by simp[fF]
   have pI:∀p∈nX fz,1000<=p.1:=λp hp=>by simp only[nX,dk]at hp;obtain⟨q,hq,rfl⟩:=hp;exact Ve q hq
   refine OW.LP λa ha=>⟨w',?_,?_⟩
   ·simp only[fT]at hv;simp[execOp,ha _ _ hv,ha _ _ hu,Instr.storeAt,Instr.sureAddr,storeVar,hT.sizeOf,hvc,ie,<-hlen,Uj,fD]
   refine⟨_,mkPost (M:=[i]) (N:=[]) (ps:=nX fz) (g':=γ.g) (v':=gm γ.v (ar+16) [⟨.sl n,xs.set j.toNat z⟩]) hx.ob b8 (by simp[fF,hU,de.wr]) (by simp) ?_ hx.cO (λ_ _=>rfl) (λi hi=>sE hx (by simp) hi) rfl ?_⟩
   ·intro p hp;refine⟨pI p hp,?_,?_⟩<;>simp only[nX,dk]at hp<;>obtain⟨q,hq,rfl⟩:=hp
    ·intro _;simp[de.wr,hq]
    ·exact .inl rfl
   ·intro k x hk ky;obtain⟨rfl,d_⟩:=nN hk;cases d_;refine⟨fF,.inl hU,Ow.tM (λb hb=>?_) (λb hb=>?_) kw,λx hx=>?_,mD (γ:=γ) (i:=0) rfl (by omega) rfl⟩
    ·show rel (nX fz) (γ.o b)=i;rw[hb,Ha.2 aeo]
    ·by_cases hK:γ.o b∈K
     ·show rel (nX fz) (γ.o b)∈_;rw[Ha.2 λhf=>by have:=Ve _ hf;have:=h2 _ hK;omega]
      simp[hK]
     ·have h5:In γ.o (fz++K1) b:=by
       unfold In at hb⊢;simp only[bg]at hb⊢;rcases hb with hb|hb
       ·exact hb
       ·exact(hK hb).elim
      have h6:=VU r2 r4 Ve b h5;unfold In at h6⊢;simp only[bg];exact .inl h6
    ·rcases bg.1 hx with hx|hx
     ·exact r2 _ hx
     ·exact h2 _ hx
 |_=>exact h.elim
def Cx.nw(hx:Cx U ar γ w sl L ob){b:Nat}(hb:b<w.heap.size){k:Nat}(h1:ar<=k)(h2:k<ar+128):γ.o b≠k:=λe=>hx.fresh k h1 h2 (e▸hx.ob.cl b hb)
def kX(f:Nat->ai)(i:Nat)(v:ai):Nat->ai:=λj=>if j=i then v else f j
def oO(f:Nat->ai)(i:Nat)(v:ai):kX f i v i=v:=by simp[kX]
def ur(hx:Cx U ar γ w sl L ob){v:ai}{i:Nat}(h:U i):kX γ.g ar v i=γ.g i:=by have:i≠ar:=λe=>hx.fresh ar (bw _) (by omega) (e▸h);simp[kX,this]
def oT:jG U ar ar:= .inr ⟨bw _,by omega⟩
def akw(hx:Cx U ar γ w sl L ob){cs:List (A1 D)}{us:List ai}{b:Nat}{t:aX}{w':ax}(hv:dj U γ w cs us)(hs:cs.all storable=ab)(hb:w.heap.size<=b)(b8:bJ [] [ar] γ.o w (grow γ.o w ar) w')(hc:w'.heap[b]? =aa (.cells us.toArray t (0,0))):
  ∃γ',dW U ar γ w ob ⟨.c (.one (.ptr ar 0)),[(ar,aa (.box cs))],[]⟩ γ' (fT b 0) w':=by
 have hk:iN U (jG U ar) γ w ⟨λb=>rel [] (grow γ.o w ar b),kX γ.g ar (fT b 0),γ.v⟩ w':=acs b8 (by simp) (by simp) (λi hi=>ur hx hi) (λ_ _=>rfl)
 refine⟨_,mkPost (M:=[]) (N:=[ar]) (ps:=[]) (g':=kX γ.g ar (fT b 0)) (v':=γ.v) hx.ob b8 (by simp) (by simp) (by simp) hx.cO (λi hi=>ur hx hi) (λ_ _=>rfl) ⟨oT,b,oO _ _ _,rfl⟩ ?_⟩
 intro j x hj ky
 obtain⟨rfl,d_⟩:=nN hj
 cases d_
 exact⟨hx.cO,oT,b,us,t,oO _ _ _,sT γ.o w ar b hb,hc,hv.dn hk,hs⟩
def QL{γ:Gh D}(bM:∀n,In γ.o [] n->False):∀ls:List Lf,dj U γ w (wm.BT ls:List (A1 D)) (wl ls)
 |[]=>trivial
 |l::r=>⟨by cases l<;>first|rfl|exact⟨rfl,MF _,lz⟩,QL bM r⟩
def Y3:∀ls:List Lf,(wm.BT ls:List (A1 D)).all storable=ab
 |[]=>rfl
 |l::r=>by simp only[wm.BT,List.all_cons,bt];exact⟨by cases l<;>rfl,Y3 r⟩
def alW{eh:lc}{cs:List (A1 D)}(h:wm T eh=aa cs):dj U γ w cs (F' T eh)∧cs.all storable=ab:=by
 unfold wm at h;split at h<;>first
  |(cases h;exact⟨⟨⟨rfl,MF _,lz⟩,trivial⟩,rfl⟩)
  |(cases h;exact⟨⟨rfl,trivial⟩,rfl⟩)
  |(cases h;exact⟨QL (by simp[In]) _,Y3 _⟩)
  |cases h
def alX{T:bc D}{eh:lc}(h:eh.agg=false):∃u,F' T eh=[u]∧u.oneCell'=ab:=by
 cases eh with
 |one l=>cases l<;>exact⟨_,rfl,rfl⟩
 |st n=>cases h
 |ptr=>exact⟨_,rfl,rfl⟩
 |fn=>exact⟨_,rfl,rfl⟩
def aDV [Rd](hP:ef P T)(hx:Cx U ar γ w sl L ob){t:aX}{eh:lc}{cs:List (A1 D)}(ht:aF T.ty t=aa eh)(hz:wm T eh=aa cs):
  OW P Qx L ⟨d,.alloc t,ty,pos,af,gd⟩ w (λv w'=>∃γ',dW U ar γ w ob ⟨.c (.one (.ptr ar 0)),[(ar,aa (.box cs))],[]⟩ γ' v w'):=by
 have hT:=(hP.ty t eh ht).1
 obtain⟨h1,h2⟩:=alW (U:=U) (γ:=γ) (w:=w) hz
 refine OW.mono (OW.aDW (o:=γ.o) ar hT (λh=>alX h)) ?_
 rintro v w' ⟨b,rfl,hb,b8,hc⟩
 exact akw hx h1 h2 hb b8 hc
def aDB [Rd](hx:Cx U ar γ w sl L ob){t:aX}{u:ba}{a:AV D}{va:ai}{cs:List (A1 D)}(hu:ev L u=aa va)(fc:gW U γ w a va)(hc:cellsOf a=aa cs)(hs:cs.all storable=ab):
  OW P Qx L ⟨d,.box t u,ty,pos,af,gd⟩ w (λv w'=>∃γ',dW U ar γ w ob ⟨.c (.one (.ptr ar 0)),[(ar,aa (.box cs))],[]⟩ γ' v w'):=by
 obtain⟨vs,h1,h2,h3⟩:=WV hc fc hs
 refine OW.mono (OW.aDC (o:=γ.o) ar vs hu h2) ?_
 rintro v w' ⟨b,rfl,hb,b8,hc⟩
 exact akw hx h1 hs hb b8 hc
