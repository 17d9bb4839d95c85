import Derived.Test.YtmngjhagbjgmfaaGreatRs
import Derived.Lib.AppendZeros
set_option linter.all false
open Array renaming getElem?_eq_some_iff->jx,length_toList->nZ,toList_inj->xw
open Bool renaming and_eq_true->bq,not_eq_true'->pS,true->ab
open Go renaming Builtin->dL,Operand->aZ,TypeId->aX,Value->ah,World->ax
open List renaming getElem?_drop->v9,getElem?_eq_some_iff->gH,getElem?_take->mh,mem_append->bz,mem_cons->cr,mem_singleton->dZ,nil_append->oS,not_mem_nil->jN,replicate->cR
open Nat renaming add_assoc->qU,add_mul->iQ,beq->aT,ble_eq_true_of_le->Jn,eq_of_beq_eq_true->bA,le_of_ble_eq_true->dm,le_refl->bw,mul_le_mul_right->mg,zero_add->kD,zero_le->kC
open Option renaming some->aa
open Option.some renaming inj->jM,injEq->fC
open Prod.mk renaming injEq->v7
namespace Go.Proofs.YtmngjhagbjgmfaaGreat
open Go Go.RowKit Dp
namespace Rx
section
variable {D:Nat->Type} [∀n,ad (D n)]
variable {P:Program} {T:bb D} {Qx:Exit->Act->ax->Prop} {U:Nat->Prop} {aq:Nat} {γ:Gh D} {w:ax} {sl:List (Nat×AV D)} {L:List (Nat×ah)} {ob:List (Nat×Option (AO D))}
 {d:Option Tmp} {ty:aX} {pos:String} {af:Array Edge} {gd:Option (Nat×Bool)} {e:cW D} {l:List Nat}
def aa4(hs:SR U γ w sl L){pl:List (Nat×Nat)}:∀{ps:List (Nat×aZ)} {as:List (AV D)} {cs i_:List (A1 D)} {us:List ah},xX T pl cs ps as=aa i_->eP sl (ps.map (·.2))=aa as->c_ U γ w cs us->
  ∃vs si mP,Bm L ps=aa vs∧PF vs si∧Bk pl us si=aa mP∧c_ U γ w i_ mP
 |[],as,cs,i_,us,h,he,hv=>by
  cases as with
  |nil=>simp only[xX,fC]at h;subst h;exact⟨[],[],us,rfl,trivial,rfl,hv⟩
  |cons _ _=>simp[xX]at h
 |(i,x)::r,as,cs,i_,us,h,he,hv=>by
  cases as with
  |nil=>simp[xX]at h
  |cons a as=>
   obtain⟨h1,h2⟩:=ur he;simp only[xX]at h;split at h
   case h_2=>cases h
   rename_i off sz us1 qh hc;split at h
   case isFalse=>cases h
   rename_i hlen;split at h
   case h_2=>cases h
   rename_i cs1 iY;obtain⟨v,b6,hvv⟩:=cz hs h1;have bU:us1.all storable=ab:=by
    unfold CB at iY;split at iY
    ·rename_i hb;simp only[bq]at hb;exact hb.2
    ·cases iY
   obtain⟨Zg,k1,k2,k3⟩:=VY hc hvv bU;obtain⟨m1,_,m3,m4⟩:=hv.ZR k1 iY;obtain⟨vs,si,mP,n1,n2,n3,n4⟩:=aa4 hs h h2 m4;have hlen:=bA hlen;refine⟨(i,v)::vs,(i,Zg)::si,mP,by simp[Bm,b6,n1],⟨rfl,k2,n2⟩,?_,n4⟩;have e1:Zg.length=sz:=by rw[<-k1.length];exact hlen
   simp only[Bk,qh];rw[aG ⟨by rw[e1];exact Nat.beq_refl sz,by rw[<-e1];exact Jn m1⟩];exact n3
def aBT [Rd](hP:dQ P T)(hx:Cx U aq γ w sl L ob){t:aX}{n:Nat}{pl:List (Nat×Nat)}{ps:Array (Nat×aZ)}{as:List (AV D)}{cs:List (A1 D)}(ht:aE T.ty t=aa (.st n))(hl:aE T.um t=aa pl)
  (he:eP sl (ps.toList.map (·.2))=aa as) (h:xX T pl (wa.By (T.lv n)) ps.toList as=aa cs):
  OW P Qx L ⟨d,.build t ps,ty,pos,af,gd⟩ w (λv w'=>∃γ',dP U aq γ w ob ⟨.c (.agg cs),[],[]⟩ γ' v w'):=by
 have hT:=(hP.ty t _ ht).1
 obtain⟨vs,si,us,h1,h2,h3,h4⟩:=aa4 hx.sr h he (PT (γ:=γ) (by simp[In]) (T.lv n))
 have:=OW.aBV (P:=P) (Qx:=Qx) (L:=L) (w:=w) (d:=d) (ty:=ty) (pos:=pos) (af:=af) (g:=gd) si us (hP.um t pl hl).1 hT h1 h2 h3
 exact dj this (pf hx ⟨us,rfl,h4⟩)
def apd(hR:cE T)(bG:OB U γ w ob){n:Nat}{a:AV D}{v:ah}{r:D n×List Nat×List Nat}(h:Q.R ob (RU T n a) l r)(hv:gF U γ w a v):
  Rv (In γ.o (r.2.2++r.2.1)) w v r.1∧eh r.2.1∧(∀i∈r.2.2,1000<=i∧U i)∧(r.2.2≠[]->1∈r.2.1):=by
 unfold RU at h
 split at h
 case isFalse=>exact h.elim
 rename_i MS
 split at h
 case h_2=>exact h.elim
 rename_i cs iY
 obtain⟨l1,l2,x,_,h1,h2⟩:=Q.fU h
 split at h2
 case h_2=>exact h2.elim
 rename_i y hy
 obtain⟨_,rfl⟩:=h2
 obtain⟨vs,k1,k2⟩:=V0 iY hv
 obtain⟨r1,r2,r3,r4⟩:=C6 bG h1 k1
 refine⟨⟨vs,?_,?_⟩,r2,r3,r4⟩
 ·rw[hR.ag];rcases k2 with⟨u,rfl,rfl,b,rfl⟩|⟨rfl,b,rfl⟩
  ·simp only[U3,pS]at MS;simp[MS,pack]
  ·simp only[U3]at MS;simp[MS,pack]
 ·rw[hR.rd,hR.iU hy];exact r1
def GG(hR:cE T)(bG:OB U γ w ob){n:Nat}:∀{as:List (AV D)} {vs:List ah} {l:List Nat} {r:List (D n)×List Nat×List Nat},Q.R ob (uZ T n as) l r->nj U γ w as vs->
  xq (In γ.o (r.2.2++r.2.1)) w vs r.1∧eh r.2.1∧(∀i∈r.2.2,1000<=i∧U i)∧(r.2.2≠[]->1∈r.2.1)∧r.1.length=as.length
 |[],vs,l,r,h,hv=>by
  obtain⟨_,rfl⟩:=h;cases vs with
  |nil=>exact⟨trivial,lj,by simp,λh=>(h rfl).elim,rfl⟩
  |cons _ _=>exact hv.elim
 |a::as,vs,l,r,h,hv=>by
  cases vs with
  |nil=>exact hv.elim
  |cons v vs=>
   simp only[uZ]at h;obtain⟨l1,l2,x,_,h1,h2⟩:=Q.fU h;obtain⟨l3,l4,y,_,h3,h4⟩:=Q.fU h2;obtain⟨_,rfl⟩:=h4;obtain⟨i1,i2,i3,i4⟩:=apd hR bG h1 hv.1;obtain⟨j1,j2,j3,j4,j5⟩:=GG hR bG h3 hv.2;have mono:∀{vs:List ah} {xs:List (D n)},xq (In γ.o (y.2.2++y.2.1)) w vs xs->xq (In γ.o ((x.2.2++y.2.2)++(x.2.1++y.2.1))) w vs xs:=by
    intro vs;induction vs with
    |nil=>intro xs h;cases xs with
     |nil=>trivial
     |cons _ _=>exact h.elim
    |cons u us ih=>intro xs h;cases xs with
     |nil=>exact h.elim
     |cons z zs=>exact⟨h.1.weaken λb hb=>by unfold In at hb⊢;rcases bz.1 hb with hb|hb<;>simp[hb],ih h.2⟩
   refine⟨⟨i1.weaken λb hb=>?_,mono j1⟩,?_,?_,λh=>?_,by simp[j5]⟩
   ·unfold In at hb⊢;rcases bz.1 hb with hb|hb<;>simp[hb]
   ·intro z hz;rcases bz.1 hz with hz|hz
    ·exact i2 z hz
    ·exact j2 z hz
   ·intro z hz;rcases bz.1 hz with hz|hz
    ·exact i3 z hz
    ·exact j3 z hz
   ·rw[bz];by_cases h5:x.2.2=[]
    ·exact .inr (j4 λh6=>h (by simp[h5,h6]))
    ·exact .inl (i4 h5)
def ael{fz:List Nat}(h:∀i∈fz,1000<=i∧U i){e:cW D}(he:e.fz=fz):∀p∈nO fz,1000<=p.1∧(U p.1->p.1∈e.wr)∧(p.2=1∨(aq<=p.2∧p.2<aq+128)):=by intro p hp;simp only[nO,List.mem_map]at hp;obtain⟨q,hq,rfl⟩:=hp;exact⟨(h q hq).1,λ_=>by simp[cW.wr,he,hq],.inl rfl⟩
def Kz(hx:Cx U aq γ w sl L ob){n t:Nat}{xs:List (D n)}{K fz:List Nat}{o':cA}{w':ax}{v:ah}(hK:eh K)(kl:∀i∈fz,1000<=i∧U i)(h1:fz≠[]->1∈K)(b6:bO [] [aq] γ.o w o' w')(hO:Ow t o' aq (fz++K) w' v xs):
  ∃γ',dP U aq γ w ob ⟨.c (.one (.own aq)),[(aq,aa (.sl n t xs K (aq+16)))],fz⟩ γ' v w':=by
 have DF:aq∉fz:=λh=>hx.fresh aq (bw _) (by omega) (kl _ h).2
 refine⟨_,mkPost (M:=[]) (N:=[aq]) (ps:=nO fz) (g':=kS γ.g aq v) (v':=ga γ.v (aq+16) [⟨.sl n,xs⟩]) hx.ob b6 (by simp) (by simp) (ael kl rfl) hx.cI (λi hi=>ul hx hi) (λi hi=>sq hx (by simp) hi) ⟨oL,(oF _ _ _).symm,hO.one⟩ ?_⟩
 intro j x hj HG
 obtain⟨rfl,dX⟩:=nC hj
 cases dX
 refine⟨hx.cI,oL,?_,hK,mr (γ:=γ) (i:=0) rfl (by omega) rfl⟩
 show Ow t _ aq K w' (kS γ.g aq v aq) xs
 rw[oF]
 refine Ow.tK (λb hb=>?_) (λb hb=>?_) hO
 ·show rel (nO fz) (o' b)=aq;rw[hb,GB.2 DF]
 ·exact UY hK h1 (λi hi=>(kl i hi).1) b hb
def KI(hs:SR U γ w sl L):∀{ps:List (Nat×aZ)} {k:Nat} {as:List (AV D)},xL k ps=ab->eP sl (ps.map (·.2))=aa as->∃vs,xY L k ps=aa vs∧nj U γ w as vs
 |[],k,as,_,h=>by simp only[List.map_nil,eP,fC]at h;subst h;exact⟨[],rfl,trivial⟩
 |(i,x)::r,k,as,hb,h=>by
  simp only[xL,bq]at hb;cases as with
  |nil=>have:=uq h;simp at this
  |cons a as=>obtain⟨h1,h2⟩:=ur h;obtain⟨v,e1,e2⟩:=cz hs h1;obtain⟨vs,e3,e4⟩:=KI hs hb.2 h2;exact⟨v::vs,by simp[xY,hb.1,e1,e3],e2,e4⟩
def aBU [Rd](hP:dQ P T)(hR:cE T)(hx:Cx U aq γ w sl L ob){t e' n m:Nat}{ps:Array (Nat×aZ)}{as:List (AV D)}{r:List (D n)×List Nat×List Nat}(ht:aE T.de t=aa (e',n))(hb:xL 0 ps.toList=ab)(hm:ps.toList.length=m)(eK:m*(T.lv n).length<=65536)
  (he:eP sl (ps.toList.map (·.2))=aa as) (h:Q.R ob (uZ T n as) l r):
  OW P Qx L ⟨d,.buildSlice t m ps,ty,pos,af,gd⟩ w (λv w'=>∃γ',dP U aq γ w ob ⟨.c (.one (.own aq)),[(aq,aa (.sl n e' r.1 r.2.1 (aq+16)))],r.2.2⟩ γ' v w'):=by
 obtain⟨hu,hT⟩:=hP.de t e' n ht
 obtain⟨vs,h1,h2⟩:=KI hx.sr hb he
 obtain⟨i1,i2,i3,i4,i5⟩:=GG hR hx.ob h h2
 have hlen:r.1.length=m:=by rw[i5,<-hm];simpa using(uq he).symm
 have:=OW.buildSlice (P:=P) (Q:=Qx) (L:=L) (w:=w) (d:=d) (ty:=ty) (pos:=pos) (af:=af) (g:=gd) (o:=γ.o) (k:=aq) hu hT h1 i1 hlen (by rw[hR.sz];exact Jn eK)
 refine OW.mono this ?_
 rintro v w' ⟨o',b6,hO⟩
 exact Kz hx i2 i3 i4 b6 hO
def aBW [Rd](hP:dQ P T)(hR:cE T)(hx:Cx U aq γ w sl L ob){t e' n m:Nat}{ps:Array (Nat×aZ)}{as:List (AV D)}{r:List (D n)×List Nat×List Nat}(ht:aE T.qL t=aa (m,e',n))(hb:xL 0 ps.toList=ab)(hm:ps.toList.length=m)
  (he:eP sl (ps.toList.map (·.2))=aa as) (h:Q.R ob (uZ T n as) l r):
  OW P Qx L ⟨d,.build t ps,ty,pos,af,gd⟩ w (λv w'=>∃γ',dP U aq γ w ob ⟨.c (.one (.uy n r.1 r.2.1)),[],r.2.2⟩ γ' v w'):=by
 have hA:=hP.qL t m e' n ht
 obtain⟨vs,h1,h2⟩:=KI hx.sr hb he
 obtain⟨i1,i2,i3,i4,i5⟩:=GG hR hx.ob h h2
 have hlen:r.1.length=m:=by rw[i5,<-hm];simpa using(uq he).symm
 have:=OW.ajh (P:=P) (Q:=Qx) (L:=L) (w:=w) (d:=d) (ty:=ty) (pos:=pos) (af:=af) (g:=gd) hA.uS hA.el hA.z h1 i1 hlen
 refine OW.mono this ?_
 rintro v w' ⟨rfl,aJ,rfl,h5⟩
 refine⟨_,mkPost (M:=[]) (N:=[]) (ps:=nO r.2.2) (g':=γ.g) (v':=γ.v) hx.ob (bO.refl _ _ _ _) (by simp) (by simp) (ael i3 rfl) hx.cI (λ_ _=>rfl) (λ_ _=>rfl) ?_ (λj x hj=>?_)⟩
 ·exact⟨⟨aJ,rfl,h5.mono λ_ _=>ad.mono λb hb _=>⟨UY i2 i4 (λi hi=>(i3 i hi).1) b hb,rfl⟩⟩,i2⟩
 ·simp[aE]at hj
def aBX [Rd](hP:dQ P T)(hR:cE T)(hx:Cx U aq γ w sl L ob){t e' n m:Nat}{ps:Array (Nat×aZ)}{as:List (AV D)}{r:List (D n)×List Nat×List Nat}(ht:aE T.qL t=aa (m,e',n))(hb:xL 0 ps.toList=ab)(hm:ps.toList.length=m)
  (he:eP sl (ps.toList.map (·.2))=aa as) (h:Q.R ob (uZ T n as) l r) (hf:r.2.2=[]) (hl:(r.1.flatMap (T.out n)).length<=112):
  OW P Qx L ⟨d,.build t ps,ty,pos,af,gd⟩ w (λv w'=>∃γ',dP U aq γ w ob ⟨.c (.agg (cellsD r.2.1 (aq+16) (r.1.flatMap (T.out n)))),[],[]⟩ γ' v w'):=by
 have hA:=hP.qL t m e' n ht
 obtain⟨vs,h1,h2⟩:=KI hx.sr hb he
 obtain⟨i1,i2,i3,i4,i5⟩:=GG hR hx.ob h h2
 have hlen:r.1.length=m:=by rw[i5,<-hm];simpa using(uq he).symm
 rw[hf,oS]at i1
 have:=OW.ajh (P:=P) (Q:=Qx) (L:=L) (w:=w) (d:=d) (ty:=ty) (pos:=pos) (af:=af) (g:=gd) hA.uS hA.el hA.z h1 i1 hlen
 refine OW.mono this ?_
 rintro v w' ⟨rfl,aJ,rfl,h5⟩
 refine⟨_,zZ hx _ hl ⟨aJ.flatten,rfl,?_⟩⟩
 exact Is (γ':=⟨γ.o,γ.g,ga γ.v (aq+16) (r.1.flatMap (T.out n))⟩) i2 (VH hR h5) λi x hi=>mr rfl (by have:=(gH.1 hi).1;omega) hi
def aCs(hR:cE T)(bG:OB U γ w ob){n:Nat}{cs:List (A1 D)}{us:List ah}{r:List (D n)×List Nat×List Nat}(HO:T.ag n=false)(h:Q.R ob (uZ T n (cs.map λc=> .c (.one c))) l r)(hv:c_ U γ w cs us)(hf:r.2.2=[]):fR U γ w (.uy n r.1 r.2.1) (.agg us.toArray):=by
 have AA:nj U γ w (cs.map λc=>(.c (.one c):AV D)) us:=by
  clear h;induction cs generalizing us with
  |nil=>cases us with
   |nil=>trivial
   |cons _ _=>exact hv.elim
  |cons c cs ih=>cases us with
   |nil=>exact hv.elim
   |cons u us=>exact⟨hv.1,ih hv.2⟩
 obtain⟨i1,i2,_,_,_⟩:=GG hR bG h AA;rw[hf,oS]at i1;have eH:∀us:List ah,(us.map λu=>[u]).flatten=us:=λus=>by
  induction us with
  |nil=>rfl
  |cons u us ih=>simp[ih]
 refine⟨⟨us.map λu=>[u],by rw[eH],?_⟩,i2⟩;generalize r.1=xs at i1;clear h AA hv;induction us generalizing xs with
 |nil=>cases xs with
  |nil=>trivial
  |cons _ _=>exact i1.elim
 |cons u us ih=>cases xs with
  |nil=>exact i1.elim
  |cons x xs=>exact⟨Rv.RX i1.1 (by rw[hR.ag];exact HO),ih xs i1.2⟩
def aci [Rd](hP:dQ P T)(hR:cE T)(hx:Cx U aq γ w sl L ob){t e' n m:Nat}{u i:aZ}{xs:List (D n)}{K:List Nat}{j:Int}{y:D n}{va:ah}{r:AV D}(ht:aE T.qL t=aa (m,e',n))(hm:xs.length=m)
  (hu:ev L u=aa va) (eY:fR U γ w (.uy n xs K) va) (hi:ev L i=aa (.int .i64 j)) (hj:idx xs j=aa y) (hr:u7 (T.ag n) (cellsD K (aq+16) (T.out n y))=aa r):
  OW P Qx L ⟨d,.index t u i,ty,pos,af,gd⟩ w (λv w'=>∃γ',dP U aq γ w ob ⟨r,[],[]⟩ γ' v w'):=by
 have hA:=hP.qL t m e' n ht
 obtain⟨⟨aJ,rfl,h1⟩,h2⟩:=eY
 refine OW.mono (OW.asg hA.uS hm hA.el hu h1 hi hj) ?_
 rintro v w' ⟨rfl,cs,rfl,h3⟩
 have hl:(T.out n y).length<=112:=by rw[Ly];exact hR.uo n
 have h4:=Is (γ':=⟨γ.o,γ.g,ga γ.v (aq+16) (T.out n y)⟩) (U:=jt U aq) h2 (g:=aq+16) ((hR.rd n _ _ _ _).1 h3) (λi x jq=>mr (γ:=γ) rfl (by have:=(gH.1 jq).1;omega) jq)
 refine⟨_,zZ hx (T.out n y) hl ?_⟩
 rw[hR.ag]
 unfold u7 at hr
 cases hg:T.ag n with
 |true=>
  rw[hg]at hr
  cases hr
  exact⟨cs,rfl,h4⟩
 |false=>
  rw[hg]at hr
  simp only[Bool.false_eq_true,aC]at hr
  split at hr
  case h_2=>cases hr
  rename_i a ha
  cases hr
  rw[ha]at h4
  cases cs with
  |nil=>exact h4.elim
  |cons c cs=>exact h4.1
def Ow.head{t:aX}{o:cA}{k:Nat}{K:List Nat}{v:ah}{n:Nat}{xs:List (D n)}{y:D n}{j:Int}(h:Ow t o k K w v xs)(hj:idx xs j=aa y):∃b f cap,v= .slice (aa ⟨b,f,none⟩) xs.length cap:=by
 rcases h with⟨rfl,rfl⟩|⟨g,f,cap,aV,aJ,e1,_⟩
 ·unfold idx at hj;split at hj<;>simp at hj
 ·exact⟨g,f,cap,e1⟩
def asr [Rd](hP:dQ P T)(hx:Cx U aq γ w sl L ob){t e' n tj:Nat}{u i:aZ}{a:A1 D}{va:ah}{j:Int}(ht:aE T.de t=aa (e',n))(hu:ev L u=aa va)(eY:fR U γ w a va)(hi:ev L i=aa (.int .i64 j))(Tz:named U γ tj ⟨.int .i64,j⟩)
  (h:Q.R ob (Tj n j tj a) l e):
  OW P Qx L ⟨d,.indexAddr t u i,ty,pos,af,gd⟩ w (λv w'=>∃γ',dP U aq γ w ob e γ' v w'):=by
 obtain⟨kQ,hT⟩:=hP.de t e' n ht
 unfold Tj at h
 split at h
 ·rename_i n' xs K g;split at h
  case isFalse=>exact h.elim
  rename_i hn;have hn:=bA hn;subst hn;obtain⟨y,hy,_,rfl⟩:=h;obtain⟨h1,h2,h3⟩:=eY;refine OW.mono (OW.indexAddr kQ hT hu h1 hi hy) ?_;rintro v w' ⟨rfl,pa,rfl,hp,_⟩;exact⟨γ,pf hx ⟨pa,by rw[add_zero'],hp,h3⟩⟩
 ·rename_i i';obtain⟨ao,l',ho,rfl,h⟩:=h;obtain⟨hU,rfl,_⟩:=eY;have key:∀{n' tc:Nat} {xs:List (D n')},((∀y,idx xs j=aa y->∃b f cap,γ.g i'= .slice (aa ⟨b,f,none⟩) xs.length cap)∧named U γ tc ⟨.sl n',xs⟩)->Q.R ob (if aT n' n&& !(aT tc 0)then .part (idx xs j) λy=>bX (.c (.one (.el i' n' j y 0 tc tj)))else .fail) l' e->
    OW P Qx L ⟨d,.indexAddr t u i,ty,pos,af,gd⟩ w (λv w'=>∃γ',dP U aq γ w ob e γ' v w'):=by
   clear h
   rintro n' tc xs ⟨hh,h3⟩ hq
   split at hq
   case isFalse=>exact hq.elim
   rename_i hn
   simp only[bq,pS]at hn
   have AB:tc≠0:=λe=>by subst e;simp at hn
   have hn:=bA hn.1
   subst hn
   obtain⟨y,hy,_,rfl⟩:=hq
   obtain⟨b,f,cap,hg⟩:=hh y hy
   refine OW.mono (OW.acu kQ hT hu hg hi hy) ?_
   rintro v w' ⟨rfl,rfl⟩
   rcases h3 with h3|⟨h3,h4⟩
   ·exact(AB h3).elim
   refine⟨γ,pf hx ⟨hU,⟨AB,h3⟩,⟨xs,h4,hy⟩,Tz,b,f,_,_,hg,?_⟩⟩
   rw[jI]
   rfl
  obtain⟨_,_,h1⟩:=hx.ob.ob _ _ ho;cases ao with
  |box=>exact h.elim
  |sl n' t' xs K tc=>exact key ⟨λy hy=>Ow.head h1.1 hy,h1.2.2⟩ h
  |cX n' t' xD q xs tc h0=>exact key ⟨λy hy=>Ow.head h1.1.ow hy,h1.2.1⟩ h
  |im n' t' xD q xs j' u9 s tc=>obtain⟨h2,_,b,len,cap,h3,gg,q',aV,_,_,_,_,_,h4⟩:=h1;exact key ⟨λy hy=>Ow.head h4.ow hy,h2⟩ h
  |mp=>exact h.elim
  |fz n' xs K=>
   dsimp only at h;split at h
   case isFalse=>exact h.elim
   rename_i hn;have hn:=bA hn;subst hn;obtain⟨y,hy,_,rfl⟩:=h;refine OW.mono (OW.indexAddr kQ hT hu h1.1 hi hy) ?_;rintro v w' ⟨rfl,pa,rfl,hp,_⟩;exact⟨γ,pf hx ⟨pa,by rw[add_zero'],hp,h1.2⟩⟩
 ·obtain⟨y,hy,_⟩:=h;cases hy
 ·rename_i i' n0 j0;obtain⟨ao,l',ho,rfl,h⟩:=h;obtain⟨hU,hj0,p,nn,c,e1,e2,e3⟩:=eY;cases ao with
  |sl n' t' xs K tc=>
   dsimp only at h;split at h
   case isFalse=>exact h.elim
   rename_i hn;simp only[bq,pS]at hn;have AB:tc≠0:=λe=>by subst e;simp at hn
   have Ho:=bA hn.1.1;have TX:=bA hn.1.2;subst Ho;subst TX;obtain⟨y,hy,_,rfl⟩:=h;obtain⟨_,_,h1,h2,h3⟩:=hx.ob.ob _ _ ho;obtain⟨p',yV,f1,f2,_⟩:=uW h1.rv;have gC:=hy;unfold idx at gC;split at gC
   case isFalse=>cases gC
   rename_i hj;have hyx:idx xs (G6 j0 j)=aa y:=by unfold idx;rw[aG (show 0<=j0+j by omega)];rw[v9]at gC;rw[show(G6 j0 j).toNat=j0.toNat+j.toNat by show(j0+j).toNat=_;omega];exact gC
   obtain⟨b,f,cap,hg⟩:=Ow.head h1 hyx;rw[hg]at e1 f1;simp only[ah.slice.injEq]at e1 f1;obtain⟨rfl,rfl,rfl⟩:=e1;obtain⟨_,_,rfl⟩:=f1;have aU:j0.toNat+j.toNat<xs.length:=by rw[v9]at gC;exact(gH.1 gC).1
   have jU:∀(q r:Nat),(⟨b,q,none⟩:Addr).add r=⟨b,q+r,none⟩:=λq r=>by unfold Addr.add;split<;>simp_all
   have Vp:va= .slice (aa ⟨b,f+j0.toNat*ad.sz (D n'),none⟩) (uv xs j0).length (cap-j0.toNat):=by rw[e2,aK (by omega)];simp[jU]
   refine OW.mono (OW.acu (xs:=uv xs j0) kQ hT hu Vp hi hy) ?_;rintro v w' ⟨rfl,rfl⟩;rcases h3 with h3|⟨h3,h4⟩
   ·exact(AB h3).elim
   refine⟨γ,pf hx ⟨hU,⟨AB,h3⟩,⟨xs,h4,hyx⟩,.inl rfl,b,f,_,_,hg,?_⟩⟩;rw[jU];unfold fN;rw[show(G6 j0 j).toNat=j0.toNat+j.toNat by show(j0+j).toNat=_;omega,iQ,Nat.add_zero,qU]
  |_=>exact h.elim
 ·exact h.elim
def aah{x y:aZ}{v:ah}(h:Gq x y=ab)(hx:ev L x=aa v):ev L y=aa v:=by
 unfold Gq at h;split at h
 ·rename_i a b;have:=bA h;subst this;exact hx
 ·rename_i a b;have:=jw h;subst this;exact hx
 ·cases h
def aqZ [Rd](hP:dQ P T)(hR:cE T)(hx:Cx U aq γ w sl L ob){t e' n:Nat}{u1 u2:aZ}{m:Int}{zs:List (D n)}(ht:aE T.de t=aa (e',n))(h1:ev L u1=aa (.int .i64 m))(h2:Gq u1 u2=ab)(hm:mu (T.zero n) m=aa zs):
  OW P Qx L ⟨d,.makeSlice t u1 u2,ty,pos,af,gd⟩ w (λv w'=>∃γ',dP U aq γ w ob ⟨.c (.one (.own aq)),[(aq,aa (.sl n e' zs [] (aq+16)))],[]⟩ γ' v w'):=by
 obtain⟨hu,hT⟩:=hP.de t e' n ht
 have mB:ya (D n) m=aa zs:=by unfold ya;unfold mu at hm;rw[hR.zero];exact hm
 refine OW.mono (OW.make (o:=γ.o) (k:=aq) hu hT h1 (aah h2 h1) mB) ?_
 rintro v w' ⟨o',b6,hO⟩
 exact Kz hx lj (by simp) (λh=>(h rfl).elim) b6 hO
def Ya{α:Type}[ad α](w:ax)(q:Nat):(dL.zeroCells (pack (ad.agg α) (ad.zc α)).cells q).toList=(cR q (ad.zc α)).flatten:=by
 have hz:(pack (ad.agg α) (ad.zc α)).cells.toList=ad.zc α:=wI (α:=α) (ad.fY (λ_=>True) w);have gP:(ad.zc α).length=ad.sz α:=ad.len (ad.fY (α:=α) (λ_=>True) w);have sD:=ad.pos (α:=α);generalize hzz:(pack (ad.agg α) (ad.zc α)).cells=z at*;unfold dL.zeroCells;have iW:z.size=ad.sz α:=by rw[<-nZ,hz,gP]
 have key:∀q:Nat,(List.range (q*ad.sz α)).map (λi=>z[i% z.size]!)=(cR q (ad.zc α)).flatten:=by
  intro q;induction q with
  |zero=>simp
  |succ q ih=>
   rw[List.replicate_succ',List.flatten_append,<-ih,Nat.succ_mul,List.range_add,List.map_append];congr 1;simp only[List.map_map,List.flatten_singleton];rw[<-hz];apply List.ext_getElem?;intro j;by_cases hj:j<ad.sz α
   ·have e1:(q*ad.sz α+j)% z.size=j:=by rw[iW,Nat.mul_comm,Nat.mul_add_mod,Nat.mod_eq_of_lt hj]
    have nK:j<z.size:=by omega
    simp[hj,e1,nK,getElem!_pos]
   ·simp[hj,iW]
 rw[iW];simpa[iW]using key q
def OW.akH [Rd]{α:Type}[ad α]{s x:aZ}{t tn e' k0:Nat}{o:cA}{zs:List α}{m:Int}(hu:P.underlying t=aa (.slice e'))(hT:bN P e' α)(hn:P.underlying tn=aa (.int .i64))(h1:ev L s=aa (.slice none 0 0))(h2:ev L x=aa (.int .i64 m))(hm:Ad (ad.zero:α) m=aa zs):
  OW P Qx L ⟨d,.call {callee:= .builtin .append,args:= #[s,x],argTypes:= #[t,tn]},ty,pos,af,gd⟩ w (λv' w'=>∃o',bO [] [k0] o w o' w'∧Ow e' o' k0 [] w' v' zs):=by
 unfold Ad at hm
 split at hm
 case isFalse=>cases hm
 rename_i hb
 cases hm
 obtain⟨i,gp,ek,iu,mE⟩:=hT.nD
 have sD:=ad.pos (α:=α)
 have DX:m.toNat*i.bytes<=281474976710656:=by have:=Nat.mul_le_mul (show m.toNat<=1073741824 by omega) iu;omega
 have hmm:((m.toNat:Nat):Int)=m:=by omega
 have hr:=Lib.run_append_nil_zeros (P:=P) w t tn ty e' i _ .i64 .i64 hu hn gp mE m.toNat (by omega) (by omega) (by omega) DX
 rw[hmm]at hr
 have tU:(pack (ad.agg α) (ad.zc α)).cells.toList=ad.zc α:=wI (α:=α) (ad.fY (λ_=>True) w)
 have gP:(ad.zc α).length=ad.sz α:=ad.len (ad.fY (α:=α) (λ_=>True) w)
 have iW:(pack (ad.agg α) (ad.zc α)).cells.size=ad.sz α:=by rw[<-nZ,tU,gP]
 have sH:=grownCap_ge w m.toNat 0 e'
 refine OW.run λa ha=>⟨_,_,by simp[execOp,resolve,invoke,builtin,ha _ _ h1,ha _ _ h2,hr];exact⟨rfl,rfl⟩,grow o w k0,?_,.inr ⟨w.heap.size,0,grownCap w m.toNat 0 e',_,cR m.toNat (ad.zc α),by simp,sN o w k0 _ (bw _),heap_alloc_new w.drew _,?_,?_,?_,?_,?_⟩⟩
 ·exact(bO.fresh k0 ((Below.refl _ _).drew.alloc (bw _) _)).weaken (by simp) (by simp)
 ·simpa using sH
 ·exact grownCap_le_maxLen w _ _ _ (by unfold maxLen;omega)
 ·simp only[Array.size_append,size_zeroCells,iW,<-iQ,kD];exact mg _ (by omega)
 ·exact cn.replicate (ad.fY _ _) _
 ·rw[List.drop_zero,Array.toList_append,Ya w,List.length_replicate];refine List.take_left' ?_;rw[<-Ya w,nZ,size_zeroCells,iW]
def akG [Rd](hP:dQ P T)(hR:cE T)(hx:Cx U aq γ w sl L ob){t tn e' n:Nat}{s x:aZ}{m:Int}{zs:List (D n)}(ht:aE T.de t=aa (e',n))(yn:aE T.ty tn=aa (.one (.int .i64)))(h1:ev L s=aa (.slice none 0 0))(h2:ev L x=aa (.int .i64 m))(hm:Ad (T.zero n) m=aa zs):
  OW P Qx L ⟨d,.call {callee:= .builtin .append,args:= #[s,x],argTypes:= #[t,tn]},ty,pos,af,gd⟩ w (λv w'=>∃γ',dP U aq γ w ob ⟨.c (.one (.own aq)),[(aq,aa (.sl n e' zs [] (aq+16)))],[]⟩ γ' v w'):=by
 obtain⟨hu,hT⟩:=hP.de t e' n ht
 refine OW.mono (OW.akH (o:=γ.o) (k0:=aq) hu hT (hP.ty _ _ yn).2 h1 h2 (by rw[hR.zero];exact hm)) ?_
 rintro v w' ⟨o',b6,hO⟩
 exact Kz hx lj (by simp) (λh=>(h rfl).elim) b6 hO
def j6.kc{α:Type}[ad α]{z:Nat}{t tc:aX}{o:cA}{k kc:Nat}{v:ah}{xs:List α}(h:j6 z t tc o k kc w v xs)(hn:∀b,b<w.heap.size->o b≠kc):j6 z t tc (lr o k v) 0 1 w v xs:=by
 rcases h with h|⟨g,cap,aV,aJ,h1,h2,h3,h4,h5,h6,h7,h8,h9,oE⟩
 ·exact .inl h
 ·refine .inr ⟨g,cap,aV,aJ,h1,S1 h2 (by rw[h1];exact Nat.beq_refl g),h3,h4,h5,h6,h7.mono λ_ _=>ad.mono λb hb aU=>?_,h8,λu hu p n c e=>?_,oE⟩
  ·have hb:o b=kc:=by simpa[In]using hb
   exact(hn b aU hb).elim
  ·rcases h9 u hu p n c e with h|⟨g',f',Eu,i1,i2,i3,i4⟩
   ·exact .inl h
   ·exact(hn g' (jx.1 i3).1 i2).elim
def aq1 [Rd](hP:dQ P T)(hR:cE T)(hx:Cx U aq γ w sl L ob){t e' n tc q:Nat}{u1 u2:aZ}{m:Int}{zs:List (D n)}(ht:aE T.de t=aa (e',n))(hk:aE T.kd n=aa (tc,q))(h1:ev L u1=aa (.int .i64 m))(h2:Gq u1 u2=ab)(hm:mu (T.zero n) m=aa zs):
  OW P Qx L ⟨d,.makeSlice t u1 u2,ty,pos,af,gd⟩ w (λv w'=>∃γ',dP U aq γ w ob ⟨.c (.one (.own aq)),[(aq,aa (.cX n e' tc q zs (aq+16) 0))],[]⟩ γ' v w'):=by
 obtain⟨hu,hT⟩:=hP.de t e' n ht
 have hK:=hP.kd n tc q hk
 have mB:ya (D n) m=aa zs:=by unfold ya;unfold mu at hm;rw[hR.zero];exact hm
 refine OW.mono (OW.aq2 (o:=γ.o) (k:=aq) (aq+1) (ad.sz (D q)) tc hK.zc hu hT h1 (aah h2 h1) mB) ?_
 rintro v w' ⟨o',b6,hO⟩
 have bQ:∀b,b<w'.heap.size->o' b≠aq+1:=λb hb e=>by
  by_cases aU:b<w.heap.size
  ·rw[b6.gV b aU]at e;exact hx.nw aU (by omega) (by omega) e
  ·have:=b6.new b (by omega) hb;simp at this;omega
 have hO':=j6.kc hO bQ
 refine⟨_,mkPost (M:=[]) (N:=[aq]) (ps:=[]) (g':=kS γ.g aq v) (v':=ga γ.v (aq+16) [⟨.sl n,zs⟩]) hx.ob b6 (by simp) (by simp) (by simp) hx.cI (λi hi=>ul hx hi) (λi hi=>sq hx (by simp) hi) ⟨oL,(oF _ _ _).symm,hO.one⟩ ?_⟩
 intro j x hj HG
 obtain⟨rfl,dX⟩:=nC hj
 cases dX
 refine⟨hx.cI,oL,?_,mr (γ:=γ) (i:=0) rfl (by omega) rfl,.inl rfl⟩
 show j6 _ e' tc (lr o' aq (kS γ.g aq v aq)) 0 1 w' (kS γ.g aq v aq) zs
 rw[oF]
 exact hO'
def Ow.R4{α:Type}[ad α]{T:aX}{o:cA}{k:Nat}{K:List Nat}{w:ax}{v v':ah}{j:Nat}{xs:List α}(h:Ow T o k K w v xs)(hp:PE v v' j):Ow T o k K w v' (xs.take j):=by
 obtain⟨p,m,c,h1,rfl,hj⟩:=hp;rcases h with⟨rfl,rfl⟩|⟨gg,f,cap,aV,aJ,rfl,h2,h3,h4,h5,h6,h7,h8⟩
 ·cases h1;have:j=0:=by omega
  subst this;exact .inl ⟨rfl,rfl⟩
 ·cases h1;have hl:(xs.take j).length=j:=by simp;omega
  refine .inr ⟨gg,f,c,aV,aJ.take j,by rw[hl],h2,h3,by omega,h5,h6,h7.take j,?_⟩;rw[Bj h7.o9,<-h8,List.take_take,hl];congr 1;exact(Nat.min_eq_left (mg _ hj)).symm
def Ow.tail{α:Type}[ad α]{T:aX}{o:cA}{k j:Nat}{K:List Nat}{w:ax}{v v':ah}{xs:List α}(h:Ow T o k K w v xs)(ht:BO (ad.sz α) v v' j):Ow T o k K w v' (xs.drop j):=by
 obtain⟨p,m,c,h1,rfl,hj⟩:=ht;rcases h with⟨rfl,rfl⟩|⟨gg,f,cap,aV,aJ,rfl,h2,h3,h4,h5,h6,h7,h8⟩
 ·cases h1;have:j=0:=by omega
  subst this;exact .inl ⟨by simp,by simp⟩
 ·cases h1;have hl:(xs.drop j).length=xs.length-j:=by simp
  by_cases yD:c=j
  ·have hx:xs.drop j=[]:=List.drop_eq_nil_of_le (by omega);have e1:xs.length-j=0:=by omega
   have e2:c-j=0:=by omega
   rw[hx,aG yD,e1,e2];exact .inr ⟨gg,f,0,aV,[],rfl,h2,h3,bw _,kC _,by omega,trivial,by simp⟩
  ·refine .inr ⟨gg,f+j*ad.sz α,c-j,aV,aJ.drop j,?_,h2,h3,by omega,by omega,?_,h7.drop j,?_⟩
   ·rw[hl,aK yD,Option.map_some,jI]
   ·have e3:j*ad.sz α+(c-j)*ad.sz α=c*ad.sz α:=by rw[<-iQ,show j+(c-j)=c by omega]
    omega
   ·rw[hl,D5 h7.o9,<-h8,List.drop_take,List.drop_drop,Nat.sub_mul]
def Ow.anj{α:Type}[ad α]{T:aX}{o:cA}{k j:Nat}{K:List Nat}{w:ax}{v v':ah}{xs:List α}(h:Ow T o k K w v xs)(ht:BO (ad.sz α) v v' j):fB (In o K) w v' (xs.drop j):=by
 obtain⟨p,m,c,h1,rfl,hj⟩:=ht;rcases h with⟨rfl,rfl⟩|⟨gg,f,cap,aV,aJ,rfl,h2,h3,h4,h5,h6,h7,h8⟩
 ·cases h1;have:j=0:=by omega
  subst this;exact⟨_,_,rfl,.inl (by simp)⟩
 ·cases h1;refine⟨_,_,by rw[List.length_drop],?_⟩;rcases Nat.lt_or_ge j xs.length with aU|sH
  ·right;have yD:¬c=j:=by omega
   refine⟨⟨gg,f+j*ad.sz α,none⟩,aJ.drop j,?_,h7.drop j,?_⟩
   ·have jU:(⟨gg,f,none⟩:Addr).add (j*ad.sz α)=⟨gg,f+j*ad.sz α,none⟩:=jI _ _ _;simp[yD,jU]
   ·intro q u hq;rw[jI,cell_of_row w gg _ aV T (0,0) h3];rw[D5 h7.o9,v9,<-h8,mh]at hq;split at hq
    ·simpa[qU]using hq
    ·cases hq
  ·exact .inl (List.drop_eq_nil_of_le sH)
def RT(bG:OB U γ w ob){n:Nat}{a:A1 D}{v:ah}{r:List (D n)×List Nat}(h:Q.R ob (GF n a) l r)(hv:fR U γ w a v):fB (In γ.o r.2) w v r.1∧eh r.2:=by
 unfold GF at h;split at h
 ·rename_i n' xs K g;split at h
  case isFalse=>exact h.elim
  rename_i hn;subst hn;obtain⟨_,rfl⟩:=h;exact⟨hv.1.de,hv.2.2⟩
 ·obtain⟨_,rfl⟩:=h;have hv:v= .slice none 0 0:=hv;subst hv;exact⟨⟨none,0,rfl,.inl rfl⟩,lj⟩
 ·obtain⟨ao,l',ho,rfl,h⟩:=h;cases ao with
  |box=>exact h.elim
  |cX=>exact h.elim
  |im=>exact h.elim
  |sl n' t xs K g=>
   dsimp only at h;split at h
   case isFalse=>exact h.elim
   rename_i hn;subst hn;obtain⟨_,rfl⟩:=h;obtain⟨_,rfl,_⟩:=hv;obtain⟨_,_,h1,h2,_⟩:=bG.ob _ _ ho;exact⟨h1.de,h2⟩
  |mp=>exact h.elim
  |fz n' xs K=>
   dsimp only at h;split at h
   case isFalse=>exact h.elim
   rename_i hn;subst hn;obtain⟨_,rfl⟩:=h;obtain⟨_,rfl,_⟩:=hv;obtain⟨_,_,h1,h2⟩:=bG.ob _ _ ho;exact⟨h1.de,h2⟩
 ·obtain⟨ao,l',ho,rfl,h⟩:=h;cases ao with
  |box=>exact h.elim
  |cX=>exact h.elim
  |im=>exact h.elim
  |fz=>exact h.elim
  |mp=>exact h.elim
  |sl n0 t xs K g=>
   dsimp only at h;split at h
   case isFalse=>exact h.elim
   rename_i AS;have AS:=bA AS;subst AS;split at h
   case isFalse=>exact h.elim
   rename_i hn;subst hn;obtain⟨_,rfl⟩:=h;obtain⟨_,ht⟩:=hv;obtain⟨_,_,h1,h2,_⟩:=bG.ob _ _ ho;exact⟨Ow.anj h1 ht.2,h2⟩
 ·obtain⟨ao,l',ho,rfl,h⟩:=h;cases ao with
  |box=>exact h.elim
  |cX=>exact h.elim
  |im=>exact h.elim
  |fz=>exact h.elim
  |mp=>exact h.elim
  |sl n0 t xs K g=>
   dsimp only at h;split at h
   case isFalse=>exact h.elim
   rename_i AS;have AS:=bA AS;subst AS;split at h
   case isFalse=>exact h.elim
   rename_i hn;subst hn;obtain⟨_,rfl⟩:=h;obtain⟨_,ht⟩:=hv;obtain⟨_,_,h1,h2,_⟩:=bG.ob _ _ ho;exact⟨(Ow.R4 h1 ht).de,h2⟩
 ·exact h.elim
def fB.weaken{n:Nat}{S S':Nat->Prop}{v:ah}{xs:List (D n)}(hm:∀b,S b->S' b)(h:fB S w v xs):fB S' w v xs:=by
 obtain⟨p,cap,rfl,h⟩:=h;refine⟨p,cap,rfl,?_⟩;rcases h with h|⟨a,aJ,h1,h2,h3⟩
 ·exact .inl h
 ·exact .inr ⟨a,aJ,h1,h2.mono λ_ _=>ad.mono λb hb _=>⟨hm b hb,rfl⟩,h3⟩
def aCh [Rd](hP:dQ P T)(hR:cE T)(hx:Cx U aq γ w sl L ob){t e' n:Nat}{s x:aZ}{a b:A1 D}{va vb:ah}(ht:aE T.de t=aa (e',n))(hs:ev L s=aa va)(eY:fR U γ w a va)(hb:ev L x=aa vb)(Tu:fR U γ w b vb)
  (h:Q.R ob (O6 T aq n e' a b) l e):
  OW P Qx L ⟨d,.call {callee:= .builtin .append,args:= #[s,x],argTypes:= #[t,t]},ty,pos,af,gd⟩ w (λv w'=>∃γ',dP U aq γ w ob e γ' v w'):=by
 obtain⟨hu,hT⟩:=hP.de t e' n ht
 unfold O6 at h
 obtain⟨l1,l2,y0,_,h1,h⟩:=Q.fU h
 obtain⟨Ds,Mj⟩:=RT hx.ob h1 Tu
 have kf:fB (In γ.o (vI T n y0.2)) w vb y0.1∧eh (vI T n y0.2):=by
  unfold vI;split
  ·rename_i hf;haveI:=hR.flat hf;exact⟨fB.flat Ds,λz hz=>by cases hz⟩
  ·exact⟨Ds,Mj⟩
 obtain⟨ys,nE⟩:∃ys:List (D n)×List Nat,ys=(y0.1,vI T n y0.2):=⟨_,rfl⟩
 rw[<-nE]at h
 have k1:fB (In γ.o ys.2) w vb ys.1:=by rw[nE];exact kf.1
 have k2:eh ys.2:=by rw[nE];exact kf.2
 clear nE kf Ds Mj h1
 unfold O6.ajy at h
 cases a with
 |own i=>
  obtain⟨ao,l',ho,rfl,h⟩:=h
  cases ao with
  |box=>exact h.elim
  |cX=>exact h.elim
  |im=>exact h.elim
  |fz=>exact h.elim
  |mp=>exact h.elim
  |sl n' t' xs K g=>
   dsimp only at h
   split at h
   case isFalse=>exact h.elim
   rename_i hn
   subst hn
   split at h
   case isFalse=>exact h.elim
   rename_i mW
   have mW:=bA mW
   subst mW
   obtain⟨zs,hz,_,rfl⟩:=h
   obtain⟨hU,rfl,_⟩:=eY
   obtain⟨fy,_,m1,m2,m3⟩:=hx.ob.ob _ _ ho
   have hK:eh (ys.2++K):=λz hz=>by
    rcases bz.1 hz with hz|hz
    ·exact k2 z hz
    ·exact m2 z hz
   have ue:nc (ys.2++K) [i]=ab:=Er λz hz=>by simp only[dZ];rintro rfl;have:=hK _ hz;omega
   have GU:Ow t' γ.o i (ys.2++K) w (γ.g i) xs:=Ow.tK (λ_ h=>h) (λb hb=>by unfold In at hb⊢;simp[hb]) m1
   refine OW.mono (OW.append hu hT hs hb GU (fB.weaken (λb hb=>by unfold In at hb⊢;simp[hb]) k1) hz ue) ?_
   rintro v w' ⟨o',b6,hO⟩
   have ir:i≠aq:=λe=>hx.fresh aq (bw _) (by omega) (e▸hU)
   have oC:∀{j:Nat} {x:AO D},aE [(aq,aa (AO.sl n' t' zs (ys.2++K) (aq+16))),(i,none)] j=aa (aa x)->j=aq∧x= .sl n' t' zs (ys.2++K) (aq+16):=by intro j x hj;have:=dM hj;simp only[cr,v7,jN,kB,fC,reduceCtorEq,and_false]at this;exact this
   have AG:∀z,z≠i->rel [(i,aq)] z=z:=λz hz=>by
    unfold rel;split
    ·rename_i y hy;have:=(nC hy).1;exact(hz this.symm).elim
    ·rfl
   have Hg:rel [(i,aq)] i=aq:=by simp[rel,aE]
   refine⟨_,mkPost (M:=[i]) (N:=[i]) (ps:=[(i,aq)]) (g':=kS γ.g aq v) (v':=ga γ.v (aq+16) [⟨.sl n',zs⟩]) hx.ob b6 (by simp[fy,hU,cW.wr]) (by simp) (by simp[fy,cW.wr]) hx.cI (λi hi=>ul hx hi) (λi hi=>sq hx (by simp) hi) ⟨oL,(oF _ _ _).symm,hO.one⟩ ?_⟩
   intro j x hj HG
   obtain⟨rfl,rfl⟩:=oC hj
   refine⟨hx.cI,oL,?_,hK,mr (γ:=γ) (i:=0) rfl (by omega) rfl⟩
   show Ow t' _ j (ys.2++K) w' (kS γ.g j v j) zs
   rw[oF]
   refine Ow.tK (λb hb=>?_) (λb hb=>?_) hO
   ·show rel [(i,j)] (o' b)=j;rw[hb,Hg]
   ·have:o' b≠i:=λe=>by
     unfold In at hb;have:=hK _ hb;omega
    show rel [(i,j)] (o' b)∈_;rw[AG _ this];exact hb
 |pre i ne j=>
  obtain⟨ao,l',ho,rfl,h⟩:=h
  cases ao with
  |box=>exact h.elim
  |cX=>exact h.elim
  |im=>exact h.elim
  |fz=>exact h.elim
  |mp=>exact h.elim
  |sl n' t' xs K g=>
   dsimp only at h
   split at h
   case isFalse=>exact h.elim
   rename_i hn
   subst hn
   split at h
   case isFalse=>exact h.elim
   rename_i mW
   obtain⟨zs,hz,_,rfl⟩:=h
   simp only[bq]at mW
   obtain⟨mW,bQ⟩:=mW
   have mW:=bA mW
   have bQ:=bA bQ
   subst mW bQ
   obtain⟨hU,DE⟩:=eY
   obtain⟨fy,_,m0,m2,m3⟩:=hx.ob.ob _ _ ho
   have m1:=Ow.R4 m0 DE
   have hK:eh (ys.2++K):=λz hz=>by
    rcases bz.1 hz with hz|hz
    ·exact k2 z hz
    ·exact m2 z hz
   have ue:nc (ys.2++K) [i]=ab:=Er λz hz=>by simp only[dZ];rintro rfl;have:=hK _ hz;omega
   have GU:Ow t' γ.o i (ys.2++K) w va (xs.take j.toNat):=Ow.tK (λ_ h=>h) (λb hb=>by unfold In at hb⊢;simp[hb]) m1
   refine OW.mono (OW.append hu hT hs hb GU (fB.weaken (λb hb=>by unfold In at hb⊢;simp[hb]) k1) hz ue) ?_
   rintro v w' ⟨o',b6,hO⟩
   have ir:i≠aq:=λe=>hx.fresh aq (bw _) (by omega) (e▸hU)
   have oC:∀{j:Nat} {x:AO D},aE [(aq,aa (AO.sl n' t' zs (ys.2++K) (aq+16))),(i,none)] j=aa (aa x)->j=aq∧x= .sl n' t' zs (ys.2++K) (aq+16):=by intro j' x hj;have:=dM hj;simp only[cr,v7,jN,kB,fC,reduceCtorEq,and_false]at this;exact this
   have AG:∀z,z≠i->rel [(i,aq)] z=z:=λz hz=>by
    unfold rel;split
    ·rename_i y hy;have:=(nC hy).1;exact(hz this.symm).elim
    ·rfl
   have Hg:rel [(i,aq)] i=aq:=by simp[rel,aE]
   refine⟨_,mkPost (M:=[i]) (N:=[i]) (ps:=[(i,aq)]) (g':=kS γ.g aq v) (v':=ga γ.v (aq+16) [⟨.sl n',zs⟩]) hx.ob b6 (by simp[fy,hU,cW.wr]) (by simp) (by simp[fy,cW.wr]) hx.cI (λi hi=>ul hx hi) (λi hi=>sq hx (by simp) hi) ⟨oL,(oF _ _ _).symm,hO.one⟩ ?_⟩
   intro j' x hj HG
   obtain⟨rfl,rfl⟩:=oC hj
   refine⟨hx.cI,oL,?_,hK,mr (γ:=γ) (i:=0) rfl (by omega) rfl⟩
   show Ow t' _ j' (ys.2++K) w' (kS γ.g j' v j') zs
   rw[oF]
   refine Ow.tK (λb hb=>?_) (λb hb=>?_) hO
   ·show rel [(i,j')] (o' b)=j';rw[hb,Hg]
   ·have:o' b≠i:=λe=>by
     unfold In at hb;have:=hK _ hb;omega
    show rel [(i,j')] (o' b)∈_;rw[AG _ this];exact hb
 |bE=>
  obtain⟨zs,hz,_,rfl⟩:=h
  have eY:va= .slice none 0 0:=eY
  subst eY
  have ue:nc ys.2 [aq]=ab:=Er λz hz=>by simp only[dZ];rintro rfl;have:=k2 _ hz;have:=hx.cI;omega
  refine OW.mono (OW.append hu hT hs hb (Ow.nil e' γ.o aq ys.2 w) k1 hz ue) ?_
  rintro v w' ⟨o',b6,hO⟩
  have Up:bO [] [aq] γ.o w o' w':=⟨b6.os,b6.tape,b6.output,b6.size,b6.gV,b6.new,λb hb _=>b6.rO b hb (by simp only[dZ];exact hx.nw hb (bw _) (by omega))⟩
  exact Kz (fz:=[]) hx k2 (by simp) (λh=>(h rfl).elim) Up hO
 |ch i e1 j off ct m dd=>
  obtain⟨ao,l',ho,rfl,h⟩:=h
  cases ao with
  |box=>exact h.elim
  |sl=>exact h.elim
  |im=>exact h.elim
  |fz=>exact h.elim
  |mp=>exact h.elim
  |cX e2 te tc q xs gx h0=>
   dsimp only at h
   split at h
   case isFalse=>exact h.elim
   rename_i hc
   have hq:=h
   clear h
   simp only[bq,pS]at hc
   obtain⟨⟨⟨⟨⟨⟨c1,c2⟩,c3⟩,c4⟩,c5⟩,c6⟩,c7⟩:=hc
   have c1:=bA c1
   have c2:=bA c2
   have c4:=bA c4
   have c5:=bA c5
   have c6:=bA c6
   subst c1 c2 c4 c5 c6
   have Ux:ct≠0:=λe=>by subst e;simp at c3
   obtain⟨y,hy,hq⟩:=hq
   dsimp only at hq
   split at hq
   case h_2=>exact hq.elim
   rename_i m' d' MU
   split at hq
   case isFalse=>exact hq.elim
   rename_i mB
   subst mB
   obtain⟨zs,hz,hq⟩:=hq
   dsimp only at hq
   split at hq
   case h_2=>exact hq.elim
   rename_i y' gC
   obtain⟨wm,yp,_,rfl⟩:=hq
   have hK:Je P D e1 tc m':=by
    unfold aca at c7;split at c7
    ·rename_i p hp;simp only[bq]at c7;have e1':=bA c7.1;have Vp:=bA c7.2;obtain⟨p1,p2⟩:=p;subst e1' Vp;exact hP.kd _ _ _ hp
    ·cases c7
   haveI:=hK.one
   haveI:=hK.flat
   obtain⟨hU,⟨_,aDn⟩,_,⟨b0,len,cap,cells,hg,HM,ui⟩,_⟩:=eY
   obtain⟨fy,_,m1,m2,m3⟩:=hx.ob.ob _ _ ho
   rcases m3 with m3|⟨_,_,ayd,m4,m5⟩
   ·exact(Ux m3).elim
   rw[HM]at m4
   cases m4
   have nI:(T.lv e1)[off]? =aa (.sl m'):=by
    have:((T.out e1 y).map DV.l)[off]? =aa (.sl m'):=by rw[List.getElem?_map,MU];rfl
    rw[bb.out,Db]at this;exact this
   have hF:=arI hR nI
   have hGy:GY T e1 off m' y=d':=abW MU
   have hSy:Am T e1 off m' y zs=y':=by unfold Am;rw[gC]
   obtain⟨aV,cb,ch⟩:=Uq m1 hg
   have hpa:(⟨b0,j.toNat*ad.sz (D e1),none⟩:Addr).add off=⟨b0,j.toNat*ad.sz (D e1)+off,none⟩:=jI _ _ _
   have hE:Fm (γ.g i) (ad.sz (D e1)) j ⟨b0,j.toNat*ad.sz (D e1),none⟩:=⟨⟨b0,0,none⟩,len,cap,hg,by rw[jI,kD]⟩
   have hcI:X3 (lr γ.o i (γ.g i)) 0 w ((⟨b0,j.toNat*ad.sz (D e1),none⟩:Addr).add off) va:=by rw[hpa];exact⟨cb,by rw[m5 b0 len cap _ hg];exact ui⟩
   refine OW.mono (OW.aCi hF hu hT hs hb m1 hE hcI hy k1 (by rw[hGy];exact hz) (by rw[hSy];exact yp) rfl) ?_
   rintro v' w' ⟨o',b6,hH⟩
   rw[hpa]at hH
   have mA:v'.oneCell'=ab:=by obtain⟨_,_,_,_,_,_,h4,_⟩:=hH;exact h4
   have aDl:b0<w.heap.size:=(jx.1 ch).1
   obtain⟨iF,vo⟩:∃iF:cA,iF=λb=>if b<w.heap.size then γ.o b else i:=⟨_,rfl⟩
   have AM:∀b,b<w.heap.size->iF b=γ.o b:=λb hb=>by rw[vo];exact aG hb
   have rB:∀b,w.heap.size<=b->iF b=i:=λb hb=>by rw[vo];exact aK (by omega)
   have Up:bO [i] [i] γ.o w iF w':=⟨b6.os,b6.tape,b6.output,b6.size,AM,λb h1 h2=>by rw[rB b h1];exact dZ.2 rfl,λb hb hm=>b6.rO b hb λh1=>hm (by
    have:lr γ.o i (γ.g i) b=1:=by simpa using h1
    rw[(Dl this).1];exact dZ.2 rfl)⟩
   refine⟨_,mkPost (M:=[i]) (N:=[i]) (ps:=[]) (g':=kS γ.g aq v') (v':=ga γ.v (aq+16) [⟨.sl e1,wm⟩]) hx.ob Up (by simp[fy,hU,cW.wr]) (by simp) (by simp) hx.cI (λi hi=>ul hx hi) (λi hi=>sq hx (by simp) hi) ⟨.inl hU,oL,(oF _ _ _).symm,mA⟩ ?_⟩
   intro k x hk HG
   obtain⟨rfl,dX⟩:=nC hk
   cases dX
   refine⟨fy,.inl hU,mr (γ:=γ) (i:=0) rfl (by omega) rfl,oL,b0,len,cap,(ul hx hU).trans hg,?_⟩
   show ze _ te tc (lr iF i (kS γ.g aq v' i)) 0 1 w' (kS γ.g aq v' i) wm ⟨b0,j.toNat*ad.sz (D e1)+off,none⟩ (kS γ.g aq v' aq)
   rw[ul hx hU,oF]
   refine ze.mono (λb hb h0=>⟨?_,rfl⟩) (λb hb h1=>⟨?_,rfl⟩) hH
   ·by_cases aU:b<w.heap.size
    ·rw[b6.gV b aU]at h0;obtain⟨f1,f2⟩:=Dm h0;exact S1 (by rw[AM b aU];exact f1) f2
    ·have:=b6.new b (by omega) hb;simp at this;omega
   ·by_cases aU:b<w.heap.size
    ·rw[b6.gV b aU]at h1;obtain⟨f1,f2⟩:=Dl h1;exact SZ (by rw[AM b aU];exact f1) f2
    ·refine SZ (rB b (by omega)) ?_;rw[hg];show aT b0 b=false;cases hbb:aT b0 b with
     |true=>have:=bA hbb;omega
     |false=>rfl
 |_=>cases h
def arz [Rd](hP:dQ P T)(hx:Cx U aq γ w sl L ob){t e' n:Nat}{x:aZ}{a:A1 D}{va:ah}{r:Int}(ht:aE T.de t=aa (e',n))(hu:ev L x=aa va)(eY:fR U γ w a va)(h:Q.R ob (SU a) l r):
  OW P Qx L ⟨d,.call {callee:= .builtin .len,args:= #[x],argTypes:= #[t]},ty,pos,af,gd⟩ w (λv w'=>∃γ',dP U aq γ w ob ⟨iv .i64 r (aq+16),[],[]⟩ γ' v w'):=by
 obtain⟨kQ,hT⟩:=hP.de t e' n ht
 unfold SU at h
 split at h
 ·obtain⟨_,rfl⟩:=h;exact dj (OW.len kQ hu eY.1) (ei hx rfl)
 ·obtain⟨_,rfl⟩:=h;obtain⟨_,_,_,_,p,c,rfl⟩:=eY;exact dj (OW.Al kQ hu) (ei hx rfl)
 ·obtain⟨_,rfl⟩:=h;have eY:va= .slice none 0 0:=eY;subst eY;have:=OW.len (P:=P) (Q:=Qx) (L:=L) (w:=w) (d:=d) (ty:=ty) (pos:=pos) (af:=af) (g:=gd) (α:=D n) kQ hu (CX (λ_=>True) w);exact dj this (ei hx rfl)
 ·obtain⟨ao,l',ho,rfl,h⟩:=h;cases ao with
  |box=>exact h.elim
  |im=>exact h.elim
  |cX n' t' tc q xs g h0=>obtain⟨_,rfl⟩:=h;obtain⟨_,rfl,_⟩:=eY;obtain⟨_,_,h1,_⟩:=hx.ob.ob _ _ ho;exact dj (OW.len kQ hu h1.rv) (ei hx rfl)
  |mp=>exact h.elim
  |fz n' xs K=>obtain⟨_,rfl⟩:=h;obtain⟨_,rfl,_⟩:=eY;obtain⟨_,_,h1,_⟩:=hx.ob.ob _ _ ho;exact dj (OW.len kQ hu h1) (ei hx rfl)
  |sl n' t' xs K g=>obtain⟨_,rfl⟩:=h;obtain⟨_,rfl,_⟩:=eY;obtain⟨_,_,h1,h2,_⟩:=hx.ob.ob _ _ ho;exact dj (OW.len kQ hu h1.rv) (ei hx rfl)
 ·obtain⟨ao,l',ho,rfl,h⟩:=h;obtain⟨_,hj0,p,nn,c,e1,e2,e3⟩:=eY;cases ao with
  |sl n' t' xs K g=>
   dsimp only at h;split at h
   case isFalse=>exact h.elim
   rename_i hn;have hn:=bA hn;subst hn;obtain⟨_,rfl⟩:=h;obtain⟨_,_,h1,h2,_⟩:=hx.ob.ob _ _ ho;obtain⟨p',yV,f1,_⟩:=uW h1.rv;rw[e1]at f1;simp only[ah.slice.injEq]at f1;obtain⟨_,rfl,_⟩:=f1;have:=OW.Al (P:=P) (Q:=Qx) (L:=L) (w:=w) (d:=d) (ty:=ty) (pos:=pos) (af:=af) (g:=gd) kQ (e2▸hu);refine dj this (ei hx ?_);show ah.int .i64 _=ah.int .i64 _;congr 1;show((xs.length-_:Nat):Int)=(xs.length:Int)-_;omega
  |_=>exact h.elim
 ·exact h.elim
section
variable {α:Type} [ad α] {t e:aX} {o:cA} {T:aX} {k:Nat} {K:List Nat}
def OW.Rj [Rd]{S:Nat->Prop}{u:aZ}{lo hi:Option aZ}{l h:Int}{v:ah}{xs zs:List α}(hu:P.underlying t=aa (.slice e))(hT:bN P e α)(hx:ev L u=aa v)(hr:Rv S w v xs)(AU:zf L lo 0 l)(A6:zf L hi (Dp.len xs) h)(hz:dI xs l h=aa zs):
  OW P Qx L ⟨d,.slice t u lo hi none,ty,pos,af,gd⟩ w (λv' w'=>w'=w∧Rv S w v' zs∧∃p cap,v= .slice p xs.length cap∧xs.length<=cap∧v'= .slice (if cap=l.toNat then p else p.map (·.add (l.toNat*ad.sz α))) (h.toNat-l.toNat) (cap-l.toNat)∧l<=h∧h<=xs.length):=by
 obtain⟨p,cap,rfl,h1,h2,h3⟩:=uW hr
 unfold dI at hz
 split at hz
 case isFalse=>cases hz
 rename_i hb
 cases hz
 obtain⟨b1,b2,b3⟩:=hb
 have hlen:((xs.take h.toNat).drop l.toNat).length=h.toNat-l.toNat:=by simp;omega
 refine OW.run λa ha=>⟨.slice (if cap=l.toNat then p else p.map (·.add (l.toNat*ad.sz α))) (h.toNat-l.toNat) (cap-l.toNat),w,?_,rfl,⟨_,rfl,_,cap-l.toNat,by rw[hlen],by rw[hlen];omega,by unfold maxLen at*;omega,?_⟩,p,cap,rfl,h1,rfl,b2,b3⟩
 ·have ql:h<=(cap:Int):=by omega
  have A5:(h.toNat:Int)=h:=by omega
  have rC:(l.toNat:Int)=l:=by omega
  rcases AU with⟨rfl,rfl⟩|⟨yl,rfl,hl⟩<;>rcases A6 with⟨rfl,rfl⟩|⟨yh,rfl,hh⟩
  ·simp[execOp,ha _ _ hx,Instr.sliceAt,run_underlying hu,Instr.slice,Instr.sliceBounds,hT.sizeOf,Dp.len]
  ·have b0:0<=h:=by omega
   simp[execOp,ha _ _ hx,ha _ _ hh,Instr.sliceAt,run_underlying hu,Instr.slice,Instr.sliceBounds,Instr.sliceBound,asIntOf,hT.sizeOf,b0,ql]
  ·have b0:l<=(xs.length:Int):=by unfold Dp.len at b2;omega
   simp[execOp,ha _ _ hx,ha _ _ hl,Instr.sliceAt,run_underlying hu,Instr.slice,Instr.sliceBounds,Instr.sliceBound,asIntOf,hT.sizeOf,b1,b0,Dp.len]
  ·have b0:0<=h:=by omega
   simp[execOp,ha _ _ hx,ha _ _ hl,ha _ _ hh,Instr.sliceAt,run_underlying hu,Instr.slice,Instr.sliceBounds,Instr.sliceBound,asIntOf,hT.sizeOf,b1,b0,ql,A5,b2]
 ·by_cases he:(xs.take h.toNat).drop l.toNat=[]
  ·exact .inl he
  ·have aU:l.toNat<h.toNat:=by
    rcases Nat.lt_or_ge l.toNat h.toNat with hh|hh
    ·exact hh
    ·exact(he (List.eq_nil_of_length_eq_zero (by omega))).elim
   rcases h3 with rfl|⟨a,aJ,rfl,h4,h5,h6⟩
   ·simp at he
   ·right;have eK:=h5.o9;refine⟨a.add (l.toNat*ad.sz α),(aJ.take h.toNat).drop l.toNat,?_,by rw[Pa];exact h4,(h5.take _).drop _,?_⟩
    ·rw[aK (by omega)];rfl
    ·intro j u hj;rw[E0];refine h6 _ _ ?_;rw[D5 (λc hc=>eK c (List.mem_of_mem_take hc)),Bj eK,v9,mh]at hj;split at hj
     ·exact hj
     ·cases hj
def OW.Z5 [Rd]{u:aZ}{hi:Option aZ}{h:Int}{v:ah}{xs zs:List α}(hu:P.underlying t=aa (.slice e))(hT:bN P e α)(hx:ev L u=aa v)(ho:Ow T o k K w v xs)(A6:zf L hi (Dp.len xs) h)(hz:dI xs 0 h=aa zs):
  OW P Qx L ⟨d,.slice t u none hi none,ty,pos,af,gd⟩ w (λv' w'=>w'=w∧Rv (In o (k::K)) w v' zs∧PE v v' h.toNat∧zs=xs.take h.toNat):=by
 refine OW.mono (OW.Rj hu hT hx ho.rv (.inl ⟨rfl,rfl⟩) A6 hz) ?_
 rintro v' w' ⟨h1,h2,p,cap,h3,h4,h5,h6,h7⟩
 refine⟨h1,h2,⟨p,_,cap,h3,?_,by omega⟩,?_⟩
 ·rw[h5];have:∀a:Addr,a.add 0=a:=add_zero';cases p<;>simp[this]
 ·unfold dI at hz;rw[aG ⟨by omega,h6,h7⟩]at hz;simpa using(jM hz).symm
def Ow.apX{v v':ah}{h:Int}{xs zs:List α}(ho:Ow T o k K w v xs)(hp:PE v v' h.toNat)(hz:dI xs 0 h=aa zs):Ow T o k K w v' zs:=by
 unfold dI at hz;split at hz
 case isFalse=>cases hz
 cases hz;simpa using Ow.R4 ho hp
end
def aop [Rd](hP:dQ P T)(hx:Cx U aq γ w sl L ob){fl fq:Bool}{t e' n:Nat}{x:aZ}{lo hi:Option aZ}{a:A1 D}{as:List (AV D)}(ht:aE T.de t=aa (e',n))(he:eP sl (x::(lo.toList++hi.toList))=aa (.c (.one a)::as))(h:Q.R ob (Rk fl fq aq (aq+16) n lo hi a as) l e):
  OW P Qx L ⟨d,.slice t x lo hi none,ty,pos,af,gd⟩ w (λv w'=>∃γ',dP U aq γ w ob e γ' v w'):=by
 obtain⟨kQ,hT⟩:=hP.de t e' n ht
 obtain⟨HK,DS⟩:=ur he
 obtain⟨va,hu,eY⟩:=cz hx.sr HK
 have gf:∀{x:Option aZ} {dl:Int} {as:List (AV D)} {rest:List aZ} {r:Int×List (AV D)} {l:List Nat},eP sl (x.toList++rest)=aa as->Q.R ob (y6 dl x as) l r->zf L x dl r.1∧eP sl rest=aa r.2:=by
  intro x dl as rest r l he h;cases x with
  |none=>obtain⟨_,rfl⟩:=h;exact⟨.inl ⟨rfl,rfl⟩,he⟩
  |some y=>
   cases as with
   |nil=>have:=uq he;simp at this
   |cons a as=>
    obtain⟨f1,f2⟩:=ur he;unfold y6 at h;split at h
    ·rename_i hh;cases hh
    ·rename_i q K' g' jY hh iX;cases iX;obtain⟨_,rfl⟩:=h;obtain⟨v,e1,e2⟩:=cz hx.sr f1;have e2:v= .int .i64 q:=e2.1;subst e2;exact⟨.inr ⟨y,rfl,e1⟩,f2⟩
    ·exact(h:False).elim
 have aaA:∀{i n' t' g:Nat} {xs zs:List (D n')} {K:List Nat} {v:ah},dt ob i=aa (.sl n' t' xs K g)->1000<=i->eh K->Ow t' γ.o i K w v zs->∃γ',dP U aq γ w ob ⟨.c (.one (.own aq)),[(aq,aa (.sl n' t' zs K (aq+16))),(i,none)],[]⟩ γ' v w:=by
  intro i n' t' g xs zs K v ho fy m2 hO;have hU:U i:=(hx.ob.ob _ _ ho).2.1;have ir:i≠aq:=λe=>hx.fresh aq (bw _) (by omega) (e▸hU);have oC:∀{j:Nat} {x:AO D},aE [(aq,aa (AO.sl n' t' zs K (aq+16))),(i,none)] j=aa (aa x)->j=aq∧x= .sl n' t' zs K (aq+16):=by intro j x hj;have:=dM hj;simp only[cr,v7,jN,kB,fC,reduceCtorEq,and_false]at this;exact this
  have AG:∀z,z≠i->rel [(i,aq)] z=z:=λz hz=>by
   unfold rel;split
   ·rename_i y hy;have:=(nC hy).1;exact(hz this.symm).elim
   ·rfl
  have Hg:rel [(i,aq)] i=aq:=by simp[rel,aE]
  refine⟨_,mkPost (M:=[]) (N:=[]) (ps:=[(i,aq)]) (g':=kS γ.g aq v) (v':=ga γ.v (aq+16) [⟨.sl n',zs⟩]) hx.ob (bO.refl _ _ _ _) (by simp) (by simp) (by simp[fy,cW.wr]) hx.cI (λi hi=>ul hx hi) (λi hi=>sq hx (by simp) hi) ⟨oL,(oF _ _ _).symm,hO.one⟩ ?_⟩;intro j x hj HG;obtain⟨rfl,rfl⟩:=oC hj;refine⟨hx.cI,oL,?_,m2,mr (γ:=γ) (i:=0) rfl (by omega) rfl⟩;show Ow t' _ j K w (kS γ.g j v j) zs;rw[oF];refine Ow.tK (λb hb=>?_) (λb hb=>?_) hO
  ·show rel [(i,j)] (γ.o b)=j;rw[hb,Hg]
  ·have:γ.o b≠i:=λe=>by
    unfold In at hb;have:=m2 _ hb;omega
   show rel [(i,j)] (γ.o b)∈_;rw[AG _ this];exact hb
 have plain:∀{n':Nat} {xs:List (D n')} {K:List Nat} {l:List Nat},Rv (In γ.o K) w va xs->eh K->Q.R ob (tH (aq+16) n lo hi n' xs K as) l e->
   OW P Qx L ⟨d,.slice t x lo hi none,ty,pos,af,gd⟩ w (λv w'=>∃γ',dP U aq γ w ob e γ' v w'):=by
  intro n' xs K l k1 k3 hq
  clear h
  unfold tH at hq
  split at hq
  case isFalse=>exact(hq:False).elim
  rename_i hn
  have hn:=bA hn
  subst hn
  obtain⟨l1,l2,r1,_,h1,hq⟩:=Q.fU hq
  obtain⟨l3,l4,r2,_,h2,hq⟩:=Q.fU hq
  split at hq
  case h_2=>exact(hq:False).elim
  rename_i Hm
  obtain⟨zs,hz,_,rfl⟩:=hq
  obtain⟨b1,b2⟩:=gf DS h1
  obtain⟨b3,b4⟩:=gf (rest:=[]) (by simpa using b2) h2
  refine OW.mono (OW.slice kQ hT hu k1 b1 b3 hz) ?_
  rintro v w' ⟨rfl,hr⟩
  exact⟨_,zZ hx [⟨.sl n',zs⟩] (by simp) ⟨hr,mr (γ:=γ) (i:=0) rfl (by omega) rfl,k3⟩⟩
 cases a with
 |v lf xs K g=>
  cases lf with
  |sl n'=>
   have h:Q.R ob (tH (aq+16) n lo hi n' xs K as) _ e:=h
   exact plain eY.1 eY.2.2 h
  |_=>cases h
 |bE=>
  have eY:va= .slice none 0 0:=eY
  subst eY
  unfold Rk at h
  dsimp only at h
  obtain⟨l1,l2,r1,_,h1,hq⟩:=Q.fU h
  obtain⟨l3,l4,r2,_,h2,hq⟩:=Q.fU hq
  split at hq
  case h_2=>exact(hq:False).elim
  rename_i Hm
  obtain⟨zs,hz,_,rfl⟩:=hq
  obtain⟨b1,b2⟩:=gf DS h1
  obtain⟨b3,b4⟩:=gf (rest:=[]) (by simpa using b2) h2
  have oA:∃ys,dI ([]:List (D n)) r1.1 r2.1=aa ys:=by
   have wP:=hz;unfold dI at wP;split at wP
   case isFalse=>cases wP
   rename_i hb;exact⟨_,aG hb⟩
  obtain⟨ys,oA⟩:=oA
  refine OW.mono (OW.Rj (xs:=([]:List (D n))) kQ hT hu (CX (λ_=>True) w) b1 b3 oA) ?_
  rintro v w' ⟨rfl,_,p,cap,e1,e2,e3,e4,e5⟩
  unfold dI at hz
  split at hz
  case isFalse=>cases hz
  rename_i hb
  have hv:v= .slice none 0 0:=by
   simp only[ah.slice.injEq]at e1;obtain⟨rfl,_,rfl⟩:=e1;have l0:r1.1.toNat=0:=by have:=hb.1;have:=hb.2.1;have:=hb.2.2;unfold Dp.len at this;simp at this;omega
   have h0:r2.1.toNat=0:=by have:=hb.2.2;unfold Dp.len at this;simp at this;omega
   rw[e3,l0,h0];simp
  exact⟨γ,pf hx hv⟩
 |own i=>
  obtain⟨ao,l',ho,rfl,h⟩:=h
  obtain⟨hU,rfl,_⟩:=eY
  cases ao with
  |box=>cases h
  |cX=>cases h
  |im=>cases h
  |mp=>exact h.elim
  |fz n' xs K=>
   obtain⟨_,_,k1,k2⟩:=hx.ob.ob _ _ ho
   exact plain k1 k2 h
  |sl n' t' xs K g=>
   dsimp only at h
   split at h
   case h_2=>
    rename_i _ lo1
    split at h
    case h_2=>cases h
    split at h
    case isFalse=>cases h
    rename_i hn
    have hn:=bA hn
    subst hn
    obtain⟨l1,l2,r2,_,h2,h⟩:=Q.fU h
    split at h
    case h_2=>cases h
    rename_i Hm
    have tl:∀zs,dI xs r2.1 (Dp.len xs)=aa zs->OW P Qx L ⟨d,.slice t x (aa lo1) none none,ty,pos,af,gd⟩ w (λv w'=>w'=w∧0<=r2.1∧BO (ad.sz (D n')) (γ.g i) v r2.1.toNat):=by
     intro zs hz;obtain⟨_,_,m1,_⟩:=hx.ob.ob _ _ ho;obtain⟨b3,b4⟩:=gf (rest:=[]) (by simpa using DS) h2;refine OW.mono (OW.Rj kQ hT hu m1.rv b3 (.inl ⟨rfl,rfl⟩) hz) ?_;rintro v w' ⟨rfl,_,p,cap,e1,e2,e3,e4,e5⟩;have hz0:0<=r2.1:=by
      unfold dI at hz;split at hz
      case isFalse=>cases hz
      rename_i hb;exact hb.1
     refine⟨rfl,hz0,p,xs.length,cap,e1,?_,?_⟩
     ·rw[e3];unfold Dp.len;simp
     ·unfold Dp.len at e4;omega
    cases fq with
    |false=>
     obtain⟨zs,hz,_,rfl⟩:=h
     refine OW.mono (tl zs hz) ?_
     rintro v w' ⟨rfl,k1,k2⟩
     exact⟨γ,pf hx ⟨hU,k1,k2⟩⟩
    |true=>
     obtain⟨zs,hz,_,rfl⟩:=h
     refine OW.mono (tl zs hz) ?_
     rintro v w' ⟨rfl,k1,k2⟩
     obtain⟨fy,_,m1,m2,m3⟩:=hx.ob.ob _ _ ho
     refine aaA ho fy m2 ?_
     have hd:zs=xs.drop r2.1.toNat:=by
      unfold dI at hz;split at hz
      case isFalse=>cases hz
      have:=(jM hz).symm;rw[this,List.take_of_length_le (by unfold Dp.len;simp)]
     rw[hd]
     exact Ow.tail m1 k2
   split at h
   case isFalse=>cases h
   rename_i hn
   have hn:=bA hn
   subst hn
   obtain⟨l1,l2,r2,_,h2,h⟩:=Q.fU h
   split at h
   case h_2=>cases h
   rename_i Hm
   obtain⟨fy,_,m1,m2,m3⟩:=hx.ob.ob _ _ ho
   obtain⟨b3,b4⟩:=gf (rest:=[]) (by simpa using DS) h2
   cases fl with
   |true=>
    obtain⟨zs,hz,_,rfl⟩:=h
    refine OW.mono (OW.Z5 kQ hT hu m1 b3 hz) ?_
    rintro v w' ⟨rfl,_,hp,_⟩
    exact⟨γ,pf hx ⟨hU,hp⟩⟩
   |false=>
   obtain⟨zs,hz,_,rfl⟩:=h
   refine OW.mono (OW.Z5 kQ hT hu m1 b3 hz) ?_
   rintro v w' ⟨rfl,_,hp,_⟩
   exact aaA ho fy m2 (Ow.apX m1 hp hz)
 |_=>cases h
def ax8 [Rd](hP:dQ P T)(hR:cE T)(hx:Cx U aq γ w sl L ob){t e' n i:Nat}{x:aZ}{v:ah}{j:Int}(ht:aE T.de t=aa (e',n))(hu:ev L x=aa v)(hv:fR U γ w (.tail i n j) v)
  (h:Q.R ob (.obj i λ
        | .sl n0 te xs K _=>if aT n0 n then .ret ⟨.dV [],[(i,aa (.sl n0 te (rL (T.zero n0) xs j) K (aq+16)))],[]⟩else .fail
        |_=> .fail) l e):
  OW P Qx L ⟨d,.call {callee:= .builtin .clear,args:= #[x],argTypes:= #[t]},ty,pos,af,gd⟩ w (λv w'=>∃γ',dP U aq γ w ob e γ' v w'):=by
 obtain⟨kQ,hT⟩:=hP.de t e' n ht
 obtain⟨ao,l',ho,rfl,h⟩:=h
 cases ao with
 |box=>cases h
 |cX=>cases h
 |im=>cases h
 |fz=>cases h
 |mp=>cases h
 |sl n0 te xs K g=>
  dsimp only at h
  split at h
  case isFalse=>cases h
  rename_i hn
  have hn:=bA hn
  subst hn
  obtain⟨_,rfl⟩:=h
  obtain⟨hU,_,Dy⟩:=hv
  obtain⟨fy,_,m1,m2,_⟩:=hx.ob.ob _ _ ho
  have ue:nc K [i]=ab:=Er λz hz=>by simp only[dZ];rintro rfl;have:=m2 _ hz;omega
  refine OW.mono (OW.ax9 kQ hT hu m1 Dy ue) ?_
  rintro v' w' ⟨rfl,b6,hO⟩
  rw[hR.zero]at hO
  refine⟨_,mkPost (M:=[i]) (N:=[]) (ps:=[]) (g':=γ.g) (v':=ga γ.v (aq+16) [⟨.sl n0,rL (T.zero n0) xs j⟩]) hx.ob b6 (by simp[fy,hU,cW.wr]) (by simp) (by simp) hx.cI (λ_ _=>rfl) (λi hi=>sq hx (by simp) hi) ⟨[],rfl,trivial⟩ ?_⟩
  intro k x hk kl
  obtain⟨rfl,dX⟩:=nC hk
  cases dX
  exact⟨fy,.inl hU,hO,m2,mr (γ:=γ) (i:=0) rfl (by omega) rfl⟩
def ae2 [Rd](hP:dQ P T)(hR:cE T)(hx:Cx U aq γ w sl L ob){t e' n i:Nat}{x y:aZ}{vb v:ah}{j:Int}{ys:List (D n)×List Nat}(ht:aE T.de t=aa (e',n))(hu:ev L x=aa v)(hU:U i)(j0:0<=j)
  (hv:∀{T':aX} {K:List Nat} {xs:List (D n)},Ow T' γ.o i K w (γ.g i) xs->BO (ad.sz (D n)) (γ.g i) v j.toNat) (hb:ev L y=aa vb) (hE:fB (In γ.o ys.2) w vb ys.1) (vn:eh ys.2) (h:Q.R ob (NU T aq n i j ys) l e):
  OW P Qx L ⟨d,.call {callee:= .builtin .copy,args:= #[x,y],argTypes:= #[t,t]},ty,pos,af,gd⟩ w (λv w'=>∃γ',dP U aq γ w ob e γ' v w'):=by
 obtain⟨kQ,hT⟩:=hP.de t e' n ht
 unfold NU at h
 obtain⟨ao,l',ho,rfl,h⟩:=h
 cases ao with
 |box=>cases h
 |cX=>cases h
 |im=>cases h
 |fz=>cases h
 |mp=>cases h
 |sl n0 te xs K g=>
  dsimp only at h
  split at h
  case isFalse=>cases h
  rename_i hn
  subst hn
  obtain⟨_,rfl⟩:=h
  obtain⟨fy,_,m1,m2,_⟩:=hx.ob.ob _ _ ho
  have hK:eh (ys.2++K):=λz hz=>by
   rcases bz.1 hz with hz|hz
   ·exact vn z hz
   ·exact m2 z hz
  have ue:nc (ys.2++K) [i]=ab:=Er λz hz=>by simp only[dZ];rintro rfl;have:=hK _ hz;omega
  have GU:Ow te γ.o i (ys.2++K) w (γ.g i) xs:=Ow.tK (λ_ h=>h) (λb hb=>by unfold In at hb⊢;simp[hb]) m1
  have Dy:=hv m1
  have dh:j.toNat<=xs.length:=by
   obtain⟨p,m,c,q1,_,q3⟩:=Dy;rcases m1 with⟨q,rfl⟩|⟨gg,f,cap,aV,aJ,q,_⟩
   ·rw[q]at q1;cases q1;exact q3
   ·rw[q]at q1;cases q1;exact q3
  refine OW.mono (OW.axS kQ hT hu hb GU Dy (fB.weaken (λb hb=>by unfold In at hb⊢;simp[hb]) hE) ue) ?_
  rintro v' w' ⟨rfl,b6,hO⟩
  have uh:((min ys.1.length (xs.length-j.toNat):Nat):Int)=VI (len xs) j (len ys.1):=by unfold VI len;split<;>omega
  refine⟨_,mkPost (M:=[i]) (N:=[]) (ps:=[]) (g':=γ.g) (v':=ga γ.v (aq+16) [⟨.sl n0,aeZ xs j ys.1⟩]) hx.ob b6 (by simp[fy,hU,cW.wr]) (by simp) (by simp) hx.cI (λ_ _=>rfl) (λi hi=>sq hx (by simp) hi) ?_ ?_⟩
  ·rw[uh];exact⟨rfl,LP _,lj⟩
  ·intro k x hk kl;obtain⟨rfl,dX⟩:=nC hk;cases dX;exact⟨fy,.inl hU,hO,hK,mr (γ:=γ) (i:=0) rfl (by omega) rfl⟩
def axR [Rd](hP:dQ P T)(hR:cE T)(hx:Cx U aq γ w sl L ob){t e' n:Nat}{s x:aZ}{a b:A1 D}{va vb:ah}(ht:aE T.de t=aa (e',n))(hs:ev L s=aa va)(eY:fR U γ w a va)(hb:ev L x=aa vb)(Tu:fR U γ w b vb)
  (h:Q.R ob (VK T aq n a b) l e):
  OW P Qx L ⟨d,.call {callee:= .builtin .copy,args:= #[s,x],argTypes:= #[t,t]},ty,pos,af,gd⟩ w (λv w'=>∃γ',dP U aq γ w ob e γ' v w'):=by
 unfold VK at h
 obtain⟨l1,l2,y0,_,h1,h⟩:=Q.fU h
 obtain⟨Ds,Mj⟩:=RT hx.ob h1 Tu
 have kf:fB (In γ.o (vI T n y0.2)) w vb y0.1∧eh (vI T n y0.2):=by
  unfold vI;split
  ·rename_i hf;haveI:=hR.flat hf;exact⟨fB.flat Ds,λz hz=>by cases hz⟩
  ·exact⟨Ds,Mj⟩
 cases a with
 |own i=>
  obtain⟨hU,rfl,_⟩:=eY
  refine ae2 hP hR hx ht hs hU (Int.le_refl 0) (λm1=>?_) hb kf.1 kf.2 h
  rcases m1 with⟨q,rfl⟩|⟨gg,f,cap,aV,aJ,q,_⟩
  ·exact⟨_,_,_,q,by rw[q];simp,kC _⟩
  ·refine⟨_,_,_,q,?_,kC _⟩;rw[q];have jU:(⟨gg,f,none⟩:Addr).add 0=⟨gg,f,none⟩:=jI gg f 0;simp[jU]
 |tail i n' j=>
  dsimp only at h
  split at h
  case isFalse=>cases h
  rename_i hn
  have hn:=bA hn
  subst hn
  obtain⟨hU,j0,Dy⟩:=eY
  exact ae2 hP hR hx ht hs hU j0 (λ_=>Dy) hb kf.1 kf.2 h
 |_=>cases h
def u6 [Rd](hx:Cx U aq γ w sl L ob){op:Op}{v:ah}{a:AV D}(h1:Dp.pv L op=aa v)(h2:gF U γ w a v):OW P Qx L ⟨d,op,ty,pos,af,gd⟩ w (λv w'=>∃γ',dP U aq γ w ob ⟨a,[],[]⟩ γ' v w'):=dj (OW.pv h1) (pf hx h2)
def aaZ [Rd](hx:Cx U aq γ w sl L ob){op:Op}{v:ah}{lf:Lf}{x:lf.den D}(h1:Dp.pv L op=aa v)(h2:dA (In γ.o []) w v ⟨lf,x⟩):OW P Qx L ⟨d,op,ty,pos,af,gd⟩ w (λv w'=>∃γ',dP U aq γ w ob ⟨.c (.one (.v lf x [] (aq+16))),[],[]⟩ γ' v w'):=dj (OW.pv h1) (ei hx h2)
def N6(hs:SR U γ w sl L):∀{xs:List aZ} {as:List (AV D)} {cs:List (A0 D)},eP sl xs=aa as->Da.EA as=aa cs->∃vs,oH L xs=aa vs∧nl U γ w cs vs
 |[],as,cs,h,hc=>by simp only[eP,fC]at h;subst h;simp only[Da.EA,fC]at hc;subst hc;exact⟨[],rfl,trivial⟩
 |x::r,as,cs,h,hc=>by
  cases as with
  |nil=>have:=uq h;simp at this
  |cons a as=>
   obtain⟨h1,h2⟩:=ur h;obtain⟨v,e1,e2⟩:=cz hs h1;unfold Da.EA at hc;split at hc
   ·rename_i hh;cases hh
   ·rename_i i off r' iX;cases iX;split at hc
    ·rename_i l' hl;cases hc;obtain⟨vs,e3,e4⟩:=N6 hs h2 hl;exact⟨v::vs,by simp[oH,e1,e3],e2,e4⟩
    ·cases hc
   ·rename_i n y off K r' iX;cases iX;split at hc
    ·rename_i l' hl;cases hc;obtain⟨vs,e3,e4⟩:=N6 hs h2 hl;exact⟨v::vs,by simp[oH,e1,e3],e2,e4⟩
    ·cases hc
   ·cases hc
def LA{c:Array aZ}{a:AV D}(h:eP sl c.toList=aa [a]):∃x,c= #[x]∧eQ sl x=aa a:=by
 obtain⟨l⟩:=c;have:=uq h;match l,this with
 |[x],_=>exact⟨x,rfl,oI h⟩
def wJ{c:Array aZ}{a b:AV D}(h:eP sl c.toList=aa [a,b]):∃x y,c= #[x,y]∧eQ sl x=aa a∧eQ sl y=aa b:=by
 obtain⟨l⟩:=c;have:=uq h;match l,this with
 |[x,y],_=>exact⟨x,y,rfl,(sR h).1,(sR h).2⟩
def abc{c:Array aZ}{a b d:AV D}(h:eP sl c.toList=aa [a,b,d]):∃x y z,c= #[x,y,z]∧eQ sl x=aa a∧eQ sl y=aa b∧eQ sl z=aa d:=by
 obtain⟨l⟩:=c;have:=uq h;match l,this with
 |[x,y,z],_=>cases h1:eQ sl x<;>cases h2:eQ sl y<;>cases h3:eQ sl z<;>simp[eP,h1,h2,h3]at h;exact⟨x,y,z,rfl,by rw[h1,h.1],by rw[h2,h.2.1],by rw[h3,h.2.2]⟩
def ap_{c:Array aZ}{a b d f:AV D}(h:eP sl c.toList=aa [a,b,d,f]):∃x y z u,c= #[x,y,z,u]∧eQ sl x=aa a∧eQ sl y=aa b∧eQ sl z=aa d∧eQ sl u=aa f:=by
 obtain⟨l⟩:=c;have:=uq h;match l,this with
 |[x,y,z,u],_=>cases h1:eQ sl x<;>cases h2:eQ sl y<;>cases h3:eQ sl z<;>cases h4:eQ sl u<;>simp[eP,h1,h2,h3,h4]at h;exact⟨x,y,z,u,rfl,by rw[h1,h.1],by rw[h2,h.2.1],by rw[h3,h.2.2.1],by rw[h4,h.2.2.2]⟩
def aqi [Rd](hP:dQ P T)(hR:cE T)(hx:Cx U aq γ w sl L ob){op:Op}{as:List (AV D)}(he:eP sl op.operands.toList=aa as)(h:Q.R ob (Da T aq op as) l e):
  OW P Qx L ⟨d,op,ty,pos,af,gd⟩ w (λv w'=>∃γ',dP U aq γ w ob e γ' v w'):=by
 unfold Da at h
 split at h
 ·
  obtain⟨_,rfl⟩:=h
  obtain⟨v,h1,h2⟩:=cz hx.sr (oI he)
  exact u6 hx h1 h2
 ·
  obtain⟨_,rfl⟩:=h
  obtain⟨v,h1,h2⟩:=cz hx.sr (oI he)
  exact u6 hx h1 h2
 ·
  rename_i c a b _ _ _
  split at h
  case h_2=>cases h
  rename_i dd K g
  obtain⟨e1,e2,e3⟩:=Vf he
  obtain⟨v1,h1,m_⟩:=cz hx.sr e1
  obtain⟨v2,h2,Bd⟩:=cz hx.sr e2
  obtain⟨v3,h3,D2⟩:=cz hx.sr e3
  have avZ:v1= .bool dd:=m_.1
  subst avZ
  cases dd with
  |true=>
   obtain⟨_,rfl⟩:=h
   exact u6 hx (by simp only[Dp.pv,h1];exact h2) Bd
  |false=>
   obtain⟨_,rfl⟩:=h
   exact u6 hx (by simp only[Dp.pv,h1];exact h3) D2
 ·
  obtain⟨e1,e2⟩:=sR he
  split at h
  ·split at h
   case h_2=>cases h
   rename_i n hn;exact axq hP hx hn e1 e2 h
  ·split at h
   case h_2=>cases h
   rename_i hn;exact IY hP hx hn e1 e2 h
  ·split at h
   case h_2=>cases h
   rename_i q hq;obtain⟨te,n⟩:=q;exact aqI (hP.de _ _ _ hq).1 hx e1 e2 h
  ·exact aCc hx e1 e2 h
 ·
  split at h
  case h_2=>cases h
  obtain⟨_,rfl⟩:=h
  obtain⟨v,h1,h2⟩:=cz hx.sr (oI he)
  have h2:=h2.1
  dsimp only[dA]at h2
  subst h2
  exact aaZ hx (by simp only[Dp.pv,h1]) rfl
 ·
  split at h
  case h_2=>cases h
  obtain⟨_,rfl⟩:=h
  obtain⟨v,h1,h2⟩:=cz hx.sr (oI he)
  have h2:=h2.1
  dsimp only[dA]at h2
  subst h2
  exact aaZ hx (by simp only[Dp.pv,h1]) rfl
 ·
  split at h
  ·obtain⟨_,rfl⟩:=h;obtain⟨v,h1,h2⟩:=cz hx.sr (oI he);obtain⟨hU,b,hg,rfl⟩:=id h2;exact u6 hx (by simp only[Dp.pv,h1,fN]) h2
  ·obtain⟨_,rfl⟩:=h;obtain⟨v,h1,h2⟩:=cz hx.sr (oI he);obtain⟨pa,rfl,_⟩:=id h2;exact u6 hx (by simp only[Dp.pv,h1]) h2
  ·obtain⟨_,rfl⟩:=h;obtain⟨v,h1,h2⟩:=cz hx.sr (oI he);obtain⟨_,_,_,_,b,f,len,cap,_,rfl⟩:=id h2;exact u6 hx (by simp only[Dp.pv,h1,fN]) h2
  ·exact(h:False).elim
 ·
  split at h
  case h_2=>cases h
  split at h
  case h_2=>cases h
  rename_i i _ ll x dX
  obtain⟨_,rfl⟩:=h
  obtain⟨v,h1,us,rfl,h2⟩:=cz hx.sr (oI he)
  have:∀{ll:List (AC D)} {us:List ah} {i:Nat} {x:AC D},jf U γ w ll us->ll[i]? =aa x->∃u,us[i]? =aa u∧nk U γ w x u:=by
   intro ll;induction ll with
   |nil=>intro us i x _ h;simp at h
   |cons a ll ih=>
    intro us i x h hi;cases us with
    |nil=>exact h.elim
    |cons u us=>
     cases i with
     |zero=>cases hi;exact⟨u,rfl,h.1⟩
     |succ i=>simpa using ih h.2 (by simpa using hi)
  obtain⟨u,h3,h4⟩:=this h2 dX
  exact u6 hx (by simp only[Dp.pv,h1];simpa using h3) h4
 ·
  rename_i _ _ t x i a
  have Si:∀{o:Nat},Sj T t i=aa o->Fj P t i o:=by
   intro o ho;unfold Sj at ho;split at ho
   ·rename_i pl qh;split at ho
    ·rename_i p hp;cases ho;exact(hP.um t pl qh).2 i p.1 p.2 hp
    ·cases ho
   ·cases ho
  obtain⟨v,h1,h2⟩:=cz hx.sr (oI he)
  split at h
  ·rename_i o j off ho;obtain⟨_,rfl⟩:=h;obtain⟨hU,b,hg,rfl⟩:=h2;have:=OW.U5 (P:=P) (Q:=Qx) (L:=L) (w:=w) (d:=d) (ty:=ty) (pos:=pos) (af:=af) (g:=gd) (Si ho) h1;refine dj this (pf hx ⟨hU,b,hg,?_⟩);unfold fN Addr.add;split<;>simp_all
  ·rename_i o n y off K ho;obtain⟨_,rfl⟩:=h;obtain⟨pa,rfl,h3,h4⟩:=h2;have:=OW.U5 (P:=P) (Q:=Qx) (L:=L) (w:=w) (d:=d) (ty:=ty) (pos:=pos) (af:=af) (g:=gd) (Si ho) h1;exact dj this (pf hx ⟨pa,by rw[E0],h3,h4⟩)
  ·rename_i o j n k y off tc tj ho;obtain⟨_,rfl⟩:=h;obtain⟨h3,h4,h5,h6,b,f,len,cap,h7,rfl⟩:=h2;have:=OW.U5 (P:=P) (Q:=Qx) (L:=L) (w:=w) (d:=d) (ty:=ty) (pos:=pos) (af:=af) (g:=gd) (Si ho) h1;refine dj this (pf hx ⟨h3,h4,h5,h6,b,f,len,cap,h7,?_⟩);rw[jI];unfold fN;rw[qU,qU]
  ·exact(h:False).elim
 ·
  split at h
  case h_2=>cases h
  rename_i eb p ht
  obtain⟨v,h1,h2⟩:=cz hx.sr (oI he)
  exact arj hP hR hx ht h1 h2 h
 ·
  split at h
  case h_2=>cases h
  rename_i eb p ht
  obtain⟨e1,e2⟩:=sR he
  obtain⟨v,h1,h2⟩:=cz hx.sr e1
  obtain⟨v',h3,h4⟩:=cz hx.sr e2
  exact anD hP hR hx ht h1 h2 h3 h4 h
 ·
  split at h
  case h_2=>cases h
  rename_i cs iY
  split at h
  case isFalse=>cases h
  rename_i hs
  obtain⟨_,rfl⟩:=h
  obtain⟨v,h1,h2⟩:=cz hx.sr (oI he)
  exact aB8 hx h1 h2 iY hs
 ·
  split at h
  case h_2=>cases h
  rename_i eb ht
  split at h
  case h_2=>cases h
  rename_i cs hz
  obtain⟨_,rfl⟩:=h
  exact aCp hP hx ht hz
 ·
  split at h
  ·rename_i m e' n ht;split at h
   case isFalse=>cases h
   rename_i hb;simp only[bq]at hb;obtain⟨l1,l2,r,_,h1,h2⟩:=Q.fU h;split at h2
   ·split at h2
    case isFalse=>exact(h2:False).elim
    rename_i eH;simp only[bq,List.isEmpty_iff]at eH;obtain⟨_,rfl⟩:=h2;exact aBX hP hR hx ht hb.1 (bA hb.2) he h1 eH.1 (dm eH.2)
   obtain⟨_,rfl⟩:=h2;exact aBW hP hR hx ht hb.1 (bA hb.2) he h1
  split at h
  case h_2=>cases h
  rename_i n pl ht hl
  split at h
  case h_2=>cases h
  rename_i cs iY
  obtain⟨_,rfl⟩:=h
  exact aBT hP hx ht hl he iY
 ·
  split at h
  case h_4=>cases h
  case h_3=>
   rename_i x K' g ki j K2 tj tY
   split at h
   case h_2=>cases h
   rename_i cL
   obtain⟨c,hc,_,rfl⟩:=h
   obtain⟨e1,e2⟩:=sR he
   obtain⟨v,g1,g2⟩:=cz hx.sr e1
   obtain⟨v',g3,g4⟩:=cz hx.sr e2
   have g5:v'= .int ki j:=g4.1
   have g6:v= .string x:=g2.1
   subst g5 g6
   exact dj (OW.ass (hP.ty _ _ cL).2 g1 g3 hc) (ei hx rfl)
  case h_2=>
   rename_i m e' n cs j K' tj ht
   split at h
   ·exact(h:False).elim
   rename_i HO
   obtain⟨l1,l2,x,_,h1,h⟩:=Q.fU h
   split at h
   case isFalse=>cases h
   rename_i hb
   simp only[bq,List.isEmpty_iff]at hb
   obtain⟨y,hy,h⟩:=h
   dsimp only at h
   split at h
   case h_2=>cases h
   rename_i r hr
   obtain⟨_,rfl⟩:=h
   obtain⟨e1,e2⟩:=sR he
   obtain⟨v,g1,us,rfl,g2⟩:=cz hx.sr e1
   obtain⟨v',g3,g4⟩:=cz hx.sr e2
   have g5:v'= .int .i64 j:=g4.1
   subst g5
   have g6:=aCs hR hx.ob (by simpa using HO) h1 g2 hb.1
   exact aci hP hR hx ht (bA hb.2) g1 g6 g3 hy hr
  rename_i m e' n n' xs K j K' tj ht
  split at h
  case isFalse=>cases h
  rename_i hb
  simp only[bq]at hb
  obtain⟨hn,hm⟩:=hb
  have hn:=bA hn
  subst hn
  obtain⟨y,hy,h⟩:=h
  dsimp only at h
  split at h
  case h_2=>cases h
  rename_i r hr
  obtain⟨_,rfl⟩:=h
  obtain⟨e1,e2⟩:=sR he
  obtain⟨v,h1,h2⟩:=cz hx.sr e1
  obtain⟨v',h3,h4⟩:=cz hx.sr e2
  have h5:v'= .int .i64 j:=h4.1
  subst h5
  exact aci hP hR hx ht (bA hm) h1 h2 h3 hy hr
 ·
  split at h
  case h_2=>cases h
  rename_i e' n ht
  split at h
  case isFalse=>cases h
  rename_i hb
  simp only[bq]at hb
  obtain⟨l1,l2,r,_,h1,h2⟩:=Q.fU h
  obtain⟨_,rfl⟩:=h2
  exact aBU hP hR hx ht hb.1.1 (bA hb.1.2) (dm hb.2) he h1
 ·
  split at h
  case h_3=>cases h
  case h_2=>
   rename_i io _ _ _ b off j K tj ht
   split at h
   case h_2=>cases h
   rename_i m e' n q har
   split at h
   case isFalse=>cases h
   rename_i hq
   obtain⟨_,rfl⟩:=h
   obtain⟨e1,e2⟩:=sR he
   obtain⟨v,h1,h2⟩:=cz hx.sr e1
   obtain⟨hU,c,hg,rfl⟩:=h2
   have hA:=hP.qL _ _ _ _ har
   have:=OW.asf (P:=P) (Q:=Qx) (L:=L) (w:=w) (d:=d) (ty:=ty) (pos:=pos) (af:=af) (g:=gd) (i:= .const (.int .i64 (Int.ofNat q))) hA.uS hA.el h1 rfl (dm hq)
   refine dj this (pf hx ⟨hU,c,hg,?_⟩)
   rw[hR.sz]
   unfold fN Addr.add
   split<;>simp_all
  rename_i e' n a j K tj ht
  obtain⟨e1,e2⟩:=sR he
  obtain⟨v,h1,h2⟩:=cz hx.sr e1
  obtain⟨v',h3,h4⟩:=cz hx.sr e2
  have h5:v'= .int .i64 j:=h4.1
  subst h5
  exact asr hP hx ht h1 h2 h3 h4.2.1 h
 ·
  split at h
  case h_2=>cases h
  rename_i e' n m K g ht
  split at h
  case isFalse=>cases h
  rename_i hs
  obtain⟨zs,hz,h⟩:=h
  obtain⟨e1,e2⟩:=sR he
  obtain⟨v,h1,h2⟩:=cz hx.sr e1
  have h5:v= .int .i64 m:=h2.1
  subst h5
  dsimp only at h
  split at h
  ·rename_i tc q hk;obtain⟨_,rfl⟩:=h;exact aq1 hP hR hx ht hk h1 hs hz
  ·obtain⟨_,rfl⟩:=h;exact aqZ hP hR hx ht h1 hs hz
 ·
  rename_i _ _ t x lo hi a jY
  split at h
  case h_2=>cases h
  rename_i e' n a ht
  exact aop hP hx ht (by simpa[Op.operands]using he) h
 ·
  split at h
  case h_2=>cases h
  rename_i kt vt n ht
  obtain⟨_,rfl⟩:=h
  exact aq0 hx
 ·
  split at h
  case h_2=>cases h
  rename_i kt vt n ht
  obtain⟨e1,e2⟩:=sR he
  exact aqU hP hR hx ht e1 e2 h
 ·
  split at h
  case h_2=>cases h
  rename_i kt vt n ht
  obtain⟨e1,e2,e3⟩:=Vf he
  exact abp hP hR hx (.inl rfl) ht e1 e2 e3 h
 ·
  split at h
  case h_2=>cases h
  rename_i kt vt n ht
  obtain⟨e1,e2,e3⟩:=Vf he
  exact abp hP hR hx (.inr rfl) ht e1 e2 e3 h
 ·
  split at h
  case h_4=>cases h
  case h_2=>
   rename_i m0 x K g DA ht0
   split at h
   case h_2=>cases h
   rename_i te n hq
   split at h
   case h_2=>cases h
   rename_i Ty
   split at h
   case isFalse=>cases h
   rename_i nI
   obtain⟨xs,eF,_,rfl⟩:=h
   obtain⟨v,h1,h2⟩:=cz hx.sr (oI he)
   have h5:v= .string x:=h2.1
   subst h5
   exact aBS hR hx (hP.ty _ _ DA).2 (hP.de _ _ _ hq).1 (hP.ty _ _ Ty).2 nI h1 eF
  case h_3=>
   rename_i m0 a DA ht0
   split at h
   case h_2=>cases h
   rename_i te n hq
   split at h
   case h_2=>cases h
   rename_i Ty
   split at h
   case isFalse=>cases h
   rename_i nI
   obtain⟨l1,l2,r,_,h1,h2⟩:=Q.fU h
   obtain⟨_,rfl⟩:=h2
   obtain⟨v,h3,h4⟩:=cz hx.sr (oI he)
   exact anA hR hx (hP.de _ _ _ hq).1 (hP.ty _ _ Ty).2 (hP.ty _ _ ht0).2 nI h3 (RT hx.ob h1 h4).1
  rename_i k1 k2 k3 n K g hs ht
  obtain⟨v,h1,h2⟩:=cz hx.sr (oI he)
  have h5:v= .int _ n:=h2.1
  subst h5
  have u1:P.underlying _=aa (.int _):=(hP.ty _ _ hs).2
  have u2:P.underlying _=aa (.int _):=(hP.ty _ _ ht).2
  split at h
  ·obtain⟨_,rfl⟩:=h;have:=OW.conv (P:=P) (Q:=Qx) (L:=L) (w:=w) (d:=d) (ty:=ty) (pos:=pos) (af:=af) (g:=gd) ⟨_,u1⟩ u2 h1
   exact dj this (ei hx rfl)
  ·obtain⟨_,rfl⟩:=h;refine dj (v:= .int k2 (k2.wrap n)) (OW.run λa ha=>⟨_,w,?_,rfl,rfl⟩) (ei hx rfl);simp[execOp,ha _ _ h1,convert,run_underlying u1,run_underlying u2,Conv.intToInt]
 ·
  rename_i f first jc
  split at h
  case isFalse=>cases h
  rename_i hf
  split at h
  case h_2=>cases h
  rename_i cs iY
  split at h
  ·rename_i h0;have h0:=bA h0;have h0:first= #[]:=by simpa using h0
   subst h0;obtain⟨_,rfl⟩:=h;obtain⟨vs,h1,h2⟩:=N6 hx.sr (by simpa[Op.operands]using he) iY;exact u6 hx (v:= .func (.func f) #[] vs.toArray) (by simp[Dp.pv,oH,h1]) ⟨vs,by unfold xg;rw[aG hf],h2⟩
  ·split at h
   case isFalse=>cases h
   rename_i h0;have h0:=bA h0;have h0:jc= #[]:=by simpa using h0
   subst h0;obtain⟨_,rfl⟩:=h;obtain⟨vs,h1,h2⟩:=N6 hx.sr (by simpa[Op.operands]using he) iY;have hb:¬Nat.blt (f+1000000) 1000000=ab:=λhh=>by have:=dm hh;omega
   exact u6 hx (v:= .func (.func f) vs.toArray #[]) (by simp[Dp.pv,oH,h1]) ⟨vs,by unfold xg;rw[aK hb,Nat.add_sub_cancel],h2⟩
 ·
  rename_i b N5 ts
  have sK:eP sl N5.toList=aa as:=by simpa[Op.operands,Call.operands]using he
  split at h
  ·
   split at h
   case h_2=>cases h
   rename_i t cL
   split at h
   case h_2=>
    split at h
    case h_2=>cases h
    rename_i hty
    obtain⟨_,rfl⟩:=h
    obtain⟨x,rfl,Ax⟩:=LA sK
    obtain⟨v,h3,h4⟩:=cz hx.sr Ax
    have h5:v= .string _:=h4.1
    subst h5
    have ry:ts= #[t]:=xw.1 cL
    subst ry
    exact dj (OW.arA (hP.ty _ _ hty).2 h3) (ei hx rfl)
   rename_i p ht
   obtain⟨e',n⟩:=p
   obtain⟨l1,l2,r,_,h1,h2⟩:=Q.fU h
   obtain⟨_,rfl⟩:=h2
   obtain⟨x,rfl,Ax⟩:=LA sK
   obtain⟨v,h3,h4⟩:=cz hx.sr Ax
   have ry:ts= #[t]:=xw.1 cL
   subst ry
   exact arz hP hx ht h3 h4 h1
  ·
   obtain⟨_,rfl⟩:=h
   obtain⟨x,y,rfl,h1,h2⟩:=wJ sK
   obtain⟨v,h3,h4⟩:=cz hx.sr h1
   obtain⟨v',h5,h6⟩:=cz hx.sr h2
   have h4:=h4.1
   have h6:=h6.1
   dsimp only[dA]at h4 h6
   subst h4 h6
   exact dj (OW.min h3 h5) (ei hx rfl)
  ·
   obtain⟨_,rfl⟩:=h
   obtain⟨x,y,rfl,h1,h2⟩:=wJ sK
   obtain⟨v,h3,h4⟩:=cz hx.sr h1
   obtain⟨v',h5,h6⟩:=cz hx.sr h2
   have h4:=h4.1
   have h6:=h6.1
   dsimp only[dA]at h4 h6
   subst h4 h6
   exact dj (OW.max h3 h5) (ei hx rfl)
  ·
   obtain⟨_,rfl⟩:=h
   obtain⟨x,y,z,rfl,h1,h2,h0⟩:=abc sK
   obtain⟨v,h3,h4⟩:=cz hx.sr h1
   obtain⟨v',h5,h6⟩:=cz hx.sr h2
   obtain⟨Zo,h7,h8⟩:=cz hx.sr h0
   have h4:=h4.1
   have h6:=h6.1
   have h8:=h8.1
   dsimp only[dA]at h4 h6 h8
   subst h4 h6 h8
   exact dj (OW.aqX h3 h5 h7) (ei hx rfl)
  ·
   obtain⟨_,rfl⟩:=h
   obtain⟨x,y,z,u,rfl,h1,h2,h0,h9⟩:=ap_ sK
   obtain⟨v,h3,h4⟩:=cz hx.sr h1
   obtain⟨v',h5,h6⟩:=cz hx.sr h2
   obtain⟨Zo,h7,h8⟩:=cz hx.sr h0
   obtain⟨v4,g7,g8⟩:=cz hx.sr h9
   have h4:=h4.1
   have h6:=h6.1
   have h8:=h8.1
   have g8:=g8.1
   dsimp only[dA]at h4 h6 h8 g8
   subst h4 h6 h8 g8
   exact dj (OW.aqW h3 h5 h7 g7) (ei hx rfl)
  ·
   obtain⟨_,rfl⟩:=h
   obtain⟨x,y,z,rfl,h1,h2,h0⟩:=abc sK
   obtain⟨v,h3,h4⟩:=cz hx.sr h1
   obtain⟨v',h5,h6⟩:=cz hx.sr h2
   obtain⟨Zo,h7,h8⟩:=cz hx.sr h0
   have h4:=h4.1
   have h6:=h6.1
   have h8:=h8.1
   dsimp only[dA]at h4 h6 h8
   subst h4 h6 h8
   exact dj (OW.aqT h3 h5 h7) (ei hx rfl)
  ·
   split at h
   case h_2=>cases h
   rename_i t cL
   split at h
   case h_2=>cases h
   rename_i e' n' ht
   split at h
   case isFalse=>cases h
   rename_i hn
   have hn:=bA hn
   subst hn
   obtain⟨x,rfl,Ax⟩:=LA sK
   obtain⟨v,h3,h4⟩:=cz hx.sr Ax
   have ry:ts= #[t]:=xw.1 cL
   subst ry
   exact ax8 hP hR hx ht h3 h4 h
  ·
   split at h
   case h_2=>cases h
   rename_i t t' cL
   split at h
   case isFalse=>cases h
   rename_i mW
   have mW:=bA mW
   subst mW
   split at h
   case h_2=>cases h
   rename_i e' n' ht
   obtain⟨x,y,rfl,h1,h2⟩:=wJ sK
   obtain⟨v,h3,h4⟩:=cz hx.sr h1
   obtain⟨v',h5,h6⟩:=cz hx.sr h2
   have ry:ts= #[t,t]:=xw.1 cL
   subst ry
   exact axR hP hR hx ht h3 h4 h5 h6 h
  ·
   split at h
   case h_2=>cases h
   rename_i t t' cL
   split at h
   case isFalse=>
    split at h
    case h_2=>cases h
    rename_i e' n k g K tk ht yn
    obtain⟨x,y,rfl,h1,h2⟩:=wJ sK
    obtain⟨v,h3,h4⟩:=cz hx.sr h1
    obtain⟨v',h5,h6⟩:=cz hx.sr h2
    have ry:ts= #[_,_]:=xw.1 cL
    subst ry
    have h6:=h6.1
    dsimp only[dA]at h6
    subst h6
    obtain⟨zs,hz,_,rfl⟩:=h
    exact akG hP hR hx ht yn (by rw[h3];exact ik aa h4) h5 hz
   rename_i mW
   have mW:=bA mW
   subst mW
   split at h
   case h_2=>cases h
   rename_i e' n ht
   obtain⟨x,y,rfl,h1,h2⟩:=wJ sK
   obtain⟨v,h3,h4⟩:=cz hx.sr h1
   obtain⟨v',h5,h6⟩:=cz hx.sr h2
   have ry:ts= #[t,t]:=xw.1 cL
   subst ry
   exact aCh hP hR hx ht h3 h4 h5 h6 h
  ·
   split at h
   case h_2=>cases h
   rename_i t cL
   split at h
   case h_2=>cases h
   rename_i p ht
   obtain⟨_,rfl⟩:=h
   obtain⟨x,rfl,Ax⟩:=LA sK
   obtain⟨v,h3,h4⟩:=cz hx.sr Ax
   have ry:ts= #[t]:=xw.1 cL
   subst ry
   have h4:v= .slice none 0 0:=h4
   subst h4
   have hu:=(hP.de t p.1 p.2 ht).1
   refine dj (v:= .int .i64 0) (OW.run λa ha=>⟨_,w,?_,rfl,rfl⟩) (ei hx rfl)
   simp[execOp,resolve,invoke,builtin,dL.cap_,run_underlying hu,ha _ _ h3,goInt]
  ·exact(h:False).elim
 ·exact(h:False).elim
