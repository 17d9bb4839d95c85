import Derived.Test.YtmngjhagbjgmfaaGreatRs
import Derived.Lib.AppendZeros
set_option linter.all false
open Array renaming getElem?_eq_some_iff->jB,length_toList->oc,toList_inj->xA
open Bool renaming and_eq_true->bt,not_eq_true'->pV,true->ab
open Go renaming Builtin->dN,Operand->a_,TypeId->aY,Value->ah,World->ay
open List renaming getElem?_drop->wc,getElem?_eq_some_iff->gK,getElem?_take->ml,mem_append->bA,mem_cons->cu,mem_singleton->eb,nil_append->oV,not_mem_nil->jQ,replicate->cU
open Nat renaming add_assoc->qX,add_mul->iT,beq->aU,ble_eq_true_of_le->Jr,eq_of_beq_eq_true->bB,le_of_ble_eq_true->dp,le_refl->bx,mul_le_mul_right->mj,zero_add->kG,zero_le->kF
open Option renaming none->ak,some->aa
open Option.some renaming inj->jP,injEq->fE
open Prod.mk renaming injEq->wa
namespace Go.Proofs.YtmngjhagbjgmfaaGreat
open Go Go.RowKit Dp
namespace Rx
section
variable {D:Nat->Type} [∀n,ad (D n)]
variable {P:Program} {T:bc D} {Qx:Exit->Act->ay->Prop} {U:Nat->Prop} {ar:Nat} {γ:Gh D} {w:ay} {sl:List (Nat×AV D)} {L:List (Nat×ah)} {ob:List (Nat×Option (AO D))}
 {d:Option Tmp} {ty:aY} {pos:String} {af:Array Edge} {gd:Option (Nat×Bool)} {e:cY D} {l:List Nat}
def aa8(hs:SR U γ w sl L){pl:List (Nat×Nat)}:∀{ps:List (Nat×a_)} {as:List (AV D)} {cs jd:List (A1 D)} {us:List ah},ya T pl cs ps as=aa jd->eR sl (ps.map (·.2))=aa as->db U γ w cs us->
  ∃vs so mS,Bq L ps=aa vs∧PJ vs so∧Bo pl us so=aa mS∧db U γ w jd mS
 |[],as,cs,jd,us,h,he,hv=>by
  cases as with
  |nil=>simp only[ya,fE]at h;subst h;exact⟨[],[],us,rfl,trivial,rfl,hv⟩
  |cons _ _=>simp[ya]at h
 |(i,x)::r,as,cs,jd,us,h,he,hv=>by
  cases as with
  |nil=>simp[ya]at h
  |cons a as=>
   obtain⟨h1,h2⟩:=ux he;simp only[ya]at h;split at h
   case h_2=>cases h
   rename_i off sz us1 ql hc;split at h
   case isFalse=>cases h
   rename_i hlen;split at h
   case h_2=>cases h
   rename_i cs1 ja;obtain⟨v,b7,hvv⟩:=cA hs h1;have bV:us1.all storable=ab:=by
    unfold CF at ja;split at ja
    ·rename_i hb;simp only[bt]at hb;exact hb.2
    ·cases ja
   obtain⟨Zl,k1,k2,k3⟩:=V2 hc hvv bV;obtain⟨m1,_,m3,m4⟩:=hv.ZV k1 ja;obtain⟨vs,so,mS,n1,n2,n3,n4⟩:=aa8 hs h h2 m4;have hlen:=bB hlen;refine⟨(i,v)::vs,(i,Zl)::so,mS,by simp[Bq,b7,n1],⟨rfl,k2,n2⟩,?_,n4⟩;have e1:Zl.length=sz:=by rw[<-k1.length];exact hlen
   simp only[Bo,ql];rw[aH ⟨by rw[e1];exact Nat.beq_refl sz,by rw[<-e1];exact Jr m1⟩];exact n3
def aBX [Rd](hP:dS P T)(hx:Cx U ar γ w sl L ob){t:aY}{n:Nat}{pl:List (Nat×Nat)}{ps:Array (Nat×a_)}{as:List (AV D)}{cs:List (A1 D)}(ht:aF T.ty t=aa (.st n))(hl:aF T.uu t=aa pl)
  (he:eR sl (ps.toList.map (·.2))=aa as) (h:ya T pl (wh.BC (T.lv n)) ps.toList as=aa cs):
  OW P Qx L ⟨d,.build t ps,ty,pos,af,gd⟩ w (λv w'=>∃γ',dR U ar γ w ob ⟨.c (.agg cs),[],[]⟩ γ' v w'):=by
 have hT:=(hP.ty t _ ht).1
 obtain⟨vs,so,us,h1,h2,h3,h4⟩:=aa8 hx.sr h he (PX (γ:=γ) (by simp[In]) (T.lv n))
 have:=OW.aBZ (P:=P) (Qx:=Qx) (L:=L) (w:=w) (d:=d) (ty:=ty) (pos:=pos) (af:=af) (g:=gd) so us (hP.uu t pl hl).1 hT h1 h2 h3
 exact dm this (pj hx ⟨us,rfl,h4⟩)
def aph(hR:cF T)(bH:OB U γ w ob){n:Nat}{a:AV D}{v:ah}{r:D n×List Nat×List Nat}(h:Q.R ob (RY T n a) l r)(hv:gI U γ w a v):
  Rv (In γ.o (r.2.2++r.2.1)) w v r.1∧ek r.2.1∧(∀i∈r.2.2,1000<=i∧U i)∧(r.2.2≠[]->1∈r.2.1):=by
 unfold RY at h
 split at h
 case isFalse=>exact h.elim
 rename_i MW
 split at h
 case h_2=>exact h.elim
 rename_i cs ja
 obtain⟨l1,l2,x,_,h1,h2⟩:=Q.fW h
 split at h2
 case h_2=>exact h2.elim
 rename_i y hy
 obtain⟨_,rfl⟩:=h2
 obtain⟨vs,k1,k2⟩:=V4 ja hv
 obtain⟨r1,r2,r3,r4⟩:=C_ bH h1 k1
 refine⟨⟨vs,?_,?_⟩,r2,r3,r4⟩
 ·rw[hR.ag];rcases k2 with⟨u,rfl,rfl,b,rfl⟩|⟨rfl,b,rfl⟩
  ·simp only[U7,pV]at MW;simp[MW,pack]
  ·simp only[U7]at MW;simp[MW,pack]
 ·rw[hR.rd,hR.iX hy];exact r1
def GK(hR:cF T)(bH:OB U γ w ob){n:Nat}:∀{as:List (AV D)} {vs:List ah} {l:List Nat} {r:List (D n)×List Nat×List Nat},Q.R ob (u7 T n as) l r->np U γ w as vs->
  xv (In γ.o (r.2.2++r.2.1)) w vs r.1∧ek r.2.1∧(∀i∈r.2.2,1000<=i∧U i)∧(r.2.2≠[]->1∈r.2.1)∧r.1.length=as.length
 |[],vs,l,r,h,hv=>by
  obtain⟨_,rfl⟩:=h;cases vs with
  |nil=>exact⟨trivial,lr,by simp,λh=>(h rfl).elim,rfl⟩
  |cons _ _=>exact hv.elim
 |a::as,vs,l,r,h,hv=>by
  cases vs with
  |nil=>exact hv.elim
  |cons v vs=>
   simp only[u7]at h;obtain⟨l1,l2,x,_,h1,h2⟩:=Q.fW h;obtain⟨l3,l4,y,_,h3,h4⟩:=Q.fW h2;obtain⟨_,rfl⟩:=h4;obtain⟨i1,i2,i3,i4⟩:=aph hR bH h1 hv.1;obtain⟨j1,j2,j3,j4,j5⟩:=GK hR bH h3 hv.2;have mono:∀{vs:List ah} {xs:List (D n)},xv (In γ.o (y.2.2++y.2.1)) w vs xs->xv (In γ.o ((x.2.2++y.2.2)++(x.2.1++y.2.1))) w vs xs:=by
    intro vs;induction vs with
    |nil=>intro xs h;cases xs with
     |nil=>trivial
     |cons _ _=>exact h.elim
    |cons u us ih=>intro xs h;cases xs with
     |nil=>exact h.elim
     |cons z zs=>exact⟨h.1.weaken λb hb=>by unfold In at hb⊢;rcases bA.1 hb with hb|hb<;>simp[hb],ih h.2⟩
   refine⟨⟨i1.weaken λb hb=>?_,mono j1⟩,?_,?_,λh=>?_,by simp[j5]⟩
   ·unfold In at hb⊢;rcases bA.1 hb with hb|hb<;>simp[hb]
   ·intro z hz;rcases bA.1 hz with hz|hz
    ·exact i2 z hz
    ·exact j2 z hz
   ·intro z hz;rcases bA.1 hz with hz|hz
    ·exact i3 z hz
    ·exact j3 z hz
   ·rw[bA];by_cases h5:x.2.2=[]
    ·exact .inr (j4 λh6=>h (by simp[h5,h6]))
    ·exact .inl (i4 h5)
def aep{fz:List Nat}(h:∀i∈fz,1000<=i∧U i){e:cY D}(he:e.fz=fz):∀p∈nR fz,1000<=p.1∧(U p.1->p.1∈e.wr)∧(p.2=1∨(ar<=p.2∧p.2<ar+128)):=by intro p hp;simp only[nR,List.mem_map]at hp;obtain⟨q,hq,rfl⟩:=hp;exact⟨(h q hq).1,λ_=>by simp[cY.wr,he,hq],.inl rfl⟩
def KD(hx:Cx U ar γ w sl L ob){n t:Nat}{xs:List (D n)}{K fz:List Nat}{o':cB}{w':ay}{v:ah}(hK:ek K)(ko:∀i∈fz,1000<=i∧U i)(h1:fz≠[]->1∈K)(b7:bP [] [ar] γ.o w o' w')(hO:Ow t o' ar (fz++K) w' v xs):
  ∃γ',dR U ar γ w ob ⟨.c (.one (.own ar)),[(ar,aa (.sl n t xs K (ar+16)))],fz⟩ γ' v w':=by
 have DJ:ar∉fz:=λh=>hx.fresh ar (bx _) (by omega) (ko _ h).2
 refine⟨_,mkPost (M:=[]) (N:=[ar]) (ps:=nR fz) (g':=kV γ.g ar v) (v':=gh γ.v (ar+16) [⟨.sl n,xs⟩]) hx.ob b7 (by simp) (by simp) (aep ko rfl) hx.cJ (λi hi=>ur hx hi) (λi hi=>sw hx (by simp) hi) ⟨oO,(oI _ _ _).symm,hO.one⟩ ?_⟩
 intro j x hj HM
 obtain⟨rfl,dZ⟩:=nF hj
 cases dZ
 refine⟨hx.cJ,oO,?_,hK,mx (γ:=γ) (i:=0) rfl (by omega) rfl⟩
 show Ow t _ ar K w' (kV γ.g ar v ar) xs
 rw[oI]
 refine Ow.tO (λb hb=>?_) (λb hb=>?_) hO
 ·show rel (nR fz) (o' b)=ar;rw[hb,GG.2 DJ]
 ·exact U5 hK h1 (λi hi=>(ko i hi).1) b hb
def KM(hs:SR U γ w sl L):∀{ps:List (Nat×a_)} {k:Nat} {as:List (AV D)},xP k ps=ab->eR sl (ps.map (·.2))=aa as->∃vs,yb L k ps=aa vs∧np U γ w as vs
 |[],k,as,_,h=>by simp only[List.map_nil,eR,fE]at h;subst h;exact⟨[],rfl,trivial⟩
 |(i,x)::r,k,as,hb,h=>by
  simp only[xP,bt]at hb;cases as with
  |nil=>have:=uw h;simp at this
  |cons a as=>obtain⟨h1,h2⟩:=ux h;obtain⟨v,e1,e2⟩:=cA hs h1;obtain⟨vs,e3,e4⟩:=KM hs hb.2 h2;exact⟨v::vs,by simp[yb,hb.1,e1,e3],e2,e4⟩
def aBY [Rd](hP:dS P T)(hR:cF T)(hx:Cx U ar γ w sl L ob){t e' n m:Nat}{ps:Array (Nat×a_)}{as:List (AV D)}{r:List (D n)×List Nat×List Nat}(ht:aF T.dh t=aa (e',n))(hb:xP 0 ps.toList=ab)(hm:ps.toList.length=m)(eM:m*(T.lv n).length<=65536)
  (he:eR sl (ps.toList.map (·.2))=aa as) (h:Q.R ob (u7 T n as) l r):
  OW P Qx L ⟨d,.buildSlice t m ps,ty,pos,af,gd⟩ w (λv w'=>∃γ',dR U ar γ w ob ⟨.c (.one (.own ar)),[(ar,aa (.sl n e' r.1 r.2.1 (ar+16)))],r.2.2⟩ γ' v w'):=by
 obtain⟨hu,hT⟩:=hP.dh t e' n ht
 obtain⟨vs,h1,h2⟩:=KM hx.sr hb he
 obtain⟨i1,i2,i3,i4,i5⟩:=GK hR hx.ob h h2
 have hlen:r.1.length=m:=by rw[i5,<-hm];simpa using(uw he).symm
 have:=OW.buildSlice (P:=P) (Q:=Qx) (L:=L) (w:=w) (d:=d) (ty:=ty) (pos:=pos) (af:=af) (g:=gd) (o:=γ.o) (k:=ar) hu hT h1 i1 hlen (by rw[hR.sz];exact Jr eM)
 refine OW.mono this ?_
 rintro v w' ⟨o',b7,hO⟩
 exact KD hx i2 i3 i4 b7 hO
def aB0 [Rd](hP:dS P T)(hR:cF T)(hx:Cx U ar γ w sl L ob){t e' n m:Nat}{ps:Array (Nat×a_)}{as:List (AV D)}{r:List (D n)×List Nat×List Nat}(ht:aF T.qO t=aa (m,e',n))(hb:xP 0 ps.toList=ab)(hm:ps.toList.length=m)
  (he:eR sl (ps.toList.map (·.2))=aa as) (h:Q.R ob (u7 T n as) l r):
  OW P Qx L ⟨d,.build t ps,ty,pos,af,gd⟩ w (λv w'=>∃γ',dR U ar γ w ob ⟨.c (.one (.uC n r.1 r.2.1)),[],r.2.2⟩ γ' v w'):=by
 have hA:=hP.qO t m e' n ht
 obtain⟨vs,h1,h2⟩:=KM hx.sr hb he
 obtain⟨i1,i2,i3,i4,i5⟩:=GK hR hx.ob h h2
 have hlen:r.1.length=m:=by rw[i5,<-hm];simpa using(uw he).symm
 have:=OW.ajl (P:=P) (Q:=Qx) (L:=L) (w:=w) (d:=d) (ty:=ty) (pos:=pos) (af:=af) (g:=gd) hA.uW hA.el hA.z h1 i1 hlen
 refine OW.mono this ?_
 rintro v w' ⟨rfl,aK,rfl,h5⟩
 refine⟨_,mkPost (M:=[]) (N:=[]) (ps:=nR r.2.2) (g':=γ.g) (v':=γ.v) hx.ob (bP.refl _ _ _ _) (by simp) (by simp) (aep i3 rfl) hx.cJ (λ_ _=>rfl) (λ_ _=>rfl) ?_ (λj x hj=>?_)⟩
 ·exact⟨⟨aK,rfl,h5.mono λ_ _=>ad.mono λb hb _=>⟨U5 i2 i4 (λi hi=>(i3 i hi).1) b hb,rfl⟩⟩,i2⟩
 ·simp[aF]at hj
def aB1 [Rd](hP:dS P T)(hR:cF T)(hx:Cx U ar γ w sl L ob){t e' n m:Nat}{ps:Array (Nat×a_)}{as:List (AV D)}{r:List (D n)×List Nat×List Nat}(ht:aF T.qO t=aa (m,e',n))(hb:xP 0 ps.toList=ab)(hm:ps.toList.length=m)
  (he:eR sl (ps.toList.map (·.2))=aa as) (h:Q.R ob (u7 T n as) l r) (hf:r.2.2=[]) (hl:(r.1.flatMap (T.out n)).length<=112):
  OW P Qx L ⟨d,.build t ps,ty,pos,af,gd⟩ w (λv w'=>∃γ',dR U ar γ w ob ⟨.c (.agg (cellsD r.2.1 (ar+16) (r.1.flatMap (T.out n)))),[],[]⟩ γ' v w'):=by
 have hA:=hP.qO t m e' n ht
 obtain⟨vs,h1,h2⟩:=KM hx.sr hb he
 obtain⟨i1,i2,i3,i4,i5⟩:=GK hR hx.ob h h2
 have hlen:r.1.length=m:=by rw[i5,<-hm];simpa using(uw he).symm
 rw[hf,oV]at i1
 have:=OW.ajl (P:=P) (Q:=Qx) (L:=L) (w:=w) (d:=d) (ty:=ty) (pos:=pos) (af:=af) (g:=gd) hA.uW hA.el hA.z h1 i1 hlen
 refine OW.mono this ?_
 rintro v w' ⟨rfl,aK,rfl,h5⟩
 refine⟨_,Ac hx _ hl ⟨aK.flatten,rfl,?_⟩⟩
 exact Ix (γ':=⟨γ.o,γ.g,gh γ.v (ar+16) (r.1.flatMap (T.out n))⟩) i2 (VL hR h5) λi x hi=>mx rfl (by have:=(gK.1 hi).1;omega) hi
def aCw(hR:cF T)(bH:OB U γ w ob){n:Nat}{cs:List (A1 D)}{us:List ah}{r:List (D n)×List Nat×List Nat}(HS:T.ag n=false)(h:Q.R ob (u7 T n (cs.map λc=> .c (.one c))) l r)(hv:db U γ w cs us)(hf:r.2.2=[]):fT U γ w (.uC n r.1 r.2.1) (.agg us.toArray):=by
 have AF:np U γ w (cs.map λc=>(.c (.one c):AV D)) us:=by
  clear h;induction cs generalizing us with
  |nil=>cases us with
   |nil=>trivial
   |cons _ _=>exact hv.elim
  |cons c cs ih=>cases us with
   |nil=>exact hv.elim
   |cons u us=>exact⟨hv.1,ih hv.2⟩
 obtain⟨i1,i2,_,_,_⟩:=GK hR bH h AF;rw[hf,oV]at i1;have eJ:∀us:List ah,(us.map λu=>[u]).flatten=us:=λus=>by
  induction us with
  |nil=>rfl
  |cons u us ih=>simp[ih]
 refine⟨⟨us.map λu=>[u],by rw[eJ],?_⟩,i2⟩;generalize r.1=xs at i1;clear h AF hv;induction us generalizing xs with
 |nil=>cases xs with
  |nil=>trivial
  |cons _ _=>exact i1.elim
 |cons u us ih=>cases xs with
  |nil=>exact i1.elim
  |cons x xs=>exact⟨Rv.R3 i1.1 (by rw[hR.ag];exact HS),ih xs i1.2⟩
def acn [Rd](hP:dS P T)(hR:cF T)(hx:Cx U ar γ w sl L ob){t e' n m:Nat}{u i:a_}{xs:List (D n)}{K:List Nat}{j:Int}{y:D n}{va:ah}{r:AV D}(ht:aF T.qO t=aa (m,e',n))(hm:xs.length=m)
  (hu:ev L u=aa va) (e_:fT U γ w (.uC n xs K) va) (hi:ev L i=aa (.int .i64 j)) (hj:idx xs j=aa y) (hr:vh (T.ag n) (cellsD K (ar+16) (T.out n y))=aa r):
  OW P Qx L ⟨d,.index t u i,ty,pos,af,gd⟩ w (λv w'=>∃γ',dR U ar γ w ob ⟨r,[],[]⟩ γ' v w'):=by
 have hA:=hP.qO t m e' n ht
 obtain⟨⟨aK,rfl,h1⟩,h2⟩:=e_
 refine OW.mono (OW.asl hA.uW hm hA.el hu h1 hi hj) ?_
 rintro v w' ⟨rfl,cs,rfl,h3⟩
 have hl:(T.out n y).length<=112:=by rw[LC];exact hR.uv n
 have h4:=Ix (γ':=⟨γ.o,γ.g,gh γ.v (ar+16) (T.out n y)⟩) (U:=jw U ar) h2 (g:=ar+16) ((hR.rd n _ _ _ _).1 h3) (λi x ju=>mx (γ:=γ) rfl (by have:=(gK.1 ju).1;omega) ju)
 refine⟨_,Ac hx (T.out n y) hl ?_⟩
 rw[hR.ag]
 unfold vh at hr
 cases hg:T.ag n with
 |true=>
  rw[hg]at hr
  cases hr
  exact⟨cs,rfl,h4⟩
 |false=>
  rw[hg]at hr
  simp only[Bool.false_eq_true,aD]at hr
  split at hr
  case h_2=>cases hr
  rename_i a ha
  cases hr
  rw[ha]at h4
  cases cs with
  |nil=>exact h4.elim
  |cons c cs=>exact h4.1
def Ow.head{t:aY}{o:cB}{k:Nat}{K:List Nat}{v:ah}{n:Nat}{xs:List (D n)}{y:D n}{j:Int}(h:Ow t o k K w v xs)(hj:idx xs j=aa y):∃b f cap,v= .slice (aa ⟨b,f,ak⟩) xs.length cap:=by
 rcases h with⟨rfl,rfl⟩|⟨g,f,cap,aW,aK,e1,_⟩
 ·unfold idx at hj;split at hj<;>simp at hj
 ·exact⟨g,f,cap,e1⟩
def asv [Rd](hP:dS P T)(hx:Cx U ar γ w sl L ob){t e' n tj:Nat}{u i:a_}{a:A1 D}{va:ah}{j:Int}(ht:aF T.dh t=aa (e',n))(hu:ev L u=aa va)(e_:fT U γ w a va)(hi:ev L i=aa (.int .i64 j))(TD:named U γ tj ⟨.int .i64,j⟩)
  (h:Q.R ob (Tn n j tj a) l e):
  OW P Qx L ⟨d,.indexAddr t u i,ty,pos,af,gd⟩ w (λv w'=>∃γ',dR U ar γ w ob e γ' v w'):=by
 obtain⟨kT,hT⟩:=hP.dh t e' n ht
 unfold Tn at h
 split at h
 ·rename_i n' xs K g;split at h
  case isFalse=>exact h.elim
  rename_i hn;have hn:=bB hn;subst hn;obtain⟨y,hy,_,rfl⟩:=h;obtain⟨h1,h2,h3⟩:=e_;refine OW.mono (OW.indexAddr kT hT hu h1 hi hy) ?_;rintro v w' ⟨rfl,pa,rfl,hp,_⟩;exact⟨γ,pj hx ⟨pa,by rw[add_zero'],hp,h3⟩⟩
 ·rename_i i';obtain⟨ao,l',ho,rfl,h⟩:=h;obtain⟨hU,rfl,_⟩:=e_;have key:∀{n' tc:Nat} {xs:List (D n')},((∀y,idx xs j=aa y->∃b f cap,γ.g i'= .slice (aa ⟨b,f,ak⟩) xs.length cap)∧named U γ tc ⟨.sl n',xs⟩)->Q.R ob (if aU n' n&& !(aU tc 0)then .part (idx xs j) λy=>bY (.c (.one (.el i' n' j y 0 tc tj)))else .fail) l' e->
    OW P Qx L ⟨d,.indexAddr t u i,ty,pos,af,gd⟩ w (λv w'=>∃γ',dR U ar γ w ob e γ' v w'):=by
   clear h
   rintro n' tc xs ⟨hh,h3⟩ hq
   split at hq
   case isFalse=>exact hq.elim
   rename_i hn
   simp only[bt,pV]at hn
   have AG:tc≠0:=λe=>by subst e;simp at hn
   have hn:=bB hn.1
   subst hn
   obtain⟨y,hy,_,rfl⟩:=hq
   obtain⟨b,f,cap,hg⟩:=hh y hy
   refine OW.mono (OW.acy kT hT hu hg hi hy) ?_
   rintro v w' ⟨rfl,rfl⟩
   rcases h3 with h3|⟨h3,h4⟩
   ·exact(AG h3).elim
   refine⟨γ,pj hx ⟨hU,⟨AG,h3⟩,⟨xs,h4,hy⟩,TD,b,f,_,_,hg,?_⟩⟩
   rw[jL]
   rfl
  obtain⟨_,_,h1⟩:=hx.ob.ob _ _ ho;cases ao with
  |box=>exact h.elim
  |sl n' t' xs K tc=>exact key ⟨λy hy=>Ow.head h1.1 hy,h1.2.2⟩ h
  |cZ n' t' xH q xs tc h0=>exact key ⟨λy hy=>Ow.head h1.1.ow hy,h1.2.1⟩ h
  |iu n' t' xH q xs j' vi s tc=>obtain⟨h2,_,b,len,cap,h3,gg,q',aW,_,_,_,_,_,h4⟩:=h1;exact key ⟨λy hy=>Ow.head h4.ow hy,h2⟩ h
  |mp=>exact h.elim
  |fz n' xs K=>
   dsimp only at h;split at h
   case isFalse=>exact h.elim
   rename_i hn;have hn:=bB hn;subst hn;obtain⟨y,hy,_,rfl⟩:=h;refine OW.mono (OW.indexAddr kT hT hu h1.1 hi hy) ?_;rintro v w' ⟨rfl,pa,rfl,hp,_⟩;exact⟨γ,pj hx ⟨pa,by rw[add_zero'],hp,h1.2⟩⟩
 ·obtain⟨y,hy,_⟩:=h;cases hy
 ·rename_i i' n0 j0;obtain⟨ao,l',ho,rfl,h⟩:=h;obtain⟨hU,hj0,p,nn,c,e1,e2,e3⟩:=e_;cases ao with
  |sl n' t' xs K tc=>
   dsimp only at h;split at h
   case isFalse=>exact h.elim
   rename_i hn;simp only[bt,pV]at hn;have AG:tc≠0:=λe=>by subst e;simp at hn
   have Hs:=bB hn.1.1;have T2:=bB hn.1.2;subst Hs;subst T2;obtain⟨y,hy,_,rfl⟩:=h;obtain⟨_,_,h1,h2,h3⟩:=hx.ob.ob _ _ ho;obtain⟨p',yZ,f1,f2,_⟩:=u0 h1.rv;have gF:=hy;unfold idx at gF;split at gF
   case isFalse=>cases gF
   rename_i hj;have hyx:idx xs (G_ j0 j)=aa y:=by unfold idx;rw[aH (show 0<=j0+j by omega)];rw[wc]at gF;rw[show(G_ j0 j).toNat=j0.toNat+j.toNat by show(j0+j).toNat=_;omega];exact gF
   obtain⟨b,f,cap,hg⟩:=Ow.head h1 hyx;rw[hg]at e1 f1;simp only[ah.slice.injEq]at e1 f1;obtain⟨rfl,rfl,rfl⟩:=e1;obtain⟨_,_,rfl⟩:=f1;have aV:j0.toNat+j.toNat<xs.length:=by rw[wc]at gF;exact(gK.1 gF).1
   have jX:∀(q r:Nat),(⟨b,q,ak⟩:Addr).add r=⟨b,q+r,ak⟩:=λq r=>by unfold Addr.add;split<;>simp_all
   have Vt:va= .slice (aa ⟨b,f+j0.toNat*ad.sz (D n'),ak⟩) (uz xs j0).length (cap-j0.toNat):=by rw[e2,aL (by omega)];simp[jX]
   refine OW.mono (OW.acy (xs:=uz xs j0) kT hT hu Vt hi hy) ?_;rintro v w' ⟨rfl,rfl⟩;rcases h3 with h3|⟨h3,h4⟩
   ·exact(AG h3).elim
   refine⟨γ,pj hx ⟨hU,⟨AG,h3⟩,⟨xs,h4,hyx⟩,.inl rfl,b,f,_,_,hg,?_⟩⟩;rw[jX];unfold fP;rw[show(G_ j0 j).toNat=j0.toNat+j.toNat by show(j0+j).toNat=_;omega,iT,Nat.add_zero,qX]
  |_=>exact h.elim
 ·exact h.elim
def aal{x y:a_}{v:ah}(h:Gu x y=ab)(hx:ev L x=aa v):ev L y=aa v:=by
 unfold Gu at h;split at h
 ·rename_i a b;have:=bB h;subst this;exact hx
 ·rename_i a b;have:=jA h;subst this;exact hx
 ·cases h
def aq3 [Rd](hP:dS P T)(hR:cF T)(hx:Cx U ar γ w sl L ob){t e' n:Nat}{u1 u2:a_}{m:Int}{zs:List (D n)}(ht:aF T.dh t=aa (e',n))(h1:ev L u1=aa (.int .i64 m))(h2:Gu u1 u2=ab)(hm:mz (T.zero n) m=aa zs):
  OW P Qx L ⟨d,.makeSlice t u1 u2,ty,pos,af,gd⟩ w (λv w'=>∃γ',dR U ar γ w ob ⟨.c (.one (.own ar)),[(ar,aa (.sl n e' zs [] (ar+16)))],[]⟩ γ' v w'):=by
 obtain⟨hu,hT⟩:=hP.dh t e' n ht
 have mF:ye (D n) m=aa zs:=by unfold ye;unfold mz at hm;rw[hR.zero];exact hm
 refine OW.mono (OW.make (o:=γ.o) (k:=ar) hu hT h1 (aal h2 h1) mF) ?_
 rintro v w' ⟨o',b7,hO⟩
 exact KD hx lr (by simp) (λh=>(h rfl).elim) b7 hO
def Ye{α:Type}[ad α](w:ay)(q:Nat):(dN.zeroCells (pack (ad.agg α) (ad.zc α)).cells q).toList=(cU q (ad.zc α)).flatten:=by
 have hz:(pack (ad.agg α) (ad.zc α)).cells.toList=ad.zc α:=wM (α:=α) (ad.ga (λ_=>True) w);have gT:(ad.zc α).length=ad.sz α:=ad.len (ad.ga (α:=α) (λ_=>True) w);have sH:=ad.pos (α:=α);generalize hzz:(pack (ad.agg α) (ad.zc α)).cells=z at*;unfold dN.zeroCells;have iZ:z.size=ad.sz α:=by rw[<-oc,hz,gT]
 have key:∀q:Nat,(List.range (q*ad.sz α)).map (λi=>z[i% z.size]!)=(cU q (ad.zc α)).flatten:=by
  intro q;induction q with
  |zero=>simp
  |succ q ih=>
   rw[List.replicate_succ',List.flatten_append,<-ih,Nat.succ_mul,List.range_add,List.map_append];cR 1;simp only[List.map_map,List.flatten_singleton];rw[<-hz];apply List.ext_getElem?;intro j;by_cases hj:j<ad.sz α
   ·have e1:(q*ad.sz α+j)% z.size=j:=by rw[iZ,Nat.mul_comm,Nat.mul_add_mod,Nat.mod_eq_of_lt hj]
    have nN:j<z.size:=by omega
    simp[hj,e1,nN,getElem!_pos]
   ·simp[hj,iZ]
 rw[iZ];simpa[iZ]using key q
def OW.akL [Rd]{α:Type}[ad α]{s x:a_}{t tn e' k0:Nat}{o:cB}{zs:List α}{m:Int}(hu:P.underlying t=aa (.slice e'))(hT:bO P e' α)(hn:P.underlying tn=aa (.int .i64))(h1:ev L s=aa (.slice ak 0 0))(h2:ev L x=aa (.int .i64 m))(hm:Ah (ad.zero:α) m=aa zs):
  OW P Qx L ⟨d,.call {callee:= .builtin .append,args:= #[s,x],argTypes:= #[t,tn]},ty,pos,af,gd⟩ w (λv' w'=>∃o',bP [] [k0] o w o' w'∧Ow e' o' k0 [] w' v' zs):=by
 unfold Ah at hm
 split at hm
 case isFalse=>cases hm
 rename_i hb
 cases hm
 obtain⟨i,gw,ep,iy,mH⟩:=hT.nG
 have sH:=ad.pos (α:=α)
 have D1:m.toNat*i.bytes<=281474976710656:=by have:=Nat.mul_le_mul (show m.toNat<=1073741824 by omega) iy;omega
 have hmm:((m.toNat:Nat):Int)=m:=by omega
 have hr:=Lib.run_append_nil_zeros (P:=P) w t tn ty e' i _ .i64 .i64 hu hn gw mH m.toNat (by omega) (by omega) (by omega) D1
 rw[hmm]at hr
 have tY:(pack (ad.agg α) (ad.zc α)).cells.toList=ad.zc α:=wM (α:=α) (ad.ga (λ_=>True) w)
 have gT:(ad.zc α).length=ad.sz α:=ad.len (ad.ga (α:=α) (λ_=>True) w)
 have iZ:(pack (ad.agg α) (ad.zc α)).cells.size=ad.sz α:=by rw[<-oc,tY,gT]
 have sL:=grownCap_ge w m.toNat 0 e'
 refine OW.run λa ha=>⟨_,_,by simp[execOp,resolve,invoke,builtin,ha _ _ h1,ha _ _ h2,hr];exact⟨rfl,rfl⟩,grow o w k0,?_,.inr ⟨w.heap.size,0,grownCap w m.toNat 0 e',_,cU m.toNat (ad.zc α),by simp,sR o w k0 _ (bx _),heap_alloc_new w.drew _,?_,?_,?_,?_,?_⟩⟩
 ·exact(bP.fresh k0 ((Below.refl _ _).drew.alloc (bx _) _)).weaken (by simp) (by simp)
 ·simpa using sL
 ·exact grownCap_le_maxLen w _ _ _ (by unfold maxLen;omega)
 ·simp only[Array.size_append,size_zeroCells,iZ,<-iT,kG];exact mj _ (by omega)
 ·exact cp.replicate (ad.ga _ _) _
 ·rw[List.drop_zero,Array.toList_append,Ye w,List.length_replicate];refine List.take_left' ?_;rw[<-Ye w,oc,size_zeroCells,iZ]
def akK [Rd](hP:dS P T)(hR:cF T)(hx:Cx U ar γ w sl L ob){t tn e' n:Nat}{s x:a_}{m:Int}{zs:List (D n)}(ht:aF T.dh t=aa (e',n))(yr:aF T.ty tn=aa (.one (.int .i64)))(h1:ev L s=aa (.slice ak 0 0))(h2:ev L x=aa (.int .i64 m))(hm:Ah (T.zero n) m=aa zs):
  OW P Qx L ⟨d,.call {callee:= .builtin .append,args:= #[s,x],argTypes:= #[t,tn]},ty,pos,af,gd⟩ w (λv w'=>∃γ',dR U ar γ w ob ⟨.c (.one (.own ar)),[(ar,aa (.sl n e' zs [] (ar+16)))],[]⟩ γ' v w'):=by
 obtain⟨hu,hT⟩:=hP.dh t e' n ht
 refine OW.mono (OW.akL (o:=γ.o) (k0:=ar) hu hT (hP.ty _ _ yr).2 h1 h2 (by rw[hR.zero];exact hm)) ?_
 rintro v w' ⟨o',b7,hO⟩
 exact KD hx lr (by simp) (λh=>(h rfl).elim) b7 hO
def j9.kc{α:Type}[ad α]{z:Nat}{t tc:aY}{o:cB}{k kc:Nat}{v:ah}{xs:List α}(h:j9 z t tc o k kc w v xs)(hn:∀b,b<w.heap.size->o b≠kc):j9 z t tc (lA o k v) 0 1 w v xs:=by
 rcases h with h|⟨g,cap,aW,aK,h1,h2,h3,h4,h5,h6,h7,h8,h9,oH⟩
 ·exact .inl h
 ·refine .inr ⟨g,cap,aW,aK,h1,S6 h2 (by rw[h1];exact Nat.beq_refl g),h3,h4,h5,h6,h7.mono λ_ _=>ad.mono λb hb aV=>?_,h8,λu hu p n c e=>?_,oH⟩
  ·have hb:o b=kc:=by simpa[In]using hb
   exact(hn b aV hb).elim
  ·rcases h9 u hu p n c e with h|⟨g',f',Ey,i1,i2,i3,i4⟩
   ·exact .inl h
   ·exact(hn g' (jB.1 i3).1 i2).elim
def aq5 [Rd](hP:dS P T)(hR:cF T)(hx:Cx U ar γ w sl L ob){t e' n tc q:Nat}{u1 u2:a_}{m:Int}{zs:List (D n)}(ht:aF T.dh t=aa (e',n))(hk:aF T.kd n=aa (tc,q))(h1:ev L u1=aa (.int .i64 m))(h2:Gu u1 u2=ab)(hm:mz (T.zero n) m=aa zs):
  OW P Qx L ⟨d,.makeSlice t u1 u2,ty,pos,af,gd⟩ w (λv w'=>∃γ',dR U ar γ w ob ⟨.c (.one (.own ar)),[(ar,aa (.cZ n e' tc q zs (ar+16) 0))],[]⟩ γ' v w'):=by
 obtain⟨hu,hT⟩:=hP.dh t e' n ht
 have hK:=hP.kd n tc q hk
 have mF:ye (D n) m=aa zs:=by unfold ye;unfold mz at hm;rw[hR.zero];exact hm
 refine OW.mono (OW.aq6 (o:=γ.o) (k:=ar) (ar+1) (ad.sz (D q)) tc hK.zc hu hT h1 (aal h2 h1) mF) ?_
 rintro v w' ⟨o',b7,hO⟩
 have bR:∀b,b<w'.heap.size->o' b≠ar+1:=λb hb e=>by
  by_cases aV:b<w.heap.size
  ·rw[b7.gY b aV]at e;exact hx.nw aV (by omega) (by omega) e
  ·have:=b7.new b (by omega) hb;simp at this;omega
 have hO':=j9.kc hO bR
 refine⟨_,mkPost (M:=[]) (N:=[ar]) (ps:=[]) (g':=kV γ.g ar v) (v':=gh γ.v (ar+16) [⟨.sl n,zs⟩]) hx.ob b7 (by simp) (by simp) (by simp) hx.cJ (λi hi=>ur hx hi) (λi hi=>sw hx (by simp) hi) ⟨oO,(oI _ _ _).symm,hO.one⟩ ?_⟩
 intro j x hj HM
 obtain⟨rfl,dZ⟩:=nF hj
 cases dZ
 refine⟨hx.cJ,oO,?_,mx (γ:=γ) (i:=0) rfl (by omega) rfl,.inl rfl⟩
 show j9 _ e' tc (lA o' ar (kV γ.g ar v ar)) 0 1 w' (kV γ.g ar v ar) zs
 rw[oI]
 exact hO'
def Ow.R8{α:Type}[ad α]{T:aY}{o:cB}{k:Nat}{K:List Nat}{w:ay}{v v':ah}{j:Nat}{xs:List α}(h:Ow T o k K w v xs)(hp:PI v v' j):Ow T o k K w v' (xs.take j):=by
 obtain⟨p,m,c,h1,rfl,hj⟩:=hp;rcases h with⟨rfl,rfl⟩|⟨gg,f,cap,aW,aK,rfl,h2,h3,h4,h5,h6,h7,h8⟩
 ·cases h1;have:j=0:=by omega
  subst this;exact .inl ⟨rfl,rfl⟩
 ·cases h1;have hl:(xs.take j).length=j:=by simp;omega
  refine .inr ⟨gg,f,c,aW,aK.take j,by rw[hl],h2,h3,by omega,h5,h6,h7.take j,?_⟩;rw[Bn h7.pd,<-h8,List.take_take,hl];cR 1;exact(Nat.min_eq_left (mj _ hj)).symm
def Ow.tail{α:Type}[ad α]{T:aY}{o:cB}{k j:Nat}{K:List Nat}{w:ay}{v v':ah}{xs:List α}(h:Ow T o k K w v xs)(ht:BS (ad.sz α) v v' j):Ow T o k K w v' (xs.drop j):=by
 obtain⟨p,m,c,h1,rfl,hj⟩:=ht;rcases h with⟨rfl,rfl⟩|⟨gg,f,cap,aW,aK,rfl,h2,h3,h4,h5,h6,h7,h8⟩
 ·cases h1;have:j=0:=by omega
  subst this;exact .inl ⟨by simp,by simp⟩
 ·cases h1;have hl:(xs.drop j).length=xs.length-j:=by simp
  by_cases yH:c=j
  ·have hx:xs.drop j=[]:=List.drop_eq_nil_of_le (by omega);have e1:xs.length-j=0:=by omega
   have e2:c-j=0:=by omega
   rw[hx,aH yH,e1,e2];exact .inr ⟨gg,f,0,aW,[],rfl,h2,h3,bx _,kF _,by omega,trivial,by simp⟩
  ·refine .inr ⟨gg,f+j*ad.sz α,c-j,aW,aK.drop j,?_,h2,h3,by omega,by omega,?_,h7.drop j,?_⟩
   ·rw[hl,aL yH,Option.map_some,jL]
   ·have e3:j*ad.sz α+(c-j)*ad.sz α=c*ad.sz α:=by rw[<-iT,show j+(c-j)=c by omega]
    omega
   ·rw[hl,D9 h7.pd,<-h8,List.drop_take,List.drop_drop,Nat.sub_mul]
def Ow.ann{α:Type}[ad α]{T:aY}{o:cB}{k j:Nat}{K:List Nat}{w:ay}{v v':ah}{xs:List α}(h:Ow T o k K w v xs)(ht:BS (ad.sz α) v v' j):fD (In o K) w v' (xs.drop j):=by
 obtain⟨p,m,c,h1,rfl,hj⟩:=ht;rcases h with⟨rfl,rfl⟩|⟨gg,f,cap,aW,aK,rfl,h2,h3,h4,h5,h6,h7,h8⟩
 ·cases h1;have:j=0:=by omega
  subst this;exact⟨_,_,rfl,.inl (by simp)⟩
 ·cases h1;refine⟨_,_,by rw[List.length_drop],?_⟩;rcases Nat.lt_or_ge j xs.length with aV|sL
  ·right;have yH:¬c=j:=by omega
   refine⟨⟨gg,f+j*ad.sz α,ak⟩,aK.drop j,?_,h7.drop j,?_⟩
   ·have jX:(⟨gg,f,ak⟩:Addr).add (j*ad.sz α)=⟨gg,f+j*ad.sz α,ak⟩:=jL _ _ _;simp[yH,jX]
   ·intro q u hq;rw[jL,cell_of_row w gg _ aW T (0,0) h3];rw[D9 h7.pd,wc,<-h8,ml]at hq;split at hq
    ·simpa[qX]using hq
    ·cases hq
  ·exact .inl (List.drop_eq_nil_of_le sL)
def RX(bH:OB U γ w ob){n:Nat}{a:A1 D}{v:ah}{r:List (D n)×List Nat}(h:Q.R ob (GJ n a) l r)(hv:fT U γ w a v):fD (In γ.o r.2) w v r.1∧ek r.2:=by
 unfold GJ at h;split at h
 ·rename_i n' xs K g;split at h
  case isFalse=>exact h.elim
  rename_i hn;subst hn;obtain⟨_,rfl⟩:=h;exact⟨hv.1.dh,hv.2.2⟩
 ·obtain⟨_,rfl⟩:=h;have hv:v= .slice ak 0 0:=hv;subst hv;exact⟨⟨ak,0,rfl,.inl rfl⟩,lr⟩
 ·obtain⟨ao,l',ho,rfl,h⟩:=h;cases ao with
  |box=>exact h.elim
  |cZ=>exact h.elim
  |iu=>exact h.elim
  |sl n' t xs K g=>
   dsimp only at h;split at h
   case isFalse=>exact h.elim
   rename_i hn;subst hn;obtain⟨_,rfl⟩:=h;obtain⟨_,rfl,_⟩:=hv;obtain⟨_,_,h1,h2,_⟩:=bH.ob _ _ ho;exact⟨h1.dh,h2⟩
  |mp=>exact h.elim
  |fz n' xs K=>
   dsimp only at h;split at h
   case isFalse=>exact h.elim
   rename_i hn;subst hn;obtain⟨_,rfl⟩:=h;obtain⟨_,rfl,_⟩:=hv;obtain⟨_,_,h1,h2⟩:=bH.ob _ _ ho;exact⟨h1.dh,h2⟩
 ·obtain⟨ao,l',ho,rfl,h⟩:=h;cases ao with
  |box=>exact h.elim
  |cZ=>exact h.elim
  |iu=>exact h.elim
  |fz=>exact h.elim
  |mp=>exact h.elim
  |sl n0 t xs K g=>
   dsimp only at h;split at h
   case isFalse=>exact h.elim
   rename_i AX;have AX:=bB AX;subst AX;split at h
   case isFalse=>exact h.elim
   rename_i hn;subst hn;obtain⟨_,rfl⟩:=h;obtain⟨_,ht⟩:=hv;obtain⟨_,_,h1,h2,_⟩:=bH.ob _ _ ho;exact⟨Ow.ann h1 ht.2,h2⟩
 ·obtain⟨ao,l',ho,rfl,h⟩:=h;cases ao with
  |box=>exact h.elim
  |cZ=>exact h.elim
  |iu=>exact h.elim
  |fz=>exact h.elim
  |mp=>exact h.elim
  |sl n0 t xs K g=>
   dsimp only at h;split at h
   case isFalse=>exact h.elim
   rename_i AX;have AX:=bB AX;subst AX;split at h
   case isFalse=>exact h.elim
   rename_i hn;subst hn;obtain⟨_,rfl⟩:=h;obtain⟨_,ht⟩:=hv;obtain⟨_,_,h1,h2,_⟩:=bH.ob _ _ ho;exact⟨(Ow.R8 h1 ht).dh,h2⟩
 ·exact h.elim
def fD.weaken{n:Nat}{S S':Nat->Prop}{v:ah}{xs:List (D n)}(hm:∀b,S b->S' b)(h:fD S w v xs):fD S' w v xs:=by
 obtain⟨p,cap,rfl,h⟩:=h;refine⟨p,cap,rfl,?_⟩;rcases h with h|⟨a,aK,h1,h2,h3⟩
 ·exact .inl h
 ·exact .inr ⟨a,aK,h1,h2.mono λ_ _=>ad.mono λb hb _=>⟨hm b hb,rfl⟩,h3⟩
def aCl [Rd](hP:dS P T)(hR:cF T)(hx:Cx U ar γ w sl L ob){t e' n:Nat}{s x:a_}{a b:A1 D}{va vb:ah}(ht:aF T.dh t=aa (e',n))(hs:ev L s=aa va)(e_:fT U γ w a va)(hb:ev L x=aa vb)(Ty:fT U γ w b vb)
  (h:Q.R ob (O_ T ar n e' a b) l e):
  OW P Qx L ⟨d,.call {callee:= .builtin .append,args:= #[s,x],argTypes:= #[t,t]},ty,pos,af,gd⟩ w (λv w'=>∃γ',dR U ar γ w ob e γ' v w'):=by
 obtain⟨hu,hT⟩:=hP.dh t e' n ht
 unfold O_ at h
 obtain⟨l1,l2,y0,_,h1,h⟩:=Q.fW h
 obtain⟨Dw,Mn⟩:=RX hx.ob h1 Ty
 have kf:fD (In γ.o (vM T n y0.2)) w vb y0.1∧ek (vM T n y0.2):=by
  unfold vM;split
  ·rename_i hf;haveI:=hR.flat hf;exact⟨fD.flat Dw,λz hz=>by cases hz⟩
  ·exact⟨Dw,Mn⟩
 obtain⟨ys,nH⟩:∃ys:List (D n)×List Nat,ys=(y0.1,vM T n y0.2):=⟨_,rfl⟩
 rw[<-nH]at h
 have k1:fD (In γ.o ys.2) w vb ys.1:=by rw[nH];exact kf.1
 have k2:ek ys.2:=by rw[nH];exact kf.2
 clear nH kf Dw Mn h1
 unfold O_.ajC at h
 cases a with
 |own i=>
  obtain⟨ao,l',ho,rfl,h⟩:=h
  cases ao with
  |box=>exact h.elim
  |cZ=>exact h.elim
  |iu=>exact h.elim
  |fz=>exact h.elim
  |mp=>exact h.elim
  |sl n' t' xs K g=>
   dsimp only at h
   split at h
   case isFalse=>exact h.elim
   rename_i hn
   subst hn
   split at h
   case isFalse=>exact h.elim
   rename_i mZ
   have mZ:=bB mZ
   subst mZ
   obtain⟨zs,hz,_,rfl⟩:=h
   obtain⟨hU,rfl,_⟩:=e_
   obtain⟨fB,_,m1,m2,m3⟩:=hx.ob.ob _ _ ho
   have hK:ek (ys.2++K):=λz hz=>by
    rcases bA.1 hz with hz|hz
    ·exact k2 z hz
    ·exact m2 z hz
   have ui:ni (ys.2++K) [i]=ab:=Ev λz hz=>by simp only[eb];rintro rfl;have:=hK _ hz;omega
   have GY:Ow t' γ.o i (ys.2++K) w (γ.g i) xs:=Ow.tO (λ_ h=>h) (λb hb=>by unfold In at hb⊢;simp[hb]) m1
   refine OW.mono (OW.append hu hT hs hb GY (fD.weaken (λb hb=>by unfold In at hb⊢;simp[hb]) k1) hz ui) ?_
   rintro v w' ⟨o',b7,hO⟩
   have ix:i≠ar:=λe=>hx.fresh ar (bx _) (by omega) (e▸hU)
   have oF:∀{j:Nat} {x:AO D},aF [(ar,aa (AO.sl n' t' zs (ys.2++K) (ar+16))),(i,ak)] j=aa (aa x)->j=ar∧x= .sl n' t' zs (ys.2++K) (ar+16):=by intro j x hj;have:=dO hj;simp only[cu,wa,jQ,kE,fE,reduceCtorEq,and_false]at this;exact this
   have AK:∀z,z≠i->rel [(i,ar)] z=z:=λz hz=>by
    unfold rel;split
    ·rename_i y hy;have:=(nF hy).1;exact(hz this.symm).elim
    ·rfl
   have Hk:rel [(i,ar)] i=ar:=by simp[rel,aF]
   refine⟨_,mkPost (M:=[i]) (N:=[i]) (ps:=[(i,ar)]) (g':=kV γ.g ar v) (v':=gh γ.v (ar+16) [⟨.sl n',zs⟩]) hx.ob b7 (by simp[fB,hU,cY.wr]) (by simp) (by simp[fB,cY.wr]) hx.cJ (λi hi=>ur hx hi) (λi hi=>sw hx (by simp) hi) ⟨oO,(oI _ _ _).symm,hO.one⟩ ?_⟩
   intro j x hj HM
   obtain⟨rfl,rfl⟩:=oF hj
   refine⟨hx.cJ,oO,?_,hK,mx (γ:=γ) (i:=0) rfl (by omega) rfl⟩
   show Ow t' _ j (ys.2++K) w' (kV γ.g j v j) zs
   rw[oI]
   refine Ow.tO (λb hb=>?_) (λb hb=>?_) hO
   ·show rel [(i,j)] (o' b)=j;rw[hb,Hk]
   ·have:o' b≠i:=λe=>by
     unfold In at hb;have:=hK _ hb;omega
    show rel [(i,j)] (o' b)∈_;rw[AK _ this];exact hb
 |pre i ne j=>
  obtain⟨ao,l',ho,rfl,h⟩:=h
  cases ao with
  |box=>exact h.elim
  |cZ=>exact h.elim
  |iu=>exact h.elim
  |fz=>exact h.elim
  |mp=>exact h.elim
  |sl n' t' xs K g=>
   dsimp only at h
   split at h
   case isFalse=>exact h.elim
   rename_i hn
   subst hn
   split at h
   case isFalse=>exact h.elim
   rename_i mZ
   obtain⟨zs,hz,_,rfl⟩:=h
   simp only[bt]at mZ
   obtain⟨mZ,bR⟩:=mZ
   have mZ:=bB mZ
   have bR:=bB bR
   subst mZ bR
   obtain⟨hU,DI⟩:=e_
   obtain⟨fB,_,m0,m2,m3⟩:=hx.ob.ob _ _ ho
   have m1:=Ow.R8 m0 DI
   have hK:ek (ys.2++K):=λz hz=>by
    rcases bA.1 hz with hz|hz
    ·exact k2 z hz
    ·exact m2 z hz
   have ui:ni (ys.2++K) [i]=ab:=Ev λz hz=>by simp only[eb];rintro rfl;have:=hK _ hz;omega
   have GY:Ow t' γ.o i (ys.2++K) w va (xs.take j.toNat):=Ow.tO (λ_ h=>h) (λb hb=>by unfold In at hb⊢;simp[hb]) m1
   refine OW.mono (OW.append hu hT hs hb GY (fD.weaken (λb hb=>by unfold In at hb⊢;simp[hb]) k1) hz ui) ?_
   rintro v w' ⟨o',b7,hO⟩
   have ix:i≠ar:=λe=>hx.fresh ar (bx _) (by omega) (e▸hU)
   have oF:∀{j:Nat} {x:AO D},aF [(ar,aa (AO.sl n' t' zs (ys.2++K) (ar+16))),(i,ak)] j=aa (aa x)->j=ar∧x= .sl n' t' zs (ys.2++K) (ar+16):=by intro j' x hj;have:=dO hj;simp only[cu,wa,jQ,kE,fE,reduceCtorEq,and_false]at this;exact this
   have AK:∀z,z≠i->rel [(i,ar)] z=z:=λz hz=>by
    unfold rel;split
    ·rename_i y hy;have:=(nF hy).1;exact(hz this.symm).elim
    ·rfl
   have Hk:rel [(i,ar)] i=ar:=by simp[rel,aF]
   refine⟨_,mkPost (M:=[i]) (N:=[i]) (ps:=[(i,ar)]) (g':=kV γ.g ar v) (v':=gh γ.v (ar+16) [⟨.sl n',zs⟩]) hx.ob b7 (by simp[fB,hU,cY.wr]) (by simp) (by simp[fB,cY.wr]) hx.cJ (λi hi=>ur hx hi) (λi hi=>sw hx (by simp) hi) ⟨oO,(oI _ _ _).symm,hO.one⟩ ?_⟩
   intro j' x hj HM
   obtain⟨rfl,rfl⟩:=oF hj
   refine⟨hx.cJ,oO,?_,hK,mx (γ:=γ) (i:=0) rfl (by omega) rfl⟩
   show Ow t' _ j' (ys.2++K) w' (kV γ.g j' v j') zs
   rw[oI]
   refine Ow.tO (λb hb=>?_) (λb hb=>?_) hO
   ·show rel [(i,j')] (o' b)=j';rw[hb,Hk]
   ·have:o' b≠i:=λe=>by
     unfold In at hb;have:=hK _ hb;omega
    show rel [(i,j')] (o' b)∈_;rw[AK _ this];exact hb
 |bF=>
  obtain⟨zs,hz,_,rfl⟩:=h
  have e_:va= .slice ak 0 0:=e_
  subst e_
  have ui:ni ys.2 [ar]=ab:=Ev λz hz=>by simp only[eb];rintro rfl;have:=k2 _ hz;have:=hx.cJ;omega
  refine OW.mono (OW.append hu hT hs hb (Ow.nil e' γ.o ar ys.2 w) k1 hz ui) ?_
  rintro v w' ⟨o',b7,hO⟩
  have Ut:bP [] [ar] γ.o w o' w':=⟨b7.os,b7.tape,b7.output,b7.size,b7.gY,b7.new,λb hb _=>b7.rR b hb (by simp only[eb];exact hx.nw hb (bx _) (by omega))⟩
  exact KD (fz:=[]) hx k2 (by simp) (λh=>(h rfl).elim) Ut hO
 |ch i e1 j off ct m dd=>
  obtain⟨ao,l',ho,rfl,h⟩:=h
  cases ao with
  |box=>exact h.elim
  |sl=>exact h.elim
  |iu=>exact h.elim
  |fz=>exact h.elim
  |mp=>exact h.elim
  |cZ e2 te tc q xs gx h0=>
   dsimp only at h
   split at h
   case isFalse=>exact h.elim
   rename_i hc
   have hq:=h
   clear h
   simp only[bt,pV]at hc
   obtain⟨⟨⟨⟨⟨⟨c1,c2⟩,c3⟩,c4⟩,c5⟩,c6⟩,c7⟩:=hc
   have c1:=bB c1
   have c2:=bB c2
   have c4:=bB c4
   have c5:=bB c5
   have c6:=bB c6
   subst c1 c2 c4 c5 c6
   have UB:ct≠0:=λe=>by subst e;simp at c3
   obtain⟨y,hy,hq⟩:=hq
   dsimp only at hq
   split at hq
   case h_2=>exact hq.elim
   rename_i m' d' MY
   split at hq
   case isFalse=>exact hq.elim
   rename_i mF
   subst mF
   obtain⟨zs,hz,hq⟩:=hq
   dsimp only at hq
   split at hq
   case h_2=>exact hq.elim
   rename_i y' gF
   obtain⟨wv,yu,_,rfl⟩:=hq
   have hK:Ji P D e1 tc m':=by
    unfold acf at c7;split at c7
    ·rename_i p hp;simp only[bt]at c7;have e1':=bB c7.1;have Vt:=bB c7.2;obtain⟨p1,p2⟩:=p;subst e1' Vt;exact hP.kd _ _ _ hp
    ·cases c7
   haveI:=hK.one
   haveI:=hK.flat
   obtain⟨hU,⟨_,aDr⟩,_,⟨b0,len,cap,cells,hg,HQ,um⟩,_⟩:=e_
   obtain⟨fB,_,m1,m2,m3⟩:=hx.ob.ob _ _ ho
   rcases m3 with m3|⟨_,_,ayh,m4,m5⟩
   ·exact(UB m3).elim
   rw[HQ]at m4
   cases m4
   have nL:(T.lv e1)[off]? =aa (.sl m'):=by
    have:((T.out e1 y).map DV.l)[off]? =aa (.sl m'):=by rw[List.getElem?_map,MY];rfl
    rw[bc.out,Df]at this;exact this
   have hF:=arM hR nL
   have hGy:G2 T e1 off m' y=d':=ab0 MY
   have hSy:Ar T e1 off m' y zs=y':=by unfold Ar;rw[gF]
   obtain⟨aW,cb,ch⟩:=Uu m1 hg
   have hpa:(⟨b0,j.toNat*ad.sz (D e1),ak⟩:Addr).add off=⟨b0,j.toNat*ad.sz (D e1)+off,ak⟩:=jL _ _ _
   have hE:Fs (γ.g i) (ad.sz (D e1)) j ⟨b0,j.toNat*ad.sz (D e1),ak⟩:=⟨⟨b0,0,ak⟩,len,cap,hg,by rw[jL,kG]⟩
   have hcI:X7 (lA γ.o i (γ.g i)) 0 w ((⟨b0,j.toNat*ad.sz (D e1),ak⟩:Addr).add off) va:=by rw[hpa];exact⟨cb,by rw[m5 b0 len cap _ hg];exact um⟩
   refine OW.mono (OW.aCm hF hu hT hs hb m1 hE hcI hy k1 (by rw[hGy];exact hz) (by rw[hSy];exact yu) rfl) ?_
   rintro v' w' ⟨o',b7,hH⟩
   rw[hpa]at hH
   have mE:v'.oneCell'=ab:=by obtain⟨_,_,_,_,_,_,h4,_⟩:=hH;exact h4
   have aDp:b0<w.heap.size:=(jB.1 ch).1
   obtain⟨iI,vw⟩:∃iI:cB,iI=λb=>if b<w.heap.size then γ.o b else i:=⟨_,rfl⟩
   have AR:∀b,b<w.heap.size->iI b=γ.o b:=λb hb=>by rw[vw];exact aH hb
   have rE:∀b,w.heap.size<=b->iI b=i:=λb hb=>by rw[vw];exact aL (by omega)
   have Ut:bP [i] [i] γ.o w iI w':=⟨b7.os,b7.tape,b7.output,b7.size,AR,λb h1 h2=>by rw[rE b h1];exact eb.2 rfl,λb hb hm=>b7.rR b hb λh1=>hm (by
    have:lA γ.o i (γ.g i) b=1:=by simpa using h1
    rw[(Dt this).1];exact eb.2 rfl)⟩
   refine⟨_,mkPost (M:=[i]) (N:=[i]) (ps:=[]) (g':=kV γ.g ar v') (v':=gh γ.v (ar+16) [⟨.sl e1,wv⟩]) hx.ob Ut (by simp[fB,hU,cY.wr]) (by simp) (by simp) hx.cJ (λi hi=>ur hx hi) (λi hi=>sw hx (by simp) hi) ⟨.inl hU,oO,(oI _ _ _).symm,mE⟩ ?_⟩
   intro k x hk HM
   obtain⟨rfl,dZ⟩:=nF hk
   cases dZ
   refine⟨fB,.inl hU,mx (γ:=γ) (i:=0) rfl (by omega) rfl,oO,b0,len,cap,(ur hx hU).trans hg,?_⟩
   show zi _ te tc (lA iI i (kV γ.g ar v' i)) 0 1 w' (kV γ.g ar v' i) wv ⟨b0,j.toNat*ad.sz (D e1)+off,ak⟩ (kV γ.g ar v' ar)
   rw[ur hx hU,oI]
   refine zi.mono (λb hb h0=>⟨?_,rfl⟩) (λb hb h1=>⟨?_,rfl⟩) hH
   ·by_cases aV:b<w.heap.size
    ·rw[b7.gY b aV]at h0;obtain⟨f1,f2⟩:=Du h0;exact S6 (by rw[AR b aV];exact f1) f2
    ·have:=b7.new b (by omega) hb;simp at this;omega
   ·by_cases aV:b<w.heap.size
    ·rw[b7.gY b aV]at h1;obtain⟨f1,f2⟩:=Dt h1;exact S5 (by rw[AR b aV];exact f1) f2
    ·refine S5 (rE b (by omega)) ?_;rw[hg];show aU b0 b=false;cases hbb:aU b0 b with
     |true=>have:=bB hbb;omega
     |false=>rfl
 |_=>cases h
def arD [Rd](hP:dS P T)(hx:Cx U ar γ w sl L ob){t e' n:Nat}{x:a_}{a:A1 D}{va:ah}{r:Int}(ht:aF T.dh t=aa (e',n))(hu:ev L x=aa va)(e_:fT U γ w a va)(h:Q.R ob (SY a) l r):
  OW P Qx L ⟨d,.call {callee:= .builtin .len,args:= #[x],argTypes:= #[t]},ty,pos,af,gd⟩ w (λv w'=>∃γ',dR U ar γ w ob ⟨iv .i64 r (ar+16),[],[]⟩ γ' v w'):=by
 obtain⟨kT,hT⟩:=hP.dh t e' n ht
 unfold SY at h
 split at h
 ·obtain⟨_,rfl⟩:=h;exact dm (OW.len kT hu e_.1) (eo hx rfl)
 ·obtain⟨_,rfl⟩:=h;obtain⟨_,_,_,_,p,c,rfl⟩:=e_;exact dm (OW.Aq kT hu) (eo hx rfl)
 ·obtain⟨_,rfl⟩:=h;have e_:va= .slice ak 0 0:=e_;subst e_;have:=OW.len (P:=P) (Q:=Qx) (L:=L) (w:=w) (d:=d) (ty:=ty) (pos:=pos) (af:=af) (g:=gd) (α:=D n) kT hu (C1 (λ_=>True) w);exact dm this (eo hx rfl)
 ·obtain⟨ao,l',ho,rfl,h⟩:=h;cases ao with
  |box=>exact h.elim
  |iu=>exact h.elim
  |cZ n' t' tc q xs g h0=>obtain⟨_,rfl⟩:=h;obtain⟨_,rfl,_⟩:=e_;obtain⟨_,_,h1,_⟩:=hx.ob.ob _ _ ho;exact dm (OW.len kT hu h1.rv) (eo hx rfl)
  |mp=>exact h.elim
  |fz n' xs K=>obtain⟨_,rfl⟩:=h;obtain⟨_,rfl,_⟩:=e_;obtain⟨_,_,h1,_⟩:=hx.ob.ob _ _ ho;exact dm (OW.len kT hu h1) (eo hx rfl)
  |sl n' t' xs K g=>obtain⟨_,rfl⟩:=h;obtain⟨_,rfl,_⟩:=e_;obtain⟨_,_,h1,h2,_⟩:=hx.ob.ob _ _ ho;exact dm (OW.len kT hu h1.rv) (eo hx rfl)
 ·obtain⟨ao,l',ho,rfl,h⟩:=h;obtain⟨_,hj0,p,nn,c,e1,e2,e3⟩:=e_;cases ao with
  |sl n' t' xs K g=>
   dsimp only at h;split at h
   case isFalse=>exact h.elim
   rename_i hn;have hn:=bB hn;subst hn;obtain⟨_,rfl⟩:=h;obtain⟨_,_,h1,h2,_⟩:=hx.ob.ob _ _ ho;obtain⟨p',yZ,f1,_⟩:=u0 h1.rv;rw[e1]at f1;simp only[ah.slice.injEq]at f1;obtain⟨_,rfl,_⟩:=f1;have:=OW.Aq (P:=P) (Q:=Qx) (L:=L) (w:=w) (d:=d) (ty:=ty) (pos:=pos) (af:=af) (g:=gd) kT (e2▸hu);refine dm this (eo hx ?_);show ah.int .i64 _=ah.int .i64 _;cR 1;show((xs.length-_:Nat):Int)=(xs.length:Int)-_;omega
  |_=>exact h.elim
 ·exact h.elim
section
variable {α:Type} [ad α] {t e:aY} {o:cB} {T:aY} {k:Nat} {K:List Nat}
def OW.Rn [Rd]{S:Nat->Prop}{u:a_}{lo hi:Option a_}{l h:Int}{v:ah}{xs zs:List α}(hu:P.underlying t=aa (.slice e))(hT:bO P e α)(hx:ev L u=aa v)(hr:Rv S w v xs)(AZ:zj L lo 0 l)(A_:zj L hi (Dp.len xs) h)(hz:dK xs l h=aa zs):
  OW P Qx L ⟨d,.slice t u lo hi ak,ty,pos,af,gd⟩ w (λv' w'=>w'=w∧Rv S w v' zs∧∃p cap,v= .slice p xs.length cap∧xs.length<=cap∧v'= .slice (if cap=l.toNat then p else p.map (·.add (l.toNat*ad.sz α))) (h.toNat-l.toNat) (cap-l.toNat)∧l<=h∧h<=xs.length):=by
 obtain⟨p,cap,rfl,h1,h2,h3⟩:=u0 hr
 unfold dK at hz
 split at hz
 case isFalse=>cases hz
 rename_i hb
 cases hz
 obtain⟨b1,b2,b3⟩:=hb
 have hlen:((xs.take h.toNat).drop l.toNat).length=h.toNat-l.toNat:=by simp;omega
 refine OW.run λa ha=>⟨.slice (if cap=l.toNat then p else p.map (·.add (l.toNat*ad.sz α))) (h.toNat-l.toNat) (cap-l.toNat),w,?_,rfl,⟨_,rfl,_,cap-l.toNat,by rw[hlen],by rw[hlen];omega,by unfold maxLen at*;omega,?_⟩,p,cap,rfl,h1,rfl,b2,b3⟩
 ·have qx:h<=(cap:Int):=by omega
  have A9:(h.toNat:Int)=h:=by omega
  have rF:(l.toNat:Int)=l:=by omega
  rcases AZ with⟨rfl,rfl⟩|⟨yl,rfl,hl⟩<;>rcases A_ with⟨rfl,rfl⟩|⟨yh,rfl,hh⟩
  ·simp[execOp,ha _ _ hx,Instr.sliceAt,run_underlying hu,Instr.slice,Instr.sliceBounds,hT.sizeOf,Dp.len]
  ·have b0:0<=h:=by omega
   simp[execOp,ha _ _ hx,ha _ _ hh,Instr.sliceAt,run_underlying hu,Instr.slice,Instr.sliceBounds,Instr.sliceBound,asIntOf,hT.sizeOf,b0,qx]
  ·have b0:l<=(xs.length:Int):=by unfold Dp.len at b2;omega
   simp[execOp,ha _ _ hx,ha _ _ hl,Instr.sliceAt,run_underlying hu,Instr.slice,Instr.sliceBounds,Instr.sliceBound,asIntOf,hT.sizeOf,b1,b0,Dp.len]
  ·have b0:0<=h:=by omega
   simp[execOp,ha _ _ hx,ha _ _ hl,ha _ _ hh,Instr.sliceAt,run_underlying hu,Instr.slice,Instr.sliceBounds,Instr.sliceBound,asIntOf,hT.sizeOf,b1,b0,qx,A9,b2]
 ·by_cases he:(xs.take h.toNat).drop l.toNat=[]
  ·exact .inl he
  ·have aV:l.toNat<h.toNat:=by
    rcases Nat.lt_or_ge l.toNat h.toNat with hh|hh
    ·exact hh
    ·exact(he (List.eq_nil_of_length_eq_zero (by omega))).elim
   rcases h3 with rfl|⟨a,aK,rfl,h4,h5,h6⟩
   ·simp at he
   ·right;have eM:=h5.pd;refine⟨a.add (l.toNat*ad.sz α),(aK.take h.toNat).drop l.toNat,?_,by rw[Pe];exact h4,(h5.take _).drop _,?_⟩
    ·rw[aL (by omega)];rfl
    ·intro j u hj;rw[E5];refine h6 _ _ ?_;rw[D9 (λc hc=>eM c (List.mem_of_mem_take hc)),Bn eM,wc,ml]at hj;split at hj
     ·exact hj
     ·cases hj
def OW.Z9 [Rd]{u:a_}{hi:Option a_}{h:Int}{v:ah}{xs zs:List α}(hu:P.underlying t=aa (.slice e))(hT:bO P e α)(hx:ev L u=aa v)(ho:Ow T o k K w v xs)(A_:zj L hi (Dp.len xs) h)(hz:dK xs 0 h=aa zs):
  OW P Qx L ⟨d,.slice t u ak hi ak,ty,pos,af,gd⟩ w (λv' w'=>w'=w∧Rv (In o (k::K)) w v' zs∧PI v v' h.toNat∧zs=xs.take h.toNat):=by
 refine OW.mono (OW.Rn hu hT hx ho.rv (.inl ⟨rfl,rfl⟩) A_ hz) ?_
 rintro v' w' ⟨h1,h2,p,cap,h3,h4,h5,h6,h7⟩
 refine⟨h1,h2,⟨p,_,cap,h3,?_,by omega⟩,?_⟩
 ·rw[h5];have:∀a:Addr,a.add 0=a:=add_zero';cases p<;>simp[this]
 ·unfold dK at hz;rw[aH ⟨by omega,h6,h7⟩]at hz;simpa using(jP hz).symm
def Ow.ap1{v v':ah}{h:Int}{xs zs:List α}(ho:Ow T o k K w v xs)(hp:PI v v' h.toNat)(hz:dK xs 0 h=aa zs):Ow T o k K w v' zs:=by
 unfold dK at hz;split at hz
 case isFalse=>cases hz
 cases hz;simpa using Ow.R8 ho hp
end
def aot [Rd](hP:dS P T)(hx:Cx U ar γ w sl L ob){fl fq:Bool}{t e' n:Nat}{x:a_}{lo hi:Option a_}{a:A1 D}{as:List (AV D)}(ht:aF T.dh t=aa (e',n))(he:eR sl (x::(lo.toList++hi.toList))=aa (.c (.one a)::as))(h:Q.R ob (Ro fl fq ar (ar+16) n lo hi a as) l e):
  OW P Qx L ⟨d,.slice t x lo hi ak,ty,pos,af,gd⟩ w (λv w'=>∃γ',dR U ar γ w ob e γ' v w'):=by
 obtain⟨kT,hT⟩:=hP.dh t e' n ht
 obtain⟨HP,DX⟩:=ux he
 obtain⟨va,hu,e_⟩:=cA hx.sr HP
 have gl:∀{x:Option a_} {dl:Int} {as:List (AV D)} {rest:List a_} {r:Int×List (AV D)} {l:List Nat},eR sl (x.toList++rest)=aa as->Q.R ob (y_ dl x as) l r->zj L x dl r.1∧eR sl rest=aa r.2:=by
  intro x dl as rest r l he h;cases x with
  |none=>obtain⟨_,rfl⟩:=h;exact⟨.inl ⟨rfl,rfl⟩,he⟩
  |some y=>
   cases as with
   |nil=>have:=uw he;simp at this
   |cons a as=>
    obtain⟨f1,f2⟩:=ux he;unfold y_ at h;split at h
    ·rename_i hh;cases hh
    ·rename_i q K' g' j7 hh i_;cases i_;obtain⟨_,rfl⟩:=h;obtain⟨v,e1,e2⟩:=cA hx.sr f1;have e2:v= .int .i64 q:=e2.1;subst e2;exact⟨.inr ⟨y,rfl,e1⟩,f2⟩
    ·exact(h:False).elim
 have aaE:∀{i n' t' g:Nat} {xs zs:List (D n')} {K:List Nat} {v:ah},dw ob i=aa (.sl n' t' xs K g)->1000<=i->ek K->Ow t' γ.o i K w v zs->∃γ',dR U ar γ w ob ⟨.c (.one (.own ar)),[(ar,aa (.sl n' t' zs K (ar+16))),(i,ak)],[]⟩ γ' v w:=by
  intro i n' t' g xs zs K v ho fB m2 hO;have hU:U i:=(hx.ob.ob _ _ ho).2.1;have ix:i≠ar:=λe=>hx.fresh ar (bx _) (by omega) (e▸hU);have oF:∀{j:Nat} {x:AO D},aF [(ar,aa (AO.sl n' t' zs K (ar+16))),(i,ak)] j=aa (aa x)->j=ar∧x= .sl n' t' zs K (ar+16):=by intro j x hj;have:=dO hj;simp only[cu,wa,jQ,kE,fE,reduceCtorEq,and_false]at this;exact this
  have AK:∀z,z≠i->rel [(i,ar)] z=z:=λz hz=>by
   unfold rel;split
   ·rename_i y hy;have:=(nF hy).1;exact(hz this.symm).elim
   ·rfl
  have Hk:rel [(i,ar)] i=ar:=by simp[rel,aF]
  refine⟨_,mkPost (M:=[]) (N:=[]) (ps:=[(i,ar)]) (g':=kV γ.g ar v) (v':=gh γ.v (ar+16) [⟨.sl n',zs⟩]) hx.ob (bP.refl _ _ _ _) (by simp) (by simp) (by simp[fB,cY.wr]) hx.cJ (λi hi=>ur hx hi) (λi hi=>sw hx (by simp) hi) ⟨oO,(oI _ _ _).symm,hO.one⟩ ?_⟩;intro j x hj HM;obtain⟨rfl,rfl⟩:=oF hj;refine⟨hx.cJ,oO,?_,m2,mx (γ:=γ) (i:=0) rfl (by omega) rfl⟩;show Ow t' _ j K w (kV γ.g j v j) zs;rw[oI];refine Ow.tO (λb hb=>?_) (λb hb=>?_) hO
  ·show rel [(i,j)] (γ.o b)=j;rw[hb,Hk]
  ·have:γ.o b≠i:=λe=>by
    unfold In at hb;have:=m2 _ hb;omega
   show rel [(i,j)] (γ.o b)∈_;rw[AK _ this];exact hb
 have plain:∀{n':Nat} {xs:List (D n')} {K:List Nat} {l:List Nat},Rv (In γ.o K) w va xs->ek K->Q.R ob (tL (ar+16) n lo hi n' xs K as) l e->
   OW P Qx L ⟨d,.slice t x lo hi ak,ty,pos,af,gd⟩ w (λv w'=>∃γ',dR U ar γ w ob e γ' v w'):=by
  intro n' xs K l k1 k3 hq
  clear h
  unfold tL at hq
  split at hq
  case isFalse=>exact(hq:False).elim
  rename_i hn
  have hn:=bB hn
  subst hn
  obtain⟨l1,l2,r1,_,h1,hq⟩:=Q.fW hq
  obtain⟨l3,l4,r2,_,h2,hq⟩:=Q.fW hq
  split at hq
  case h_2=>exact(hq:False).elim
  rename_i Hq
  obtain⟨zs,hz,_,rfl⟩:=hq
  obtain⟨b1,b2⟩:=gl DX h1
  obtain⟨b3,b4⟩:=gl (rest:=[]) (by simpa using b2) h2
  refine OW.mono (OW.slice kT hT hu k1 b1 b3 hz) ?_
  rintro v w' ⟨rfl,hr⟩
  exact⟨_,Ac hx [⟨.sl n',zs⟩] (by simp) ⟨hr,mx (γ:=γ) (i:=0) rfl (by omega) rfl,k3⟩⟩
 cases a with
 |v lf xs K g=>
  cases lf with
  |sl n'=>
   have h:Q.R ob (tL (ar+16) n lo hi n' xs K as) _ e:=h
   exact plain e_.1 e_.2.2 h
  |_=>cases h
 |bF=>
  have e_:va= .slice ak 0 0:=e_
  subst e_
  unfold Ro at h
  dsimp only at h
  obtain⟨l1,l2,r1,_,h1,hq⟩:=Q.fW h
  obtain⟨l3,l4,r2,_,h2,hq⟩:=Q.fW hq
  split at hq
  case h_2=>exact(hq:False).elim
  rename_i Hq
  obtain⟨zs,hz,_,rfl⟩:=hq
  obtain⟨b1,b2⟩:=gl DX h1
  obtain⟨b3,b4⟩:=gl (rest:=[]) (by simpa using b2) h2
  have oD:∃ys,dK ([]:List (D n)) r1.1 r2.1=aa ys:=by
   have wT:=hz;unfold dK at wT;split at wT
   case isFalse=>cases wT
   rename_i hb;exact⟨_,aH hb⟩
  obtain⟨ys,oD⟩:=oD
  refine OW.mono (OW.Rn (xs:=([]:List (D n))) kT hT hu (C1 (λ_=>True) w) b1 b3 oD) ?_
  rintro v w' ⟨rfl,_,p,cap,e1,e2,e3,e4,e5⟩
  unfold dK at hz
  split at hz
  case isFalse=>cases hz
  rename_i hb
  have hv:v= .slice ak 0 0:=by
   simp only[ah.slice.injEq]at e1;obtain⟨rfl,_,rfl⟩:=e1;have l0:r1.1.toNat=0:=by have:=hb.1;have:=hb.2.1;have:=hb.2.2;unfold Dp.len at this;simp at this;omega
   have h0:r2.1.toNat=0:=by have:=hb.2.2;unfold Dp.len at this;simp at this;omega
   rw[e3,l0,h0];simp
  exact⟨γ,pj hx hv⟩
 |own i=>
  obtain⟨ao,l',ho,rfl,h⟩:=h
  obtain⟨hU,rfl,_⟩:=e_
  cases ao with
  |box=>cases h
  |cZ=>cases h
  |iu=>cases h
  |mp=>exact h.elim
  |fz n' xs K=>
   obtain⟨_,_,k1,k2⟩:=hx.ob.ob _ _ ho
   exact plain k1 k2 h
  |sl n' t' xs K g=>
   dsimp only at h
   split at h
   case h_2=>
    rename_i _ lo1
    split at h
    case h_2=>cases h
    split at h
    case isFalse=>cases h
    rename_i hn
    have hn:=bB hn
    subst hn
    obtain⟨l1,l2,r2,_,h2,h⟩:=Q.fW h
    split at h
    case h_2=>cases h
    rename_i Hq
    have tl:∀zs,dK xs r2.1 (Dp.len xs)=aa zs->OW P Qx L ⟨d,.slice t x (aa lo1) ak ak,ty,pos,af,gd⟩ w (λv w'=>w'=w∧0<=r2.1∧BS (ad.sz (D n')) (γ.g i) v r2.1.toNat):=by
     intro zs hz;obtain⟨_,_,m1,_⟩:=hx.ob.ob _ _ ho;obtain⟨b3,b4⟩:=gl (rest:=[]) (by simpa using DX) h2;refine OW.mono (OW.Rn kT hT hu m1.rv b3 (.inl ⟨rfl,rfl⟩) hz) ?_;rintro v w' ⟨rfl,_,p,cap,e1,e2,e3,e4,e5⟩;have hz0:0<=r2.1:=by
      unfold dK at hz;split at hz
      case isFalse=>cases hz
      rename_i hb;exact hb.1
     refine⟨rfl,hz0,p,xs.length,cap,e1,?_,?_⟩
     ·rw[e3];unfold Dp.len;simp
     ·unfold Dp.len at e4;omega
    cases fq with
    |false=>
     obtain⟨zs,hz,_,rfl⟩:=h
     refine OW.mono (tl zs hz) ?_
     rintro v w' ⟨rfl,k1,k2⟩
     exact⟨γ,pj hx ⟨hU,k1,k2⟩⟩
    |true=>
     obtain⟨zs,hz,_,rfl⟩:=h
     refine OW.mono (tl zs hz) ?_
     rintro v w' ⟨rfl,k1,k2⟩
     obtain⟨fB,_,m1,m2,m3⟩:=hx.ob.ob _ _ ho
     refine aaE ho fB m2 ?_
     have hd:zs=xs.drop r2.1.toNat:=by
      unfold dK at hz;split at hz
      case isFalse=>cases hz
      have:=(jP hz).symm;rw[this,List.take_of_length_le (by unfold Dp.len;simp)]
     rw[hd]
     exact Ow.tail m1 k2
   split at h
   case isFalse=>cases h
   rename_i hn
   have hn:=bB hn
   subst hn
   obtain⟨l1,l2,r2,_,h2,h⟩:=Q.fW h
   split at h
   case h_2=>cases h
   rename_i Hq
   obtain⟨fB,_,m1,m2,m3⟩:=hx.ob.ob _ _ ho
   obtain⟨b3,b4⟩:=gl (rest:=[]) (by simpa using DX) h2
   cases fl with
   |true=>
    obtain⟨zs,hz,_,rfl⟩:=h
    refine OW.mono (OW.Z9 kT hT hu m1 b3 hz) ?_
    rintro v w' ⟨rfl,_,hp,_⟩
    exact⟨γ,pj hx ⟨hU,hp⟩⟩
   |false=>
   obtain⟨zs,hz,_,rfl⟩:=h
   refine OW.mono (OW.Z9 kT hT hu m1 b3 hz) ?_
   rintro v w' ⟨rfl,_,hp,_⟩
   exact aaE ho fB m2 (Ow.ap1 m1 hp hz)
 |_=>cases h
def aya [Rd](hP:dS P T)(hR:cF T)(hx:Cx U ar γ w sl L ob){t e' n i:Nat}{x:a_}{v:ah}{j:Int}(ht:aF T.dh t=aa (e',n))(hu:ev L x=aa v)(hv:fT U γ w (.tail i n j) v)
  (h:Q.R ob (.obj i λ
        | .sl n0 te xs K _=>if aU n0 n then .ret ⟨.dX [],[(i,aa (.sl n0 te (rO (T.zero n0) xs j) K (ar+16)))],[]⟩else .fail
        |_=> .fail) l e):
  OW P Qx L ⟨d,.call {callee:= .builtin .clear,args:= #[x],argTypes:= #[t]},ty,pos,af,gd⟩ w (λv w'=>∃γ',dR U ar γ w ob e γ' v w'):=by
 obtain⟨kT,hT⟩:=hP.dh t e' n ht
 obtain⟨ao,l',ho,rfl,h⟩:=h
 cases ao with
 |box=>cases h
 |cZ=>cases h
 |iu=>cases h
 |fz=>cases h
 |mp=>cases h
 |sl n0 te xs K g=>
  dsimp only at h
  split at h
  case isFalse=>cases h
  rename_i hn
  have hn:=bB hn
  subst hn
  obtain⟨_,rfl⟩:=h
  obtain⟨hU,_,DC⟩:=hv
  obtain⟨fB,_,m1,m2,_⟩:=hx.ob.ob _ _ ho
  have ui:ni K [i]=ab:=Ev λz hz=>by simp only[eb];rintro rfl;have:=m2 _ hz;omega
  refine OW.mono (OW.ayb kT hT hu m1 DC ui) ?_
  rintro v' w' ⟨rfl,b7,hO⟩
  rw[hR.zero]at hO
  refine⟨_,mkPost (M:=[i]) (N:=[]) (ps:=[]) (g':=γ.g) (v':=gh γ.v (ar+16) [⟨.sl n0,rO (T.zero n0) xs j⟩]) hx.ob b7 (by simp[fB,hU,cY.wr]) (by simp) (by simp) hx.cJ (λ_ _=>rfl) (λi hi=>sw hx (by simp) hi) ⟨[],rfl,trivial⟩ ?_⟩
  intro k x hk ko
  obtain⟨rfl,dZ⟩:=nF hk
  cases dZ
  exact⟨fB,.inl hU,hO,m2,mx (γ:=γ) (i:=0) rfl (by omega) rfl⟩
def ae6 [Rd](hP:dS P T)(hR:cF T)(hx:Cx U ar γ w sl L ob){t e' n i:Nat}{x y:a_}{vb v:ah}{j:Int}{ys:List (D n)×List Nat}(ht:aF T.dh t=aa (e',n))(hu:ev L x=aa v)(hU:U i)(j0:0<=j)
  (hv:∀{T':aY} {K:List Nat} {xs:List (D n)},Ow T' γ.o i K w (γ.g i) xs->BS (ad.sz (D n)) (γ.g i) v j.toNat) (hb:ev L y=aa vb) (hE:fD (In γ.o ys.2) w vb ys.1) (vv:ek ys.2) (h:Q.R ob (NY T ar n i j ys) l e):
  OW P Qx L ⟨d,.call {callee:= .builtin .copy,args:= #[x,y],argTypes:= #[t,t]},ty,pos,af,gd⟩ w (λv w'=>∃γ',dR U ar γ w ob e γ' v w'):=by
 obtain⟨kT,hT⟩:=hP.dh t e' n ht
 unfold NY at h
 obtain⟨ao,l',ho,rfl,h⟩:=h
 cases ao with
 |box=>cases h
 |cZ=>cases h
 |iu=>cases h
 |fz=>cases h
 |mp=>cases h
 |sl n0 te xs K g=>
  dsimp only at h
  split at h
  case isFalse=>cases h
  rename_i hn
  subst hn
  obtain⟨_,rfl⟩:=h
  obtain⟨fB,_,m1,m2,_⟩:=hx.ob.ob _ _ ho
  have hK:ek (ys.2++K):=λz hz=>by
   rcases bA.1 hz with hz|hz
   ·exact vv z hz
   ·exact m2 z hz
  have ui:ni (ys.2++K) [i]=ab:=Ev λz hz=>by simp only[eb];rintro rfl;have:=hK _ hz;omega
  have GY:Ow te γ.o i (ys.2++K) w (γ.g i) xs:=Ow.tO (λ_ h=>h) (λb hb=>by unfold In at hb⊢;simp[hb]) m1
  have DC:=hv m1
  have dj:j.toNat<=xs.length:=by
   obtain⟨p,m,c,q1,_,q3⟩:=DC;rcases m1 with⟨q,rfl⟩|⟨gg,f,cap,aW,aK,q,_⟩
   ·rw[q]at q1;cases q1;exact q3
   ·rw[q]at q1;cases q1;exact q3
  refine OW.mono (OW.axW kT hT hu hb GY DC (fD.weaken (λb hb=>by unfold In at hb⊢;simp[hb]) hE) ui) ?_
  rintro v' w' ⟨rfl,b7,hO⟩
  have ul:((min ys.1.length (xs.length-j.toNat):Nat):Int)=VM (len xs) j (len ys.1):=by unfold VM len;split<;>omega
  refine⟨_,mkPost (M:=[i]) (N:=[]) (ps:=[]) (g':=γ.g) (v':=gh γ.v (ar+16) [⟨.sl n0,ae3 xs j ys.1⟩]) hx.ob b7 (by simp[fB,hU,cY.wr]) (by simp) (by simp) hx.cJ (λ_ _=>rfl) (λi hi=>sw hx (by simp) hi) ?_ ?_⟩
  ·rw[ul];exact⟨rfl,LU _,lr⟩
  ·intro k x hk ko;obtain⟨rfl,dZ⟩:=nF hk;cases dZ;exact⟨fB,.inl hU,hO,hK,mx (γ:=γ) (i:=0) rfl (by omega) rfl⟩
def axV [Rd](hP:dS P T)(hR:cF T)(hx:Cx U ar γ w sl L ob){t e' n:Nat}{s x:a_}{a b:A1 D}{va vb:ah}(ht:aF T.dh t=aa (e',n))(hs:ev L s=aa va)(e_:fT U γ w a va)(hb:ev L x=aa vb)(Ty:fT U γ w b vb)
  (h:Q.R ob (VO T ar n a b) l e):
  OW P Qx L ⟨d,.call {callee:= .builtin .copy,args:= #[s,x],argTypes:= #[t,t]},ty,pos,af,gd⟩ w (λv w'=>∃γ',dR U ar γ w ob e γ' v w'):=by
 unfold VO at h
 obtain⟨l1,l2,y0,_,h1,h⟩:=Q.fW h
 obtain⟨Dw,Mn⟩:=RX hx.ob h1 Ty
 have kf:fD (In γ.o (vM T n y0.2)) w vb y0.1∧ek (vM T n y0.2):=by
  unfold vM;split
  ·rename_i hf;haveI:=hR.flat hf;exact⟨fD.flat Dw,λz hz=>by cases hz⟩
  ·exact⟨Dw,Mn⟩
 cases a with
 |own i=>
  obtain⟨hU,rfl,_⟩:=e_
  refine ae6 hP hR hx ht hs hU (Int.le_refl 0) (λm1=>?_) hb kf.1 kf.2 h
  rcases m1 with⟨q,rfl⟩|⟨gg,f,cap,aW,aK,q,_⟩
  ·exact⟨_,_,_,q,by rw[q];simp,kF _⟩
  ·refine⟨_,_,_,q,?_,kF _⟩;rw[q];have jX:(⟨gg,f,ak⟩:Addr).add 0=⟨gg,f,ak⟩:=jL gg f 0;simp[jX]
 |tail i n' j=>
  dsimp only at h
  split at h
  case isFalse=>cases h
  rename_i hn
  have hn:=bB hn
  subst hn
  obtain⟨hU,j0,DC⟩:=e_
  exact ae6 hP hR hx ht hs hU j0 (λ_=>DC) hb kf.1 kf.2 h
 |_=>cases h
def vc [Rd](hx:Cx U ar γ w sl L ob){op:Op}{v:ah}{a:AV D}(h1:Dp.pv L op=aa v)(h2:gI U γ w a v):OW P Qx L ⟨d,op,ty,pos,af,gd⟩ w (λv w'=>∃γ',dR U ar γ w ob ⟨a,[],[]⟩ γ' v w'):=dm (OW.pv h1) (pj hx h2)
def aa3 [Rd](hx:Cx U ar γ w sl L ob){op:Op}{v:ah}{lf:Lf}{x:lf.den D}(h1:Dp.pv L op=aa v)(h2:dD (In γ.o []) w v ⟨lf,x⟩):OW P Qx L ⟨d,op,ty,pos,af,gd⟩ w (λv w'=>∃γ',dR U ar γ w ob ⟨.c (.one (.v lf x [] (ar+16))),[],[]⟩ γ' v w'):=dm (OW.pv h1) (eo hx h2)
def N_(hs:SR U γ w sl L):∀{xs:List a_} {as:List (AV D)} {cs:List (A0 D)},eR sl xs=aa as->De.EE as=aa cs->∃vs,oK L xs=aa vs∧nr U γ w cs vs
 |[],as,cs,h,hc=>by simp only[eR,fE]at h;subst h;simp only[De.EE,fE]at hc;subst hc;exact⟨[],rfl,trivial⟩
 |x::r,as,cs,h,hc=>by
  cases as with
  |nil=>have:=uw h;simp at this
  |cons a as=>
   obtain⟨h1,h2⟩:=ux h;obtain⟨v,e1,e2⟩:=cA hs h1;unfold De.EE at hc;split at hc
   ·rename_i hh;cases hh
   ·rename_i i off r' i_;cases i_;split at hc
    ·rename_i l' hl;cases hc;obtain⟨vs,e3,e4⟩:=N_ hs h2 hl;exact⟨v::vs,by simp[oK,e1,e3],e2,e4⟩
    ·cases hc
   ·rename_i n y off K r' i_;cases i_;split at hc
    ·rename_i l' hl;cases hc;obtain⟨vs,e3,e4⟩:=N_ hs h2 hl;exact⟨v::vs,by simp[oK,e1,e3],e2,e4⟩
    ·cases hc
   ·cases hc
def LF{c:Array a_}{a:AV D}(h:eR sl c.toList=aa [a]):∃x,c= #[x]∧eT sl x=aa a:=by
 obtain⟨l⟩:=c;have:=uw h;match l,this with
 |[x],_=>exact⟨x,rfl,oL h⟩
def wN{c:Array a_}{a b:AV D}(h:eR sl c.toList=aa [a,b]):∃x y,c= #[x,y]∧eT sl x=aa a∧eT sl y=aa b:=by
 obtain⟨l⟩:=c;have:=uw h;match l,this with
 |[x,y],_=>exact⟨x,y,rfl,(sV h).1,(sV h).2⟩
def abg{c:Array a_}{a b d:AV D}(h:eR sl c.toList=aa [a,b,d]):∃x y z,c= #[x,y,z]∧eT sl x=aa a∧eT sl y=aa b∧eT sl z=aa d:=by
 obtain⟨l⟩:=c;have:=uw h;match l,this with
 |[x,y,z],_=>cases h1:eT sl x<;>cases h2:eT sl y<;>cases h3:eT sl z<;>simp[eR,h1,h2,h3]at h;exact⟨x,y,z,rfl,by rw[h1,h.1],by rw[h2,h.2.1],by rw[h3,h.2.2]⟩
def aqc{c:Array a_}{a b d f:AV D}(h:eR sl c.toList=aa [a,b,d,f]):∃x y z u,c= #[x,y,z,u]∧eT sl x=aa a∧eT sl y=aa b∧eT sl z=aa d∧eT sl u=aa f:=by
 obtain⟨l⟩:=c;have:=uw h;match l,this with
 |[x,y,z,u],_=>cases h1:eT sl x<;>cases h2:eT sl y<;>cases h3:eT sl z<;>cases h4:eT sl u<;>simp[eR,h1,h2,h3,h4]at h;exact⟨x,y,z,u,rfl,by rw[h1,h.1],by rw[h2,h.2.1],by rw[h3,h.2.2.1],by rw[h4,h.2.2.2]⟩
def aqm [Rd](hP:dS P T)(hR:cF T)(hx:Cx U ar γ w sl L ob){op:Op}{as:List (AV D)}(he:eR sl op.operands.toList=aa as)(h:Q.R ob (De T ar op as) l e):
  OW P Qx L ⟨d,op,ty,pos,af,gd⟩ w (λv w'=>∃γ',dR U ar γ w ob e γ' v w'):=by
 unfold De at h
 split at h
 ·
  obtain⟨_,rfl⟩:=h
  obtain⟨v,h1,h2⟩:=cA hx.sr (oL he)
  exact vc hx h1 h2
 ·
  obtain⟨_,rfl⟩:=h
  obtain⟨v,h1,h2⟩:=cA hx.sr (oL he)
  exact vc hx h1 h2
 ·
  rename_i c a b _ _ _
  split at h
  case h_2=>cases h
  rename_i dd K g
  obtain⟨e1,e2,e3⟩:=Vj he
  obtain⟨v1,h1,ng⟩:=cA hx.sr e1
  obtain⟨v2,h2,Bh⟩:=cA hx.sr e2
  obtain⟨v3,h3,D6⟩:=cA hx.sr e3
  have av3:v1= .bool dd:=ng.1
  subst av3
  cases dd with
  |true=>
   obtain⟨_,rfl⟩:=h
   exact vc hx (by simp only[Dp.pv,h1];exact h2) Bh
  |false=>
   obtain⟨_,rfl⟩:=h
   exact vc hx (by simp only[Dp.pv,h1];exact h3) D6
 ·
  obtain⟨e1,e2⟩:=sV he
  split at h
  ·split at h
   case h_2=>cases h
   rename_i n hn;exact axu hP hx hn e1 e2 h
  ·split at h
   case h_2=>cases h
   rename_i hn;exact I2 hP hx hn e1 e2 h
  ·split at h
   case h_2=>cases h
   rename_i q hq;obtain⟨te,n⟩:=q;exact aqM (hP.dh _ _ _ hq).1 hx e1 e2 h
  ·exact aCg hx e1 e2 h
 ·
  split at h
  case h_2=>cases h
  obtain⟨_,rfl⟩:=h
  obtain⟨v,h1,h2⟩:=cA hx.sr (oL he)
  have h2:=h2.1
  dsimp only[dD]at h2
  subst h2
  exact aa3 hx (by simp only[Dp.pv,h1]) rfl
 ·
  split at h
  case h_2=>cases h
  obtain⟨_,rfl⟩:=h
  obtain⟨v,h1,h2⟩:=cA hx.sr (oL he)
  have h2:=h2.1
  dsimp only[dD]at h2
  subst h2
  exact aa3 hx (by simp only[Dp.pv,h1]) rfl
 ·
  split at h
  ·obtain⟨_,rfl⟩:=h;obtain⟨v,h1,h2⟩:=cA hx.sr (oL he);obtain⟨hU,b,hg,rfl⟩:=id h2;exact vc hx (by simp only[Dp.pv,h1,fP]) h2
  ·obtain⟨_,rfl⟩:=h;obtain⟨v,h1,h2⟩:=cA hx.sr (oL he);obtain⟨pa,rfl,_⟩:=id h2;exact vc hx (by simp only[Dp.pv,h1]) h2
  ·obtain⟨_,rfl⟩:=h;obtain⟨v,h1,h2⟩:=cA hx.sr (oL he);obtain⟨_,_,_,_,b,f,len,cap,_,rfl⟩:=id h2;exact vc hx (by simp only[Dp.pv,h1,fP]) h2
  ·exact(h:False).elim
 ·
  split at h
  case h_2=>cases h
  split at h
  case h_2=>cases h
  rename_i i _ ll x dZ
  obtain⟨_,rfl⟩:=h
  obtain⟨v,h1,us,rfl,h2⟩:=cA hx.sr (oL he)
  have:∀{ll:List (AC D)} {us:List ah} {i:Nat} {x:AC D},ji U γ w ll us->ll[i]? =aa x->∃u,us[i]? =aa u∧nq U γ w x u:=by
   intro ll;induction ll with
   |nil=>intro us i x _ h;simp at h
   |cons a ll ih=>
    intro us i x h hi;cases us with
    |nil=>exact h.elim
    |cons u us=>
     cases i with
     |zero=>cases hi;exact⟨u,rfl,h.1⟩
     |succ i=>simpa using ih h.2 (by simpa using hi)
  obtain⟨u,h3,h4⟩:=this h2 dZ
  exact vc hx (by simp only[Dp.pv,h1];simpa using h3) h4
 ·
  rename_i _ _ t x i a
  have Sn:∀{o:Nat},So T t i=aa o->Fo P t i o:=by
   intro o ho;unfold So at ho;split at ho
   ·rename_i pl ql;split at ho
    ·rename_i p hp;cases ho;exact(hP.uu t pl ql).2 i p.1 p.2 hp
    ·cases ho
   ·cases ho
  obtain⟨v,h1,h2⟩:=cA hx.sr (oL he)
  split at h
  ·rename_i o j off ho;obtain⟨_,rfl⟩:=h;obtain⟨hU,b,hg,rfl⟩:=h2;have:=OW.U_ (P:=P) (Q:=Qx) (L:=L) (w:=w) (d:=d) (ty:=ty) (pos:=pos) (af:=af) (g:=gd) (Sn ho) h1;refine dm this (pj hx ⟨hU,b,hg,?_⟩);unfold fP Addr.add;split<;>simp_all
  ·rename_i o n y off K ho;obtain⟨_,rfl⟩:=h;obtain⟨pa,rfl,h3,h4⟩:=h2;have:=OW.U_ (P:=P) (Q:=Qx) (L:=L) (w:=w) (d:=d) (ty:=ty) (pos:=pos) (af:=af) (g:=gd) (Sn ho) h1;exact dm this (pj hx ⟨pa,by rw[E5],h3,h4⟩)
  ·rename_i o j n k y off tc tj ho;obtain⟨_,rfl⟩:=h;obtain⟨h3,h4,h5,h6,b,f,len,cap,h7,rfl⟩:=h2;have:=OW.U_ (P:=P) (Q:=Qx) (L:=L) (w:=w) (d:=d) (ty:=ty) (pos:=pos) (af:=af) (g:=gd) (Sn ho) h1;refine dm this (pj hx ⟨h3,h4,h5,h6,b,f,len,cap,h7,?_⟩);rw[jL];unfold fP;rw[qX,qX]
  ·exact(h:False).elim
 ·
  split at h
  case h_2=>cases h
  rename_i ee p ht
  obtain⟨v,h1,h2⟩:=cA hx.sr (oL he)
  exact arn hP hR hx ht h1 h2 h
 ·
  split at h
  case h_2=>cases h
  rename_i ee p ht
  obtain⟨e1,e2⟩:=sV he
  obtain⟨v,h1,h2⟩:=cA hx.sr e1
  obtain⟨v',h3,h4⟩:=cA hx.sr e2
  exact anH hP hR hx ht h1 h2 h3 h4 h
 ·
  split at h
  case h_2=>cases h
  rename_i cs ja
  split at h
  case isFalse=>cases h
  rename_i hs
  obtain⟨_,rfl⟩:=h
  obtain⟨v,h1,h2⟩:=cA hx.sr (oL he)
  exact aCa hx h1 h2 ja hs
 ·
  split at h
  case h_2=>cases h
  rename_i ee ht
  split at h
  case h_2=>cases h
  rename_i cs hz
  obtain⟨_,rfl⟩:=h
  exact aCt hP hx ht hz
 ·
  split at h
  ·rename_i m e' n ht;split at h
   case isFalse=>cases h
   rename_i hb;simp only[bt]at hb;obtain⟨l1,l2,r,_,h1,h2⟩:=Q.fW h;split at h2
   ·split at h2
    case isFalse=>exact(h2:False).elim
    rename_i eJ;simp only[bt,List.isEmpty_iff]at eJ;obtain⟨_,rfl⟩:=h2;exact aB1 hP hR hx ht hb.1 (bB hb.2) he h1 eJ.1 (dp eJ.2)
   obtain⟨_,rfl⟩:=h2;exact aB0 hP hR hx ht hb.1 (bB hb.2) he h1
  split at h
  case h_2=>cases h
  rename_i n pl ht hl
  split at h
  case h_2=>cases h
  rename_i cs ja
  obtain⟨_,rfl⟩:=h
  exact aBX hP hx ht hl he ja
 ·
  split at h
  case h_4=>cases h
  case h_3=>
   rename_i x K' g ki j K2 tj ub
   split at h
   case h_2=>cases h
   rename_i cM
   obtain⟨c,hc,_,rfl⟩:=h
   obtain⟨e1,e2⟩:=sV he
   obtain⟨v,g1,g2⟩:=cA hx.sr e1
   obtain⟨v',g3,g4⟩:=cA hx.sr e2
   have g5:v'= .int ki j:=g4.1
   have g6:v= .string x:=g2.1
   subst g5 g6
   exact dm (OW.asw (hP.ty _ _ cM).2 g1 g3 hc) (eo hx rfl)
  case h_2=>
   rename_i m e' n cs j K' tj ht
   split at h
   ·exact(h:False).elim
   rename_i HS
   obtain⟨l1,l2,x,_,h1,h⟩:=Q.fW h
   split at h
   case isFalse=>cases h
   rename_i hb
   simp only[bt,List.isEmpty_iff]at hb
   obtain⟨y,hy,h⟩:=h
   dsimp only at h
   split at h
   case h_2=>cases h
   rename_i r hr
   obtain⟨_,rfl⟩:=h
   obtain⟨e1,e2⟩:=sV he
   obtain⟨v,g1,us,rfl,g2⟩:=cA hx.sr e1
   obtain⟨v',g3,g4⟩:=cA hx.sr e2
   have g5:v'= .int .i64 j:=g4.1
   subst g5
   have g6:=aCw hR hx.ob (by simpa using HS) h1 g2 hb.1
   exact acn hP hR hx ht (bB hb.2) g1 g6 g3 hy hr
  rename_i m e' n n' xs K j K' tj ht
  split at h
  case isFalse=>cases h
  rename_i hb
  simp only[bt]at hb
  obtain⟨hn,hm⟩:=hb
  have hn:=bB hn
  subst hn
  obtain⟨y,hy,h⟩:=h
  dsimp only at h
  split at h
  case h_2=>cases h
  rename_i r hr
  obtain⟨_,rfl⟩:=h
  obtain⟨e1,e2⟩:=sV he
  obtain⟨v,h1,h2⟩:=cA hx.sr e1
  obtain⟨v',h3,h4⟩:=cA hx.sr e2
  have h5:v'= .int .i64 j:=h4.1
  subst h5
  exact acn hP hR hx ht (bB hm) h1 h2 h3 hy hr
 ·
  split at h
  case h_2=>cases h
  rename_i e' n ht
  split at h
  case isFalse=>cases h
  rename_i hb
  simp only[bt]at hb
  obtain⟨l1,l2,r,_,h1,h2⟩:=Q.fW h
  obtain⟨_,rfl⟩:=h2
  exact aBY hP hR hx ht hb.1.1 (bB hb.1.2) (dp hb.2) he h1
 ·
  split at h
  case h_3=>cases h
  case h_2=>
   rename_i io _ _ _ b off j K tj ht
   split at h
   case h_2=>cases h
   rename_i m e' n q har
   split at h
   case isFalse=>cases h
   rename_i hq
   obtain⟨_,rfl⟩:=h
   obtain⟨e1,e2⟩:=sV he
   obtain⟨v,h1,h2⟩:=cA hx.sr e1
   obtain⟨hU,c,hg,rfl⟩:=h2
   have hA:=hP.qO _ _ _ _ har
   have:=OW.asj (P:=P) (Q:=Qx) (L:=L) (w:=w) (d:=d) (ty:=ty) (pos:=pos) (af:=af) (g:=gd) (i:= .const (.int .i64 (Int.ofNat q))) hA.uW hA.el h1 rfl (dp hq)
   refine dm this (pj hx ⟨hU,c,hg,?_⟩)
   rw[hR.sz]
   unfold fP Addr.add
   split<;>simp_all
  rename_i e' n a j K tj ht
  obtain⟨e1,e2⟩:=sV he
  obtain⟨v,h1,h2⟩:=cA hx.sr e1
  obtain⟨v',h3,h4⟩:=cA hx.sr e2
  have h5:v'= .int .i64 j:=h4.1
  subst h5
  exact asv hP hx ht h1 h2 h3 h4.2.1 h
 ·
  split at h
  case h_2=>cases h
  rename_i e' n m K g ht
  split at h
  case isFalse=>cases h
  rename_i hs
  obtain⟨zs,hz,h⟩:=h
  obtain⟨e1,e2⟩:=sV he
  obtain⟨v,h1,h2⟩:=cA hx.sr e1
  have h5:v= .int .i64 m:=h2.1
  subst h5
  dsimp only at h
  split at h
  ·rename_i tc q hk;obtain⟨_,rfl⟩:=h;exact aq5 hP hR hx ht hk h1 hs hz
  ·obtain⟨_,rfl⟩:=h;exact aq3 hP hR hx ht h1 hs hz
 ·
  rename_i _ _ t x lo hi a j7
  split at h
  case h_2=>cases h
  rename_i e' n a ht
  exact aot hP hx ht (by simpa[Op.operands]using he) h
 ·
  split at h
  case h_2=>cases h
  rename_i kt vt n ht
  obtain⟨_,rfl⟩:=h
  exact aq4 hx
 ·
  split at h
  case h_2=>cases h
  rename_i kt vt n ht
  obtain⟨e1,e2⟩:=sV he
  exact aqY hP hR hx ht e1 e2 h
 ·
  split at h
  case h_2=>cases h
  rename_i kt vt n ht
  obtain⟨e1,e2,e3⟩:=Vj he
  exact abu hP hR hx (.inl rfl) ht e1 e2 e3 h
 ·
  split at h
  case h_2=>cases h
  rename_i kt vt n ht
  obtain⟨e1,e2,e3⟩:=Vj he
  exact abu hP hR hx (.inr rfl) ht e1 e2 e3 h
 ·
  split at h
  case h_4=>cases h
  case h_2=>
   rename_i m0 x K g DE ht0
   split at h
   case h_2=>cases h
   rename_i te n hq
   split at h
   case h_2=>cases h
   rename_i TC
   split at h
   case isFalse=>cases h
   rename_i nL
   obtain⟨xs,eH,_,rfl⟩:=h
   obtain⟨v,h1,h2⟩:=cA hx.sr (oL he)
   have h5:v= .string x:=h2.1
   subst h5
   exact aBW hR hx (hP.ty _ _ DE).2 (hP.dh _ _ _ hq).1 (hP.ty _ _ TC).2 nL h1 eH
  case h_3=>
   rename_i m0 a DE ht0
   split at h
   case h_2=>cases h
   rename_i te n hq
   split at h
   case h_2=>cases h
   rename_i TC
   split at h
   case isFalse=>cases h
   rename_i nL
   obtain⟨l1,l2,r,_,h1,h2⟩:=Q.fW h
   obtain⟨_,rfl⟩:=h2
   obtain⟨v,h3,h4⟩:=cA hx.sr (oL he)
   exact anE hR hx (hP.dh _ _ _ hq).1 (hP.ty _ _ TC).2 (hP.ty _ _ ht0).2 nL h3 (RX hx.ob h1 h4).1
  rename_i k1 k2 k3 n K g hs ht
  obtain⟨v,h1,h2⟩:=cA hx.sr (oL he)
  have h5:v= .int _ n:=h2.1
  subst h5
  have u1:P.underlying _=aa (.int _):=(hP.ty _ _ hs).2
  have u2:P.underlying _=aa (.int _):=(hP.ty _ _ ht).2
  split at h
  ·obtain⟨_,rfl⟩:=h;have:=OW.conv (P:=P) (Q:=Qx) (L:=L) (w:=w) (d:=d) (ty:=ty) (pos:=pos) (af:=af) (g:=gd) ⟨_,u1⟩ u2 h1
   exact dm this (eo hx rfl)
  ·obtain⟨_,rfl⟩:=h;refine dm (v:= .int k2 (k2.wrap n)) (OW.run λa ha=>⟨_,w,?_,rfl,rfl⟩) (eo hx rfl);simp[execOp,ha _ _ h1,convert,run_underlying u1,run_underlying u2,Conv.intToInt]
 ·
  rename_i f first jf
  split at h
  case isFalse=>cases h
  rename_i hf
  split at h
  case h_2=>cases h
  rename_i cs ja
  split at h
  ·rename_i h0;have h0:=bB h0;have h0:first= #[]:=by simpa using h0
   subst h0;obtain⟨_,rfl⟩:=h;obtain⟨vs,h1,h2⟩:=N_ hx.sr (by simpa[Op.operands]using he) ja;exact vc hx (v:= .func (.func f) #[] vs.toArray) (by simp[Dp.pv,oK,h1]) ⟨vs,by unfold xk;rw[aH hf],h2⟩
  ·split at h
   case isFalse=>cases h
   rename_i h0;have h0:=bB h0;have h0:jf= #[]:=by simpa using h0
   subst h0;obtain⟨_,rfl⟩:=h;obtain⟨vs,h1,h2⟩:=N_ hx.sr (by simpa[Op.operands]using he) ja;have hb:¬Nat.blt (f+1000000) 1000000=ab:=λhh=>by have:=dp hh;omega
   exact vc hx (v:= .func (.func f) vs.toArray #[]) (by simp[Dp.pv,oK,h1]) ⟨vs,by unfold xk;rw[aL hb,Nat.add_sub_cancel],h2⟩
 ·
  rename_i b N9 ts
  have sO:eR sl N9.toList=aa as:=by simpa[Op.operands,Call.operands]using he
  split at h
  ·
   split at h
   case h_2=>cases h
   rename_i t cM
   split at h
   case h_2=>
    split at h
    case h_2=>cases h
    rename_i hty
    obtain⟨_,rfl⟩:=h
    obtain⟨x,rfl,AB⟩:=LF sO
    obtain⟨v,h3,h4⟩:=cA hx.sr AB
    have h5:v= .string _:=h4.1
    subst h5
    have rB:ts= #[t]:=xA.1 cM
    subst rB
    exact dm (OW.arE (hP.ty _ _ hty).2 h3) (eo hx rfl)
   rename_i p ht
   obtain⟨e',n⟩:=p
   obtain⟨l1,l2,r,_,h1,h2⟩:=Q.fW h
   obtain⟨_,rfl⟩:=h2
   obtain⟨x,rfl,AB⟩:=LF sO
   obtain⟨v,h3,h4⟩:=cA hx.sr AB
   have rB:ts= #[t]:=xA.1 cM
   subst rB
   exact arD hP hx ht h3 h4 h1
  ·
   obtain⟨_,rfl⟩:=h
   obtain⟨x,y,rfl,h1,h2⟩:=wN sO
   obtain⟨v,h3,h4⟩:=cA hx.sr h1
   obtain⟨v',h5,h6⟩:=cA hx.sr h2
   have h4:=h4.1
   have h6:=h6.1
   dsimp only[dD]at h4 h6
   subst h4 h6
   exact dm (OW.min h3 h5) (eo hx rfl)
  ·
   obtain⟨_,rfl⟩:=h
   obtain⟨x,y,rfl,h1,h2⟩:=wN sO
   obtain⟨v,h3,h4⟩:=cA hx.sr h1
   obtain⟨v',h5,h6⟩:=cA hx.sr h2
   have h4:=h4.1
   have h6:=h6.1
   dsimp only[dD]at h4 h6
   subst h4 h6
   exact dm (OW.max h3 h5) (eo hx rfl)
  ·
   obtain⟨_,rfl⟩:=h
   obtain⟨x,y,z,rfl,h1,h2,h0⟩:=abg sO
   obtain⟨v,h3,h4⟩:=cA hx.sr h1
   obtain⟨v',h5,h6⟩:=cA hx.sr h2
   obtain⟨Zs,h7,h8⟩:=cA hx.sr h0
   have h4:=h4.1
   have h6:=h6.1
   have h8:=h8.1
   dsimp only[dD]at h4 h6 h8
   subst h4 h6 h8
   exact dm (OW.aq1 h3 h5 h7) (eo hx rfl)
  ·
   obtain⟨_,rfl⟩:=h
   obtain⟨x,y,z,u,rfl,h1,h2,h0,h9⟩:=aqc sO
   obtain⟨v,h3,h4⟩:=cA hx.sr h1
   obtain⟨v',h5,h6⟩:=cA hx.sr h2
   obtain⟨Zs,h7,h8⟩:=cA hx.sr h0
   obtain⟨v4,g7,g8⟩:=cA hx.sr h9
   have h4:=h4.1
   have h6:=h6.1
   have h8:=h8.1
   have g8:=g8.1
   dsimp only[dD]at h4 h6 h8 g8
   subst h4 h6 h8 g8
   exact dm (OW.aq0 h3 h5 h7 g7) (eo hx rfl)
  ·
   obtain⟨_,rfl⟩:=h
   obtain⟨x,y,z,rfl,h1,h2,h0⟩:=abg sO
   obtain⟨v,h3,h4⟩:=cA hx.sr h1
   obtain⟨v',h5,h6⟩:=cA hx.sr h2
   obtain⟨Zs,h7,h8⟩:=cA hx.sr h0
   have h4:=h4.1
   have h6:=h6.1
   have h8:=h8.1
   dsimp only[dD]at h4 h6 h8
   subst h4 h6 h8
   exact dm (OW.aqX h3 h5 h7) (eo hx rfl)
  ·
   split at h
   case h_2=>cases h
   rename_i t cM
   split at h
   case h_2=>cases h
   rename_i e' n' ht
   split at h
   case isFalse=>cases h
   rename_i hn
   have hn:=bB hn
   subst hn
   obtain⟨x,rfl,AB⟩:=LF sO
   obtain⟨v,h3,h4⟩:=cA hx.sr AB
   have rB:ts= #[t]:=xA.1 cM
   subst rB
   exact aya hP hR hx ht h3 h4 h
  ·
   split at h
   case h_2=>cases h
   rename_i t t' cM
   split at h
   case isFalse=>cases h
   rename_i mZ
   have mZ:=bB mZ
   subst mZ
   split at h
   case h_2=>cases h
   rename_i e' n' ht
   obtain⟨x,y,rfl,h1,h2⟩:=wN sO
   obtain⟨v,h3,h4⟩:=cA hx.sr h1
   obtain⟨v',h5,h6⟩:=cA hx.sr h2
   have rB:ts= #[t,t]:=xA.1 cM
   subst rB
   exact axV hP hR hx ht h3 h4 h5 h6 h
  ·
   split at h
   case h_2=>cases h
   rename_i t t' cM
   split at h
   case isFalse=>
    split at h
    case h_2=>cases h
    rename_i e' n k g K tk ht yr
    obtain⟨x,y,rfl,h1,h2⟩:=wN sO
    obtain⟨v,h3,h4⟩:=cA hx.sr h1
    obtain⟨v',h5,h6⟩:=cA hx.sr h2
    have rB:ts= #[_,_]:=xA.1 cM
    subst rB
    have h6:=h6.1
    dsimp only[dD]at h6
    subst h6
    obtain⟨zs,hz,_,rfl⟩:=h
    exact akK hP hR hx ht yr (by rw[h3];exact iq aa h4) h5 hz
   rename_i mZ
   have mZ:=bB mZ
   subst mZ
   split at h
   case h_2=>cases h
   rename_i e' n ht
   obtain⟨x,y,rfl,h1,h2⟩:=wN sO
   obtain⟨v,h3,h4⟩:=cA hx.sr h1
   obtain⟨v',h5,h6⟩:=cA hx.sr h2
   have rB:ts= #[t,t]:=xA.1 cM
   subst rB
   exact aCl hP hR hx ht h3 h4 h5 h6 h
  ·
   split at h
   case h_2=>cases h
   rename_i t cM
   split at h
   case h_2=>cases h
   rename_i p ht
   obtain⟨_,rfl⟩:=h
   obtain⟨x,rfl,AB⟩:=LF sO
   obtain⟨v,h3,h4⟩:=cA hx.sr AB
   have rB:ts= #[t]:=xA.1 cM
   subst rB
   have h4:v= .slice ak 0 0:=h4
   subst h4
   have hu:=(hP.dh t p.1 p.2 ht).1
   refine dm (v:= .int .i64 0) (OW.run λa ha=>⟨_,w,?_,rfl,rfl⟩) (eo hx rfl)
   simp[execOp,resolve,invoke,builtin,dN.cap_,run_underlying hu,ha _ _ h3,goInt]
  ·exact(h:False).elim
 ·exact(h:False).elim
