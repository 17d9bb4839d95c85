import Derived.Test.YtgaghlbepnjhiaaGreatRs
import Derived.Lib.AppendZeros
set_option linter.all false
open Array renaming getElem?_eq_some_iff->iR,length_toList->oj,toList_inj->xM
open Bool renaming and_eq_true->bt,not_eq_true'->p9,true->ab
open Go renaming Builtin->dO,Operand->ba,TypeId->aX,Value->ai,World->ax
open List renaming getElem?_drop->wk,getElem?_eq_some_iff->g9,getElem?_take->mq,mem_append->bg,mem_cons->cj,mem_singleton->cY,nil_append->o7,not_mem_nil->jT,replicate->cR
open Nat renaming add_assoc->q9,add_mul->jc,beq->aW,ble_eq_true_of_le->J2,eq_of_beq_eq_true->bA,le_of_ble_eq_true->dw,le_refl->bw,mul_le_mul_right->mo,zero_add->ke,zero_le->jS
open Option renaming some->aa
open Option.some renaming inj->kb,injEq->fK
open Prod.mk renaming injEq->wj
namespace Go.Proofs.YtgaghlbepnjhiaaGreat
open Go Go.RowKit Dp
namespace Rx
section
variable {D:Nat->Type} [∀n,ad (D n)]
variable {P:Program} {T:bc D} {Qx:Exit->Act->ax->Prop} {U:Nat->Prop} {ar:Nat} {γ:Gh D} {w:ax} {sl:List (Nat×AV D)} {L:List (Nat×ai)} {ob:List (Nat×Option (AO D))}
 {d:Option Tmp} {ty:aX} {pos:String} {af:Array Edge} {gd:Option (Nat×Bool)} {e:de D} {l:List Nat}
def abX(hs:SR U γ w sl L){pl:List (Nat×Nat)}:∀{ps:List (Nat×ba)} {as:List (AV D)} {cs jm:List (A1 D)} {us:List ai},yt T pl cs ps as=aa jm->eX sl (ps.map (·.2))=aa as->dj U γ w cs us->
  ∃vs su mV,BJ L ps=aa vs∧Qw vs su∧BH pl us su=aa mV∧dj U γ w jm mV
 |[],as,cs,jm,us,h,he,hv=>by
  cases as with
  |nil=>simp only[yt,fK]at h;subst h;exact⟨[],[],us,rfl,trivial,rfl,hv⟩
  |cons _ _=>simp[yt]at h
 |(i,x)::r,as,cs,jm,us,h,he,hv=>by
  cases as with
  |nil=>simp[yt]at h
  |cons a as=>
   obtain⟨h1,h2⟩:=ux he;simp only[yt]at h;split at h
   case h_2=>cases h
   rename_i off sz us1 qA hc;split at h
   case isFalse=>cases h
   rename_i hlen;split at h
   case h_2=>cases h
   rename_i cs1 jk;obtain⟨v,b8,hvv⟩:=cG hs h1;have b6:us1.all storable=ab:=by
    unfold C6 at jk;split at jk
    ·rename_i hb;simp only[bt]at hb;exact hb.2
    ·cases jk
   obtain⟨vs1,k1,k2,k3⟩:=WV hc hvv b6;obtain⟨m1,_,m3,m4⟩:=hv.aaL k1 jk;obtain⟨vs,su,mV,n1,n2,n3,n4⟩:=abX hs h h2 m4;have hlen:=bA hlen;refine⟨(i,v)::vs,(i,vs1)::su,mV,by simp[BJ,b8,n1],⟨rfl,k2,n2⟩,?_,n4⟩;have e1:vs1.length=sz:=by rw[<-k1.length];exact hlen
   simp only[BH,qA];rw[aI ⟨by rw[e1];exact Nat.beq_refl sz,by rw[<-e1];exact J2 m1⟩];exact n3
def aDm [Rd](hP:ef P T)(hx:Cx U ar γ w sl L ob){t:aX}{n:Nat}{pl:List (Nat×Nat)}{ps:Array (Nat×ba)}{as:List (AV D)}{cs:List (A1 D)}(ht:aF T.ty t=aa (.st n))(hl:aF T.uu t=aa pl)
  (he:eX sl (ps.toList.map (·.2))=aa as) (h:yt T pl (wm.BT (T.lv n)) ps.toList as=aa cs):
  OW P Qx L ⟨d,.build t ps,ty,pos,af,gd⟩ w (λv w'=>∃γ',dW U ar γ w ob ⟨.c (.agg cs),[],[]⟩ γ' v w'):=by
 have hT:=(hP.ty t _ ht).1
 obtain⟨vs,su,us,h1,h2,h3,h4⟩:=abX hx.sr h he (QL (γ:=γ) (by simp[In]) (T.lv n))
 have:=OW.aDo (P:=P) (Qx:=Qx) (L:=L) (w:=w) (d:=d) (ty:=ty) (pos:=pos) (af:=af) (g:=gd) su us (hP.uu t pl hl).1 hT h1 h2 h3
 exact du this (pz hx ⟨us,rfl,h4⟩)
def aqs(hR:cK T)(bK:OB U γ w ob){n:Nat}{a:AV D}{v:ai}{r:D n×List Nat×List Nat}(h:Q.R ob (SP T n a) l r)(hv:gW U γ w a v):
  Rv (In γ.o (r.2.2++r.2.1)) w v r.1∧eo r.2.1∧(∀i∈r.2.2,1000<=i∧U i)∧(r.2.2≠[]->1∈r.2.1):=by
 unfold SP at h
 split at h
 case isFalse=>exact h.elim
 rename_i NC
 split at h
 case h_2=>exact h.elim
 rename_i cs jk
 obtain⟨l1,l2,x,_,h1,h2⟩:=Q.ga h
 split at h2
 case h_2=>exact h2.elim
 rename_i y hy
 obtain⟨_,rfl⟩:=h2
 obtain⟨vs,k1,k2⟩:=WX jk hv
 obtain⟨r1,r2,r3,r4⟩:=DC bK h1 k1
 refine⟨⟨vs,?_,?_⟩,r2,r3,r4⟩
 ·rw[hR.ag];rcases k2 with⟨u,rfl,rfl,b,rfl⟩|⟨rfl,b,rfl⟩
  ·simp only[VW,p9]at NC;simp[NC,pack]
  ·simp only[VW]at NC;simp[NC,pack]
 ·rw[hR.rd,hR.jf hy];exact r1
def He(hR:cK T)(bK:OB U γ w ob){n:Nat}:∀{as:List (AV D)} {vs:List ai} {l:List Nat} {r:List (D n)×List Nat×List Nat},Q.R ob (vh T n as) l r->nz U γ w as vs->
  xG (In γ.o (r.2.2++r.2.1)) w vs r.1∧eo r.2.1∧(∀i∈r.2.2,1000<=i∧U i)∧(r.2.2≠[]->1∈r.2.1)∧r.1.length=as.length
 |[],vs,l,r,h,hv=>by
  obtain⟨_,rfl⟩:=h;cases vs with
  |nil=>exact⟨trivial,lz,by simp,λh=>(h rfl).elim,rfl⟩
  |cons _ _=>exact hv.elim
 |a::as,vs,l,r,h,hv=>by
  cases vs with
  |nil=>exact hv.elim
  |cons v vs=>
   simp only[vh]at h;obtain⟨l1,l2,x,_,h1,h2⟩:=Q.ga h;obtain⟨l3,l4,y,_,h3,h4⟩:=Q.ga h2;obtain⟨_,rfl⟩:=h4;obtain⟨i1,i2,i3,i4⟩:=aqs hR bK h1 hv.1;obtain⟨j1,j2,j3,j4,j5⟩:=He hR bK h3 hv.2;have mono:∀{vs:List ai} {xs:List (D n)},xG (In γ.o (y.2.2++y.2.1)) w vs xs->xG (In γ.o ((x.2.2++y.2.2)++(x.2.1++y.2.1))) w vs xs:=by
    intro vs;induction vs with
    |nil=>intro xs h;cases xs with
     |nil=>trivial
     |cons _ _=>exact h.elim
    |cons u us ih=>intro xs h;cases xs with
     |nil=>exact h.elim
     |cons z zs=>exact⟨h.1.weaken λb hb=>by unfold In at hb⊢;rcases bg.1 hb with hb|hb<;>simp[hb],ih h.2⟩
   refine⟨⟨i1.weaken λb hb=>?_,mono j1⟩,?_,?_,λh=>?_,by simp[j5]⟩
   ·unfold In at hb⊢;rcases bg.1 hb with hb|hb<;>simp[hb]
   ·intro z hz;rcases bg.1 hz with hz|hz
    ·exact i2 z hz
    ·exact j2 z hz
   ·intro z hz;rcases bg.1 hz with hz|hz
    ·exact i3 z hz
    ·exact j3 z hz
   ·rw[bg];by_cases h5:x.2.2=[]
    ·exact .inr (j4 λh6=>h (by simp[h5,h6]))
    ·exact .inl (i4 h5)
def aff{fz:List Nat}(h:∀i∈fz,1000<=i∧U i){e:de D}(he:e.fz=fz):∀p∈nX fz,1000<=p.1∧(U p.1->p.1∈e.wr)∧(p.2=1∨(ar<=p.2∧p.2<ar+128)):=by intro p hp;simp only[nX,List.mem_map]at hp;obtain⟨q,hq,rfl⟩:=hp;exact⟨(h q hq).1,λ_=>by simp[de.wr,he,hq],.inl rfl⟩
def Lu(hx:Cx U ar γ w sl L ob){n t:Nat}{xs:List (D n)}{K fz:List Nat}{o':cE}{w':ax}{v:ai}(hK:eo K)(ky:∀i∈fz,1000<=i∧U i)(h1:fz≠[]->1∈K)(b8:bJ [] [ar] γ.o w o' w')(hO:Ow t o' ar (fz++K) w' v xs):
  ∃γ',dW U ar γ w ob ⟨.c (.one (.own ar)),[(ar,aa (.sl n t xs K (ar+16)))],fz⟩ γ' v w':=by
 have Ea:ar∉fz:=λh=>hx.fresh ar (bw _) (by omega) (ky _ h).2
 refine⟨_,mkPost (M:=[]) (N:=[ar]) (ps:=nX fz) (g':=kX γ.g ar v) (v':=gm γ.v (ar+16) [⟨.sl n,xs⟩]) hx.ob b8 (by simp) (by simp) (aff ky rfl) hx.cO (λi hi=>ur hx hi) (λi hi=>sE hx (by simp) hi) ⟨oT,(oO _ _ _).symm,hO.one⟩ ?_⟩
 intro j x hj If
 obtain⟨rfl,d_⟩:=nN hj
 cases d_
 refine⟨hx.cO,oT,?_,hK,mD (γ:=γ) (i:=0) rfl (by omega) rfl⟩
 show Ow t _ ar K w' (kX γ.g ar v ar) xs
 rw[oO]
 refine Ow.tM (λb hb=>?_) (λb hb=>?_) hO
 ·show rel (nX fz) (o' b)=ar;rw[hb,Ha.2 Ea]
 ·exact VU hK h1 (λi hi=>(ky i hi).1) b hb
def LF(hs:SR U γ w sl L):∀{ps:List (Nat×ba)} {k:Nat} {as:List (AV D)},ye k ps=ab->eX sl (ps.map (·.2))=aa as->∃vs,yu L k ps=aa vs∧nz U γ w as vs
 |[],k,as,_,h=>by simp only[List.map_nil,eX,fK]at h;subst h;exact⟨[],rfl,trivial⟩
 |(i,x)::r,k,as,hb,h=>by
  simp only[ye,bt]at hb;cases as with
  |nil=>have:=uw h;simp at this
  |cons a as=>obtain⟨h1,h2⟩:=ux h;obtain⟨v,e1,e2⟩:=cG hs h1;obtain⟨vs,e3,e4⟩:=LF hs hb.2 h2;exact⟨v::vs,by simp[yu,hb.1,e1,e3],e2,e4⟩
def aDn [Rd](hP:ef P T)(hR:cK T)(hx:Cx U ar γ w sl L ob){t e' n m:Nat}{ps:Array (Nat×ba)}{as:List (AV D)}{r:List (D n)×List Nat×List Nat}(ht:aF T.dp t=aa (e',n))(hb:ye 0 ps.toList=ab)(hm:ps.toList.length=m)(eQ:m*(T.lv n).length<=65536)
  (he:eX sl (ps.toList.map (·.2))=aa as) (h:Q.R ob (vh T n as) l r):
  OW P Qx L ⟨d,.buildSlice t m ps,ty,pos,af,gd⟩ w (λv w'=>∃γ',dW U ar γ w ob ⟨.c (.one (.own ar)),[(ar,aa (.sl n e' r.1 r.2.1 (ar+16)))],r.2.2⟩ γ' v w'):=by
 obtain⟨hu,hT⟩:=hP.dp t e' n ht
 obtain⟨vs,h1,h2⟩:=LF hx.sr hb he
 obtain⟨i1,i2,i3,i4,i5⟩:=He hR hx.ob h h2
 have hlen:r.1.length=m:=by rw[i5,<-hm];simpa using(uw he).symm
 have:=OW.buildSlice (P:=P) (Q:=Qx) (L:=L) (w:=w) (d:=d) (ty:=ty) (pos:=pos) (af:=af) (g:=gd) (o:=γ.o) (k:=ar) hu hT h1 i1 hlen (by rw[hR.sz];exact J2 eQ)
 refine OW.mono this ?_
 rintro v w' ⟨o',b8,hO⟩
 exact Lu hx i2 i3 i4 b8 hO
def aDp [Rd](hP:ef P T)(hR:cK T)(hx:Cx U ar γ w sl L ob){t e' n m:Nat}{ps:Array (Nat×ba)}{as:List (AV D)}{r:List (D n)×List Nat×List Nat}(ht:aF T.qV t=aa (m,e',n))(hb:ye 0 ps.toList=ab)(hm:ps.toList.length=m)
  (he:eX sl (ps.toList.map (·.2))=aa as) (h:Q.R ob (vh T n as) l r):
  OW P Qx L ⟨d,.build t ps,ty,pos,af,gd⟩ w (λv w'=>∃γ',dW U ar γ w ob ⟨.c (.one (.tt n r.1 r.2.1)),[],r.2.2⟩ γ' v w'):=by
 have hA:=hP.qV t m e' n ht
 obtain⟨vs,h1,h2⟩:=LF hx.sr hb he
 obtain⟨i1,i2,i3,i4,i5⟩:=He hR hx.ob h h2
 have hlen:r.1.length=m:=by rw[i5,<-hm];simpa using(uw he).symm
 have:=OW.akr (P:=P) (Q:=Qx) (L:=L) (w:=w) (d:=d) (ty:=ty) (pos:=pos) (af:=af) (g:=gd) hA.u0 hA.el hA.z h1 i1 hlen
 refine OW.mono this ?_
 rintro v w' ⟨rfl,aJ,rfl,h5⟩
 refine⟨_,mkPost (M:=[]) (N:=[]) (ps:=nX r.2.2) (g':=γ.g) (v':=γ.v) hx.ob (bJ.refl _ _ _ _) (by simp) (by simp) (aff i3 rfl) hx.cO (λ_ _=>rfl) (λ_ _=>rfl) ?_ (λj x hj=>?_)⟩
 ·exact⟨⟨aJ,rfl,h5.mono λ_ _=>ad.mono λb hb _=>⟨VU i2 i4 (λi hi=>(i3 i hi).1) b hb,rfl⟩⟩,i2⟩
 ·simp[aF]at hj
def aDq [Rd](hP:ef P T)(hR:cK T)(hx:Cx U ar γ w sl L ob){t e' n m:Nat}{ps:Array (Nat×ba)}{as:List (AV D)}{r:List (D n)×List Nat×List Nat}(ht:aF T.qV t=aa (m,e',n))(hb:ye 0 ps.toList=ab)(hm:ps.toList.length=m)
  (he:eX sl (ps.toList.map (·.2))=aa as) (h:Q.R ob (vh T n as) l r) (hf:r.2.2=[]) (hl:(r.1.flatMap (T.out n)).length<=112):
  OW P Qx L ⟨d,.build t ps,ty,pos,af,gd⟩ w (λv w'=>∃γ',dW U ar γ w ob ⟨.c (.agg (cellsD r.2.1 (ar+16) (r.1.flatMap (T.out n)))),[],[]⟩ γ' v w'):=by
 have hA:=hP.qV t m e' n ht
 obtain⟨vs,h1,h2⟩:=LF hx.sr hb he
 obtain⟨i1,i2,i3,i4,i5⟩:=He hR hx.ob h h2
 have hlen:r.1.length=m:=by rw[i5,<-hm];simpa using(uw he).symm
 rw[hf,o7]at i1
 have:=OW.akr (P:=P) (Q:=Qx) (L:=L) (w:=w) (d:=d) (ty:=ty) (pos:=pos) (af:=af) (g:=gd) hA.u0 hA.el hA.z h1 i1 hlen
 refine OW.mono this ?_
 rintro v w' ⟨rfl,aJ,rfl,h5⟩
 refine⟨_,Au hx _ hl ⟨aJ.flatten,rfl,?_⟩⟩
 exact I6 (γ':=⟨γ.o,γ.g,gm γ.v (ar+16) (r.1.flatMap (T.out n))⟩) i2 (WC hR h5) λi x hi=>mD rfl (by have:=(g9.1 hi).1;omega) hi
def aDY(hR:cK T)(bK:OB U γ w ob){n:Nat}{cs:List (A1 D)}{us:List ai}{r:List (D n)×List Nat×List Nat}(Im:T.ag n=false)(h:Q.R ob (vh T n (cs.map λc=> .c (.one c))) l r)(hv:dj U γ w cs us)(hf:r.2.2=[]):fY U γ w (.tt n r.1 r.2.1) (.agg us.toArray):=by
 have AX:nz U γ w (cs.map λc=>(.c (.one c):AV D)) us:=by
  clear h;induction cs generalizing us with
  |nil=>cases us with
   |nil=>trivial
   |cons _ _=>exact hv.elim
  |cons c cs ih=>cases us with
   |nil=>exact hv.elim
   |cons u us=>exact⟨hv.1,ih hv.2⟩
 obtain⟨i1,i2,_,_,_⟩:=He hR bK h AX;rw[hf,o7]at i1;have eL:∀us:List ai,(us.map λu=>[u]).flatten=us:=λus=>by
  induction us with
  |nil=>rfl
  |cons u us ih=>simp[ih]
 refine⟨⟨us.map λu=>[u],by rw[eL],?_⟩,i2⟩;generalize r.1=xs at i1;clear h AX hv;induction us generalizing xs with
 |nil=>cases xs with
  |nil=>trivial
  |cons _ _=>exact i1.elim
 |cons u us ih=>cases xs with
  |nil=>exact i1.elim
  |cons x xs=>exact⟨Rv.SU i1.1 (by rw[hR.ag];exact Im),ih xs i1.2⟩
def adg [Rd](hP:ef P T)(hR:cK T)(hx:Cx U ar γ w sl L ob){t e' n m:Nat}{u i:ba}{xs:List (D n)}{K:List Nat}{j:Int}{y:D n}{va:ai}{r:AV D}(ht:aF T.qV t=aa (m,e',n))(hm:xs.length=m)
  (hu:ev L u=aa va) (fc:fY U γ w (.tt n xs K) va) (hi:ev L i=aa (.int .i64 j)) (hj:idx xs j=aa y) (hr:vq (T.ag n) (cellsD K (ar+16) (T.out n y))=aa r):
  OW P Qx L ⟨d,.index t u i,ty,pos,af,gd⟩ w (λv w'=>∃γ',dW U ar γ w ob ⟨r,[],[]⟩ γ' v w'):=by
 have hA:=hP.qV t m e' n ht
 obtain⟨⟨aJ,rfl,h1⟩,h2⟩:=fc
 refine OW.mono (OW.atz hA.u0 hm hA.el hu h1 hi hj) ?_
 rintro v w' ⟨rfl,cs,rfl,h3⟩
 have hl:(T.out n y).length<=112:=by rw[Mp];exact hR.uv n
 have h4:=I6 (γ':=⟨γ.o,γ.g,gm γ.v (ar+16) (T.out n y)⟩) (U:=jG U ar) h2 (g:=ar+16) ((hR.rd n _ _ _ _).1 h3) (λi x jC=>mD (γ:=γ) rfl (by have:=(g9.1 jC).1;omega) jC)
 refine⟨_,Au hx (T.out n y) hl ?_⟩
 rw[hR.ag]
 unfold vq at hr
 cases hg:T.ag n with
 |true=>
  rw[hg]at hr
  cases hr
  exact⟨cs,rfl,h4⟩
 |false=>
  rw[hg]at hr
  simp only[Bool.false_eq_true,aB]at hr
  split at hr
  case h_2=>cases hr
  rename_i a ha
  cases hr
  rw[ha]at h4
  cases cs with
  |nil=>exact h4.elim
  |cons c cs=>exact h4.1
def Ow.head{t:aX}{o:cE}{k:Nat}{K:List Nat}{v:ai}{n:Nat}{xs:List (D n)}{y:D n}{j:Int}(h:Ow t o k K w v xs)(hj:idx xs j=aa y):∃b f cap,v= .slice (aa ⟨b,f,none⟩) xs.length cap:=by
 rcases h with⟨rfl,rfl⟩|⟨g,f,cap,aU,aJ,e1,_⟩
 ·unfold idx at hj;split at hj<;>simp at hj
 ·exact⟨g,f,cap,e1⟩
def atJ [Rd](hP:ef P T)(hx:Cx U ar γ w sl L ob){t e' n tj:Nat}{u i:ba}{a:A1 D}{va:ai}{j:Int}(ht:aF T.dp t=aa (e',n))(hu:ev L u=aa va)(fc:fY U γ w a va)(hi:ev L i=aa (.int .i64 j))(Up:named U γ tj ⟨.int .i64,j⟩)
  (h:Q.R ob (Ub n j tj a) l e):
  OW P Qx L ⟨d,.indexAddr t u i,ty,pos,af,gd⟩ w (λv w'=>∃γ',dW U ar γ w ob e γ' v w'):=by
 obtain⟨kV,hT⟩:=hP.dp t e' n ht
 unfold Ub at h
 split at h
 ·rename_i n' xs K g;split at h
  case isFalse=>exact h.elim
  rename_i hn;have hn:=bA hn;subst hn;obtain⟨y,hy,_,rfl⟩:=h;obtain⟨h1,h2,h3⟩:=fc;refine OW.mono (OW.indexAddr kV hT hu h1 hi hy) ?_;rintro v w' ⟨rfl,pa,rfl,hp,_⟩;exact⟨γ,pz hx ⟨pa,by rw[add_zero'],hp,h3⟩⟩
 ·rename_i i';obtain⟨ao,l',ho,rfl,h⟩:=h;obtain⟨hU,rfl,_⟩:=fc;have key:∀{n' tc:Nat} {xs:List (D n')},((∀y,idx xs j=aa y->∃b f cap,γ.g i'= .slice (aa ⟨b,f,none⟩) xs.length cap)∧named U γ tc ⟨.sl n',xs⟩)->Q.R ob (if aW n' n&& !(aW tc 0)then .part (idx xs j) λy=>bZ (.c (.one (.el i' n' j y 0 tc tj)))else .fail) l' e->
    OW P Qx L ⟨d,.indexAddr t u i,ty,pos,af,gd⟩ w (λv w'=>∃γ',dW U ar γ w ob e γ' v w'):=by
   clear h
   rintro n' tc xs ⟨hh,h3⟩ hq
   split at hq
   case isFalse=>exact hq.elim
   rename_i hn
   simp only[bt,p9]at hn
   have AY:tc≠0:=λe=>by subst e;simp at hn
   have hn:=bA hn.1
   subst hn
   obtain⟨y,hy,_,rfl⟩:=hq
   obtain⟨b,f,cap,hg⟩:=hh y hy
   refine OW.mono (OW.adq kV hT hu hg hi hy) ?_
   rintro v w' ⟨rfl,rfl⟩
   rcases h3 with h3|⟨h3,h4⟩
   ·exact(AY h3).elim
   refine⟨γ,pz hx ⟨hU,⟨AY,h3⟩,⟨xs,h4,hy⟩,Up,b,f,_,_,hg,?_⟩⟩
   rw[jR]
   rfl
  obtain⟨_,_,h1⟩:=hx.ob.ob _ _ ho;cases ao with
  |box=>exact h.elim
  |sl n' t' xs K tc=>exact key ⟨λy hy=>Ow.head h1.1 hy,h1.2.2⟩ h
  |df n' t' xX q xs tc h0=>exact key ⟨λy hy=>Ow.head h1.1.ow hy,h1.2.1⟩ h
  |iH n' t' xX q xs j' vr s tc=>obtain⟨h2,_,b,len,cap,h3,gg,q',aU,_,_,_,_,_,h4⟩:=h1;exact key ⟨λy hy=>Ow.head h4.ow hy,h2⟩ h
  |mp=>exact h.elim
  |fz n' xs K=>
   dsimp only at h;split at h
   case isFalse=>exact h.elim
   rename_i hn;have hn:=bA hn;subst hn;obtain⟨y,hy,_,rfl⟩:=h;refine OW.mono (OW.indexAddr kV hT hu h1.1 hi hy) ?_;rintro v w' ⟨rfl,pa,rfl,hp,_⟩;exact⟨γ,pz hx ⟨pa,by rw[add_zero'],hp,h1.2⟩⟩
 ·obtain⟨y,hy,_⟩:=h;cases hy
 ·rename_i i' n0 j0;obtain⟨ao,l',ho,rfl,h⟩:=h;obtain⟨hU,hj0,p,nn,c,e1,e2,e3⟩:=fc;cases ao with
  |sl n' t' xs K tc=>
   dsimp only at h;split at h
   case isFalse=>exact h.elim
   rename_i hn;simp only[bt,p9]at hn;have AY:tc≠0:=λe=>by subst e;simp at hn
   have UO:=bA hn.1.1;have hn2:=bA hn.1.2;subst UO;subst hn2;obtain⟨y,hy,_,rfl⟩:=h;obtain⟨_,_,h1,h2,h3⟩:=hx.ob.ob _ _ ho;obtain⟨p',zi,f1,f2,_⟩:=u9 h1.rv;have gp:=hy;unfold idx at gp;split at gp
   case isFalse=>cases gp
   rename_i hj;have hyx:idx xs (HD j0 j)=aa y:=by unfold idx;rw[aI (show 0<=j0+j by omega)];rw[wk]at gp;rw[show(HD j0 j).toNat=j0.toNat+j.toNat by show(j0+j).toNat=_;omega];exact gp
   obtain⟨b,f,cap,hg⟩:=Ow.head h1 hyx;rw[hg]at e1 f1;simp only[ai.slice.injEq]at e1 f1;obtain⟨rfl,rfl,rfl⟩:=e1;obtain⟨_,_,rfl⟩:=f1;have aS:j0.toNat+j.toNat<xs.length:=by rw[wk]at gp;exact(g9.1 gp).1
   have jX:∀(q r:Nat),(⟨b,q,none⟩:Addr).add r=⟨b,q+r,none⟩:=λq r=>by unfold Addr.add;split<;>simp_all
   have Wf:va= .slice (aa ⟨b,f+j0.toNat*ad.sz (D n'),none⟩) (uz xs j0).length (cap-j0.toNat):=by rw[e2,aK (by omega)];simp[jX]
   refine OW.mono (OW.adq (xs:=uz xs j0) kV hT hu Wf hi hy) ?_;rintro v w' ⟨rfl,rfl⟩;rcases h3 with h3|⟨h3,h4⟩
   ·exact(AY h3).elim
   refine⟨γ,pz hx ⟨hU,⟨AY,h3⟩,⟨xs,h4,hyx⟩,.inl rfl,b,f,_,_,hg,?_⟩⟩;rw[jX];unfold fT;rw[show(HD j0 j).toNat=j0.toNat+j.toNat by show(j0+j).toNat=_;omega,jc,Nat.add_zero,q9]
  |_=>exact h.elim
 ·exact h.elim
def aa_{x y:ba}{v:ai}(h:G1 x y=ab)(hx:ev L x=aa v):ev L y=aa v:=by
 unfold G1 at h;split at h
 ·rename_i a b;have:=bA h;subst this;exact hx
 ·rename_i a b;have:=jJ h;subst this;exact hx
 ·cases h
def asg [Rd](hP:ef P T)(hR:cK T)(hx:Cx U ar γ w sl L ob){t e' n:Nat}{u1 u2:ba}{m:Int}{zs:List (D n)}(ht:aF T.dp t=aa (e',n))(h1:ev L u1=aa (.int .i64 m))(h2:G1 u1 u2=ab)(hm:mE (T.zero n) m=aa zs):
  OW P Qx L ⟨d,.makeSlice t u1 u2,ty,pos,af,gd⟩ w (λv w'=>∃γ',dW U ar γ w ob ⟨.c (.one (.own ar)),[(ar,aa (.sl n e' zs [] (ar+16)))],[]⟩ γ' v w'):=by
 obtain⟨hu,hT⟩:=hP.dp t e' n ht
 have nR:yx (D n) m=aa zs:=by unfold yx;unfold mE at hm;rw[hR.zero];exact hm
 refine OW.mono (OW.make (o:=γ.o) (k:=ar) hu hT h1 (aa_ h2 h1) nR) ?_
 rintro v w' ⟨o',b8,hO⟩
 exact Lu hx lz (by simp) (λh=>(h rfl).elim) b8 hO
def Y2{α:Type}[ad α](w:ax)(q:Nat):(dO.zeroCells (pack (ad.agg α) (ad.zc α)).cells q).toList=(cR q (ad.zc α)).flatten:=by
 have hz:(pack (ad.agg α) (ad.zc α)).cells.toList=ad.zc α:=wR (α:=α) (ad.gh (λ_=>True) w);have ie:(ad.zc α).length=ad.sz α:=ad.len (ad.gh (α:=α) (λ_=>True) w);have oI:=ad.pos (α:=α);generalize hzz:(pack (ad.agg α) (ad.zc α)).cells=z at*;unfold dO.zeroCells;have jh:z.size=ad.sz α:=by rw[<-oj,hz,ie]
 have key:∀q:Nat,(List.range (q*ad.sz α)).map (λi=>z[i% z.size]!)=(cR q (ad.zc α)).flatten:=by
  intro q;induction q with
  |zero=>simp
  |succ q ih=>
   rw[List.replicate_succ',List.flatten_append,<-ih,Nat.succ_mul,List.range_add,List.map_append];congr 1;simp only[List.map_map,List.flatten_singleton];rw[<-hz];apply List.ext_getElem?;intro j;by_cases hj:j<ad.sz α
   ·have e1:(q*ad.sz α+j)% z.size=j:=by rw[jh,Nat.mul_comm,Nat.mul_add_mod,Nat.mod_eq_of_lt hj]
    have nT:j<z.size:=by omega
    simp[hj,e1,nT,getElem!_pos]
   ·simp[hj,jh]
 rw[jh];simpa[jh]using key q
def OW.alT [Rd]{α:Type}[ad α]{s x:ba}{t tn e' k0:Nat}{o:cE}{zs:List α}{m:Int}(hu:P.underlying t=aa (.slice e'))(hT:bN P e' α)(hn:P.underlying tn=aa (.int .i64))(h1:ev L s=aa (.slice none 0 0))(h2:ev L x=aa (.int .i64 m))(hm:Az (ad.zero:α) m=aa zs):
  OW P Qx L ⟨d,.call {callee:= .builtin .append,args:= #[s,x],argTypes:= #[t,tn]},ty,pos,af,gd⟩ w (λv' w'=>∃o',bJ [] [k0] o w o' w'∧Ow e' o' k0 [] w' v' zs):=by
 unfold Az at hm
 split at hm
 case isFalse=>cases hm
 rename_i hb
 cases hm
 obtain⟨i,fP,eb,iK,mK⟩:=hT.m_
 have oI:=ad.pos (α:=α)
 have Ep:m.toNat*i.bytes<=281474976710656:=by have:=Nat.mul_le_mul (show m.toNat<=1073741824 by omega) iK;omega
 have hmm:((m.toNat:Nat):Int)=m:=by omega
 have hr:=Lib.run_append_nil_zeros (P:=P) w t tn ty e' i _ .i64 .i64 hu hn fP mK m.toNat (by omega) (by omega) (by omega) Ep
 rw[hmm]at hr
 have tX:(pack (ad.agg α) (ad.zc α)).cells.toList=ad.zc α:=wR (α:=α) (ad.gh (λ_=>True) w)
 have ie:(ad.zc α).length=ad.sz α:=ad.len (ad.gh (α:=α) (λ_=>True) w)
 have jh:(pack (ad.agg α) (ad.zc α)).cells.size=ad.sz α:=by rw[<-oj,tX,ie]
 have sP:=grownCap_ge w m.toNat 0 e'
 refine OW.run λa ha=>⟨_,_,by simp[execOp,resolve,invoke,builtin,ha _ _ h1,ha _ _ h2,hr];exact⟨rfl,rfl⟩,grow o w k0,?_,.inr ⟨w.heap.size,0,grownCap w m.toNat 0 e',_,cR m.toNat (ad.zc α),by simp,sT o w k0 _ (bw _),heap_alloc_new w.drew _,?_,?_,?_,?_,?_⟩⟩
 ·exact(bJ.fresh k0 ((Below.refl _ _).drew.alloc (bw _) _)).weaken (by simp) (by simp)
 ·simpa using sP
 ·exact grownCap_le_maxLen w _ _ _ (by unfold maxLen;omega)
 ·simp only[Array.size_append,size_zeroCells,jh,<-jc,ke];exact mo _ (by omega)
 ·exact cA.replicate (ad.gh _ _) _
 ·rw[List.drop_zero,Array.toList_append,Y2 w,List.length_replicate];refine List.take_left' ?_;rw[<-Y2 w,oj,size_zeroCells,jh]
def alS [Rd](hP:ef P T)(hR:cK T)(hx:Cx U ar γ w sl L ob){t tn e' n:Nat}{s x:ba}{m:Int}{zs:List (D n)}(ht:aF T.dp t=aa (e',n))(yI:aF T.ty tn=aa (.one (.int .i64)))(h1:ev L s=aa (.slice none 0 0))(h2:ev L x=aa (.int .i64 m))(hm:Az (T.zero n) m=aa zs):
  OW P Qx L ⟨d,.call {callee:= .builtin .append,args:= #[s,x],argTypes:= #[t,tn]},ty,pos,af,gd⟩ w (λv w'=>∃γ',dW U ar γ w ob ⟨.c (.one (.own ar)),[(ar,aa (.sl n e' zs [] (ar+16)))],[]⟩ γ' v w'):=by
 obtain⟨hu,hT⟩:=hP.dp t e' n ht
 refine OW.mono (OW.alT (o:=γ.o) (k0:=ar) hu hT (hP.ty _ _ yI).2 h1 h2 (by rw[hR.zero];exact hm)) ?_
 rintro v w' ⟨o',b8,hO⟩
 exact Lu hx lz (by simp) (λh=>(h rfl).elim) b8 hO
def iM.kc{α:Type}[ad α]{z:Nat}{t tc:aX}{o:cE}{k kc:Nat}{v:ai}{xs:List α}(h:iM z t tc o k kc w v xs)(hn:∀b,b<w.heap.size->o b≠kc):iM z t tc (lE o k v) 0 1 w v xs:=by
 rcases h with h|⟨g,cap,aU,aJ,h1,h2,h3,h4,h5,h6,h7,h8,h9,rO⟩
 ·exact .inl h
 ·refine .inr ⟨g,cap,aU,aJ,h1,TU h2 (by rw[h1];exact Nat.beq_refl g),h3,h4,h5,h6,h7.mono λ_ _=>ad.mono λb hb aS=>?_,h8,λu hu p n c e=>?_,rO⟩
  ·have hb:o b=kc:=by simpa[In]using hb
   exact(hn b aS hb).elim
  ·rcases h9 u hu p n c e with h|⟨g',f',EW,i1,i2,i3,i4⟩
   ·exact .inl h
   ·exact(hn g' (iR.1 i3).1 i2).elim
def asi [Rd](hP:ef P T)(hR:cK T)(hx:Cx U ar γ w sl L ob){t e' n tc q:Nat}{u1 u2:ba}{m:Int}{zs:List (D n)}(ht:aF T.dp t=aa (e',n))(hk:aF T.kd n=aa (tc,q))(h1:ev L u1=aa (.int .i64 m))(h2:G1 u1 u2=ab)(hm:mE (T.zero n) m=aa zs):
  OW P Qx L ⟨d,.makeSlice t u1 u2,ty,pos,af,gd⟩ w (λv w'=>∃γ',dW U ar γ w ob ⟨.c (.one (.own ar)),[(ar,aa (.df n e' tc q zs (ar+16) 0))],[]⟩ γ' v w'):=by
 obtain⟨hu,hT⟩:=hP.dp t e' n ht
 have hK:=hP.kd n tc q hk
 have nR:yx (D n) m=aa zs:=by unfold yx;unfold mE at hm;rw[hR.zero];exact hm
 refine OW.mono (OW.asj (o:=γ.o) (k:=ar) (ar+1) (ad.sz (D q)) tc hK.zc hu hT h1 (aa_ h2 h1) nR) ?_
 rintro v w' ⟨o',b8,hO⟩
 have bM:∀b,b<w'.heap.size->o' b≠ar+1:=λb hb e=>by
  by_cases aS:b<w.heap.size
  ·rw[b8.fU b aS]at e;exact hx.nw aS (by omega) (by omega) e
  ·have:=b8.new b (by omega) hb;simp at this;omega
 have hO':=iM.kc hO bM
 refine⟨_,mkPost (M:=[]) (N:=[ar]) (ps:=[]) (g':=kX γ.g ar v) (v':=gm γ.v (ar+16) [⟨.sl n,zs⟩]) hx.ob b8 (by simp) (by simp) (by simp) hx.cO (λi hi=>ur hx hi) (λi hi=>sE hx (by simp) hi) ⟨oT,(oO _ _ _).symm,hO.one⟩ ?_⟩
 intro j x hj If
 obtain⟨rfl,d_⟩:=nN hj
 cases d_
 refine⟨hx.cO,oT,?_,mD (γ:=γ) (i:=0) rfl (by omega) rfl,.inl rfl⟩
 show iM _ e' tc (lE o' ar (kX γ.g ar v ar)) 0 1 w' (kX γ.g ar v ar) zs
 rw[oO]
 exact hO'
def Ow.S1{α:Type}[ad α]{T:aX}{o:cE}{k:Nat}{K:List Nat}{w:ax}{v v':ai}{j:Nat}{xs:List α}(h:Ow T o k K w v xs)(hp:Qv v v' j):Ow T o k K w v' (xs.take j):=by
 obtain⟨p,m,c,h1,rfl,hj⟩:=hp;rcases h with⟨rfl,rfl⟩|⟨gg,f,cap,aU,aJ,rfl,h2,h3,h4,h5,h6,h7,h8⟩
 ·cases h1;have:j=0:=by omega
  subst this;exact .inl ⟨rfl,rfl⟩
 ·cases h1;have hl:(xs.take j).length=j:=by simp;omega
  refine .inr ⟨gg,f,c,aU,aJ.take j,by rw[hl],h2,h3,by omega,h5,h6,h7.take j,?_⟩;rw[BG h7.pu,<-h8,List.take_take,hl];congr 1;exact(Nat.min_eq_left (mo _ hj)).symm
def Ow.tail{α:Type}[ad α]{T:aX}{o:cE}{k j:Nat}{K:List Nat}{w:ax}{v v':ai}{xs:List α}(h:Ow T o k K w v xs)(ht:Ca (ad.sz α) v v' j):Ow T o k K w v' (xs.drop j):=by
 obtain⟨p,m,c,h1,rfl,hj⟩:=ht;rcases h with⟨rfl,rfl⟩|⟨gg,f,cap,aU,aJ,rfl,h2,h3,h4,h5,h6,h7,h8⟩
 ·cases h1;have:j=0:=by omega
  subst this;exact .inl ⟨by simp,by simp⟩
 ·cases h1;have hl:(xs.drop j).length=xs.length-j:=by simp
  by_cases yW:c=j
  ·have hx:xs.drop j=[]:=List.drop_eq_nil_of_le (by omega);have e1:xs.length-j=0:=by omega
   have e2:c-j=0:=by omega
   rw[hx,aI yW,e1,e2];exact .inr ⟨gg,f,0,aU,[],rfl,h2,h3,bw _,jS _,by omega,trivial,by simp⟩
  ·refine .inr ⟨gg,f+j*ad.sz α,c-j,aU,aJ.drop j,?_,h2,h3,by omega,by omega,?_,h7.drop j,?_⟩
   ·rw[hl,aK yW,Option.map_some,jR]
   ·have e3:j*ad.sz α+(c-j)*ad.sz α=c*ad.sz α:=by rw[<-jc,show j+(c-j)=c by omega]
    omega
   ·rw[hl,Ey h7.pu,<-h8,List.drop_take,List.drop_drop,Nat.sub_mul]
def Ow.aoy{α:Type}[ad α]{T:aX}{o:cE}{k j:Nat}{K:List Nat}{w:ax}{v v':ai}{xs:List α}(h:Ow T o k K w v xs)(ht:Ca (ad.sz α) v v' j):fJ (In o K) w v' (xs.drop j):=by
 obtain⟨p,m,c,h1,rfl,hj⟩:=ht;rcases h with⟨rfl,rfl⟩|⟨gg,f,cap,aU,aJ,rfl,h2,h3,h4,h5,h6,h7,h8⟩
 ·cases h1;have:j=0:=by omega
  subst this;exact⟨_,_,rfl,.inl (by simp)⟩
 ·cases h1;refine⟨_,_,by rw[List.length_drop],?_⟩;rcases Nat.lt_or_ge j xs.length with aS|sP
  ·right;have yW:¬c=j:=by omega
   refine⟨⟨gg,f+j*ad.sz α,none⟩,aJ.drop j,?_,h7.drop j,?_⟩
   ·have jX:(⟨gg,f,none⟩:Addr).add (j*ad.sz α)=⟨gg,f+j*ad.sz α,none⟩:=jR _ _ _;simp[yW,jX]
   ·intro q u hq;rw[jR,cell_of_row w gg _ aU T (0,0) h3];rw[Ey h7.pu,wk,<-h8,mq]at hq;split at hq
    ·simpa[q9]using hq
    ·cases hq
  ·exact .inl (List.drop_eq_nil_of_le sP)
def SO(bK:OB U γ w ob){n:Nat}{a:A1 D}{v:ai}{r:List (D n)×List Nat}(h:Q.R ob (Hd n a) l r)(hv:fY U γ w a v):fJ (In γ.o r.2) w v r.1∧eo r.2:=by
 unfold Hd at h;split at h
 ·rename_i n' xs K g;split at h
  case isFalse=>exact h.elim
  rename_i hn;subst hn;obtain⟨_,rfl⟩:=h;exact⟨hv.1.dp,hv.2.2⟩
 ·obtain⟨_,rfl⟩:=h;have hv:v= .slice none 0 0:=hv;subst hv;exact⟨⟨none,0,rfl,.inl rfl⟩,lz⟩
 ·obtain⟨ao,l',ho,rfl,h⟩:=h;cases ao with
  |box=>exact h.elim
  |df=>exact h.elim
  |iH=>exact h.elim
  |sl n' t xs K g=>
   dsimp only at h;split at h
   case isFalse=>exact h.elim
   rename_i hn;subst hn;obtain⟨_,rfl⟩:=h;obtain⟨_,rfl,_⟩:=hv;obtain⟨_,_,h1,h2,_⟩:=bK.ob _ _ ho;exact⟨h1.dp,h2⟩
  |mp=>exact h.elim
  |fz n' xs K=>
   dsimp only at h;split at h
   case isFalse=>exact h.elim
   rename_i hn;subst hn;obtain⟨_,rfl⟩:=h;obtain⟨_,rfl,_⟩:=hv;obtain⟨_,_,h1,h2⟩:=bK.ob _ _ ho;exact⟨h1.dp,h2⟩
 ·obtain⟨ao,l',ho,rfl,h⟩:=h;cases ao with
  |box=>exact h.elim
  |df=>exact h.elim
  |iH=>exact h.elim
  |fz=>exact h.elim
  |mp=>exact h.elim
  |sl n0 t xs K g=>
   dsimp only at h;split at h
   case isFalse=>exact h.elim
   rename_i Bd;have Bd:=bA Bd;subst Bd;split at h
   case isFalse=>exact h.elim
   rename_i hn;subst hn;obtain⟨_,rfl⟩:=h;obtain⟨_,ht⟩:=hv;obtain⟨_,_,h1,h2,_⟩:=bK.ob _ _ ho;exact⟨Ow.aoy h1 ht.2,h2⟩
 ·obtain⟨ao,l',ho,rfl,h⟩:=h;cases ao with
  |box=>exact h.elim
  |df=>exact h.elim
  |iH=>exact h.elim
  |fz=>exact h.elim
  |mp=>exact h.elim
  |sl n0 t xs K g=>
   dsimp only at h;split at h
   case isFalse=>exact h.elim
   rename_i Bd;have Bd:=bA Bd;subst Bd;split at h
   case isFalse=>exact h.elim
   rename_i hn;subst hn;obtain⟨_,rfl⟩:=h;obtain⟨_,ht⟩:=hv;obtain⟨_,_,h1,h2,_⟩:=bK.ob _ _ ho;exact⟨(Ow.S1 h1 ht).dp,h2⟩
 ·exact h.elim
def fJ.weaken{n:Nat}{S S':Nat->Prop}{v:ai}{xs:List (D n)}(hm:∀b,S b->S' b)(h:fJ S w v xs):fJ S' w v xs:=by
 obtain⟨p,cap,rfl,h⟩:=h;refine⟨p,cap,rfl,?_⟩;rcases h with h|⟨a,aJ,h1,h2,h3⟩
 ·exact .inl h
 ·exact .inr ⟨a,aJ,h1,h2.mono λ_ _=>ad.mono λb hb _=>⟨hm b hb,rfl⟩,h3⟩
def aDN [Rd](hP:ef P T)(hR:cK T)(hx:Cx U ar γ w sl L ob){t e' n:Nat}{s x:ba}{a b:A1 D}{va vb:ai}(ht:aF T.dp t=aa (e',n))(hs:ev L s=aa va)(fc:fY U γ w a va)(hb:ev L x=aa vb)(Uk:fY U γ w b vb)
  (h:Q.R ob (PY T ar n e' a b) l e):
  OW P Qx L ⟨d,.call {callee:= .builtin .append,args:= #[s,x],argTypes:= #[t,t]},ty,pos,af,gd⟩ w (λv w'=>∃γ',dW U ar γ w ob e γ' v w'):=by
 obtain⟨hu,hT⟩:=hP.dp t e' n ht
 unfold PY at h
 obtain⟨l1,l2,y0,_,h1,h⟩:=Q.ga h
 obtain⟨DX,M4⟩:=SO hx.ob h1 Uk
 have kf:fJ (In γ.o (vR T n y0.2)) w vb y0.1∧eo (vR T n y0.2):=by
  unfold vR;split
  ·rename_i hf;haveI:=hR.flat hf;exact⟨fJ.flat DX,λz hz=>by cases hz⟩
  ·exact⟨DX,M4⟩
 obtain⟨ys,nO⟩:∃ys:List (D n)×List Nat,ys=(y0.1,vR T n y0.2):=⟨_,rfl⟩
 rw[<-nO]at h
 have k1:fJ (In γ.o ys.2) w vb ys.1:=by rw[nO];exact kf.1
 have k2:eo ys.2:=by rw[nO];exact kf.2
 clear nO kf DX M4 h1
 unfold PY.akI at h
 cases a with
 |own i=>
  obtain⟨ao,l',ho,rfl,h⟩:=h
  cases ao with
  |box=>exact h.elim
  |df=>exact h.elim
  |iH=>exact h.elim
  |fz=>exact h.elim
  |mp=>exact h.elim
  |sl n' t' xs K g=>
   dsimp only at h
   split at h
   case isFalse=>exact h.elim
   rename_i hn
   subst hn
   split at h
   case isFalse=>exact h.elim
   rename_i ng
   have ng:=bA ng
   subst ng
   obtain⟨zs,hz,_,rfl⟩:=h
   obtain⟨hU,rfl,_⟩:=fc
   obtain⟨fF,_,m1,m2,m3⟩:=hx.ob.ob _ _ ho
   have hK:eo (ys.2++K):=λz hz=>by
    rcases bg.1 hz with hz|hz
    ·exact k2 z hz
    ·exact m2 z hz
   have uh:j7 (ys.2++K) [i]=ab:=EU λz hz=>by simp only[cY];rintro rfl;have:=hK _ hz;omega
   have Hq:Ow t' γ.o i (ys.2++K) w (γ.g i) xs:=Ow.tM (λ_ h=>h) (λb hb=>by unfold In at hb⊢;simp[hb]) m1
   refine OW.mono (OW.append hu hT hs hb Hq (fJ.weaken (λb hb=>by unfold In at hb⊢;simp[hb]) k1) hz uh) ?_
   rintro v w' ⟨o',b8,hO⟩
   have gI:i≠ar:=λe=>hx.fresh ar (bw _) (by omega) (e▸hU)
   have oK:∀{j:Nat} {x:AO D},aF [(ar,aa (AO.sl n' t' zs (ys.2++K) (ar+16))),(i,none)] j=aa (aa x)->j=ar∧x= .sl n' t' zs (ys.2++K) (ar+16):=by intro j x hj;have:=dS hj;simp only[cj,wj,jT,kF,fK,reduceCtorEq,and_false]at this;exact this
   have A4:∀z,z≠i->rel [(i,ar)] z=z:=λz hz=>by
    unfold rel;split
    ·rename_i y hy;have:=(nN hy).1;exact(hz this.symm).elim
    ·rfl
   have HQ:rel [(i,ar)] i=ar:=by simp[rel,aF]
   refine⟨_,mkPost (M:=[i]) (N:=[i]) (ps:=[(i,ar)]) (g':=kX γ.g ar v) (v':=gm γ.v (ar+16) [⟨.sl n',zs⟩]) hx.ob b8 (by simp[fF,hU,de.wr]) (by simp) (by simp[fF,de.wr]) hx.cO (λi hi=>ur hx hi) (λi hi=>sE hx (by simp) hi) ⟨oT,(oO _ _ _).symm,hO.one⟩ ?_⟩
   intro j x hj If
   obtain⟨rfl,rfl⟩:=oK hj
   refine⟨hx.cO,oT,?_,hK,mD (γ:=γ) (i:=0) rfl (by omega) rfl⟩
   show Ow t' _ j (ys.2++K) w' (kX γ.g j v j) zs
   rw[oO]
   refine Ow.tM (λb hb=>?_) (λb hb=>?_) hO
   ·show rel [(i,j)] (o' b)=j;rw[hb,HQ]
   ·have:o' b≠i:=λe=>by
     unfold In at hb;have:=hK _ hb;omega
    show rel [(i,j)] (o' b)∈_;rw[A4 _ this];exact hb
 |pre i ne j=>
  obtain⟨ao,l',ho,rfl,h⟩:=h
  cases ao with
  |box=>exact h.elim
  |df=>exact h.elim
  |iH=>exact h.elim
  |fz=>exact h.elim
  |mp=>exact h.elim
  |sl n' t' xs K g=>
   dsimp only at h
   split at h
   case isFalse=>exact h.elim
   rename_i hn
   subst hn
   split at h
   case isFalse=>exact h.elim
   rename_i ng
   obtain⟨zs,hz,_,rfl⟩:=h
   simp only[bt]at ng
   obtain⟨ng,bM⟩:=ng
   have ng:=bA ng
   have bM:=bA bM
   subst ng bM
   obtain⟨hU,D_⟩:=fc
   obtain⟨fF,_,m0,m2,m3⟩:=hx.ob.ob _ _ ho
   have m1:=Ow.S1 m0 D_
   have hK:eo (ys.2++K):=λz hz=>by
    rcases bg.1 hz with hz|hz
    ·exact k2 z hz
    ·exact m2 z hz
   have uh:j7 (ys.2++K) [i]=ab:=EU λz hz=>by simp only[cY];rintro rfl;have:=hK _ hz;omega
   have Hq:Ow t' γ.o i (ys.2++K) w va (xs.take j.toNat):=Ow.tM (λ_ h=>h) (λb hb=>by unfold In at hb⊢;simp[hb]) m1
   refine OW.mono (OW.append hu hT hs hb Hq (fJ.weaken (λb hb=>by unfold In at hb⊢;simp[hb]) k1) hz uh) ?_
   rintro v w' ⟨o',b8,hO⟩
   have gI:i≠ar:=λe=>hx.fresh ar (bw _) (by omega) (e▸hU)
   have oK:∀{j:Nat} {x:AO D},aF [(ar,aa (AO.sl n' t' zs (ys.2++K) (ar+16))),(i,none)] j=aa (aa x)->j=ar∧x= .sl n' t' zs (ys.2++K) (ar+16):=by intro j' x hj;have:=dS hj;simp only[cj,wj,jT,kF,fK,reduceCtorEq,and_false]at this;exact this
   have A4:∀z,z≠i->rel [(i,ar)] z=z:=λz hz=>by
    unfold rel;split
    ·rename_i y hy;have:=(nN hy).1;exact(hz this.symm).elim
    ·rfl
   have HQ:rel [(i,ar)] i=ar:=by simp[rel,aF]
   refine⟨_,mkPost (M:=[i]) (N:=[i]) (ps:=[(i,ar)]) (g':=kX γ.g ar v) (v':=gm γ.v (ar+16) [⟨.sl n',zs⟩]) hx.ob b8 (by simp[fF,hU,de.wr]) (by simp) (by simp[fF,de.wr]) hx.cO (λi hi=>ur hx hi) (λi hi=>sE hx (by simp) hi) ⟨oT,(oO _ _ _).symm,hO.one⟩ ?_⟩
   intro j' x hj If
   obtain⟨rfl,rfl⟩:=oK hj
   refine⟨hx.cO,oT,?_,hK,mD (γ:=γ) (i:=0) rfl (by omega) rfl⟩
   show Ow t' _ j' (ys.2++K) w' (kX γ.g j' v j') zs
   rw[oO]
   refine Ow.tM (λb hb=>?_) (λb hb=>?_) hO
   ·show rel [(i,j')] (o' b)=j';rw[hb,HQ]
   ·have:o' b≠i:=λe=>by
     unfold In at hb;have:=hK _ hb;omega
    show rel [(i,j')] (o' b)∈_;rw[A4 _ this];exact hb
 |bH=>
  obtain⟨zs,hz,_,rfl⟩:=h
  have fc:va= .slice none 0 0:=fc
  subst fc
  have uh:j7 ys.2 [ar]=ab:=EU λz hz=>by simp only[cY];rintro rfl;have:=k2 _ hz;have:=hx.cO;omega
  refine OW.mono (OW.append hu hT hs hb (Ow.nil e' γ.o ar ys.2 w) k1 hz uh) ?_
  rintro v w' ⟨o',b8,hO⟩
  have Vl:bJ [] [ar] γ.o w o' w':=⟨b8.os,b8.tape,b8.output,b8.size,b8.fU,b8.new,λb hb _=>b8.nu b hb (by simp only[cY];exact hx.nw hb (bw _) (by omega))⟩
  exact Lu (fz:=[]) hx k2 (by simp) (λh=>(h rfl).elim) Vl hO
 |ch i e1 j off ct m dd=>
  obtain⟨ao,l',ho,rfl,h⟩:=h
  cases ao with
  |box=>exact h.elim
  |sl=>exact h.elim
  |iH=>exact h.elim
  |fz=>exact h.elim
  |mp=>exact h.elim
  |df e2 te tc q xs gx h0=>
   dsimp only at h
   split at h
   case isFalse=>exact h.elim
   rename_i hc
   have hq:=h
   clear h
   simp only[bt,p9]at hc
   obtain⟨⟨⟨⟨⟨⟨c1,c2⟩,c3⟩,c4⟩,c5⟩,c6⟩,c7⟩:=hc
   have c1:=bA c1
   have c2:=bA c2
   have c4:=bA c4
   have c5:=bA c5
   have c6:=bA c6
   subst c1 c2 c4 c5 c6
   have Vt:ct≠0:=λe=>by subst e;simp at c3
   obtain⟨y,hy,hq⟩:=hq
   dsimp only at hq
   split at hq
   case h_2=>exact hq.elim
   rename_i m' d' NE
   split at hq
   case isFalse=>exact hq.elim
   rename_i nR
   subst nR
   obtain⟨zs,hz,hq⟩:=hq
   dsimp only at hq
   split at hq
   case h_2=>exact hq.elim
   rename_i y' gp
   obtain⟨wA,yK,_,rfl⟩:=hq
   have hK:JV P D e1 tc m':=by
    unfold ac9 at c7;split at c7
    ·rename_i p hp;simp only[bt]at c7;have e1':=bA c7.1;have Wf:=bA c7.2;obtain⟨p1,p2⟩:=p;subst e1' Wf;exact hP.kd _ _ _ hp
    ·cases c7
   haveI:=hK.one
   haveI:=hK.flat
   obtain⟨hU,⟨_,aEW⟩,_,⟨b0,len,cap,cells,hg,Ij,ul⟩,_⟩:=fc
   obtain⟨fF,_,m1,m2,m3⟩:=hx.ob.ob _ _ ho
   rcases m3 with m3|⟨_,_,azA,m4,m5⟩
   ·exact(Vt m3).elim
   rw[Ij]at m4
   cases m4
   have nS:(T.lv e1)[off]? =aa (.sl m'):=by
    have:((T.out e1 y).map DV.l)[off]? =aa (.sl m'):=by rw[List.getElem?_map,NE];rfl
    rw[bc.out,DK]at this;exact this
   have hF:=asY hR nS
   have hGy:Hv T e1 off m' y=d':=acT NE
   have hSy:AJ T e1 off m' y zs=y':=by unfold AJ;rw[gp]
   obtain⟨aU,cb,ch⟩:=Vm m1 hg
   have hpa:(⟨b0,j.toNat*ad.sz (D e1),none⟩:Addr).add off=⟨b0,j.toNat*ad.sz (D e1)+off,none⟩:=jR _ _ _
   have hE:FU (γ.g i) (ad.sz (D e1)) j ⟨b0,j.toNat*ad.sz (D e1),none⟩:=⟨⟨b0,0,none⟩,len,cap,hg,by rw[jR,ke]⟩
   have hcI:FY (lE γ.o i (γ.g i)) 0 w ((⟨b0,j.toNat*ad.sz (D e1),none⟩:Addr).add off) va:=by rw[hpa];exact⟨cb,by rw[m5 b0 len cap _ hg];exact ul⟩
   refine OW.mono (OW.aDO hF hu hT hs hb m1 hE hcI hy k1 (by rw[hGy];exact hz) (by rw[hSy];exact yK) rfl) ?_
   rintro v' w' ⟨o',b8,hH⟩
   rw[hpa]at hH
   have mI:v'.oneCell'=ab:=by obtain⟨_,_,_,_,_,_,h4,_⟩:=hH;exact h4
   have aEU:b0<w.heap.size:=(iR.1 ch).1
   obtain⟨iV,vE⟩:∃iV:cE,iV=λb=>if b<w.heap.size then γ.o b else i:=⟨_,rfl⟩
   have A_:∀b,b<w.heap.size->iV b=γ.o b:=λb hb=>by rw[vE];exact aI hb
   have rI:∀b,w.heap.size<=b->iV b=i:=λb hb=>by rw[vE];exact aK (by omega)
   have Vl:bJ [i] [i] γ.o w iV w':=⟨b8.os,b8.tape,b8.output,b8.size,A_,λb h1 h2=>by rw[rI b h1];exact cY.2 rfl,λb hb hm=>b8.nu b hb λh1=>hm (by
    have:lE γ.o i (γ.g i) b=1:=by simpa using h1
    rw[(DT this).1];exact cY.2 rfl)⟩
   refine⟨_,mkPost (M:=[i]) (N:=[i]) (ps:=[]) (g':=kX γ.g ar v') (v':=gm γ.v (ar+16) [⟨.sl e1,wA⟩]) hx.ob Vl (by simp[fF,hU,de.wr]) (by simp) (by simp) hx.cO (λi hi=>ur hx hi) (λi hi=>sE hx (by simp) hi) ⟨.inl hU,oT,(oO _ _ _).symm,mI⟩ ?_⟩
   intro k x hk If
   obtain⟨rfl,d_⟩:=nN hk
   cases d_
   refine⟨fF,.inl hU,mD (γ:=γ) (i:=0) rfl (by omega) rfl,oT,b0,len,cap,(ur hx hU).trans hg,?_⟩
   show uE _ te tc (lE iV i (kX γ.g ar v' i)) 0 1 w' (kX γ.g ar v' i) wA ⟨b0,j.toNat*ad.sz (D e1)+off,none⟩ (kX γ.g ar v' ar)
   rw[ur hx hU,oO]
   refine uE.mono (λb hb h0=>⟨?_,rfl⟩) (λb hb h1=>⟨?_,rfl⟩) hH
   ·by_cases aS:b<w.heap.size
    ·rw[b8.fU b aS]at h0;obtain⟨f1,f2⟩:=DU h0;exact TU (by rw[A_ b aS];exact f1) f2
    ·have:=b8.new b (by omega) hb;simp at this;omega
   ·by_cases aS:b<w.heap.size
    ·rw[b8.fU b aS]at h1;obtain⟨f1,f2⟩:=DT h1;exact TT (by rw[A_ b aS];exact f1) f2
    ·refine TT (rI b (by omega)) ?_;rw[hg];show aW b0 b=false;cases hbb:aW b0 b with
     |true=>have:=bA hbb;omega
     |false=>rfl
 |_=>cases h
def asP [Rd](hP:ef P T)(hx:Cx U ar γ w sl L ob){t e' n:Nat}{x:ba}{a:A1 D}{va:ai}{r:Int}(ht:aF T.dp t=aa (e',n))(hu:ev L x=aa va)(fc:fY U γ w a va)(h:Q.R ob (TO a) l r):
  OW P Qx L ⟨d,.call {callee:= .builtin .len,args:= #[x],argTypes:= #[t]},ty,pos,af,gd⟩ w (λv w'=>∃γ',dW U ar γ w ob ⟨iv .i64 r (ar+16),[],[]⟩ γ' v w'):=by
 obtain⟨kV,hT⟩:=hP.dp t e' n ht
 unfold TO at h
 split at h
 ·obtain⟨_,rfl⟩:=h;exact du (OW.len kV hu fc.1) (er hx rfl)
 ·obtain⟨_,rfl⟩:=h;obtain⟨_,_,_,_,p,c,rfl⟩:=fc;exact du (OW.AI kV hu) (er hx rfl)
 ·obtain⟨_,rfl⟩:=h;have fc:va= .slice none 0 0:=fc;subst fc;have:=OW.len (P:=P) (Q:=Qx) (L:=L) (w:=w) (d:=d) (ty:=ty) (pos:=pos) (af:=af) (g:=gd) (α:=D n) kV hu (Dt (λ_=>True) w);exact du this (er hx rfl)
 ·obtain⟨ao,l',ho,rfl,h⟩:=h;cases ao with
  |box=>exact h.elim
  |iH=>exact h.elim
  |df n' t' tc q xs g h0=>obtain⟨_,rfl⟩:=h;obtain⟨_,rfl,_⟩:=fc;obtain⟨_,_,h1,_⟩:=hx.ob.ob _ _ ho;exact du (OW.len kV hu h1.rv) (er hx rfl)
  |mp=>exact h.elim
  |fz n' xs K=>obtain⟨_,rfl⟩:=h;obtain⟨_,rfl,_⟩:=fc;obtain⟨_,_,h1,_⟩:=hx.ob.ob _ _ ho;exact du (OW.len kV hu h1) (er hx rfl)
  |sl n' t' xs K g=>obtain⟨_,rfl⟩:=h;obtain⟨_,rfl,_⟩:=fc;obtain⟨_,_,h1,h2,_⟩:=hx.ob.ob _ _ ho;exact du (OW.len kV hu h1.rv) (er hx rfl)
 ·obtain⟨ao,l',ho,rfl,h⟩:=h;obtain⟨_,hj0,p,nn,c,e1,e2,e3⟩:=fc;cases ao with
  |sl n' t' xs K g=>
   dsimp only at h;split at h
   case isFalse=>exact h.elim
   rename_i hn;have hn:=bA hn;subst hn;obtain⟨_,rfl⟩:=h;obtain⟨_,_,h1,h2,_⟩:=hx.ob.ob _ _ ho;obtain⟨p',zi,f1,_⟩:=u9 h1.rv;rw[e1]at f1;simp only[ai.slice.injEq]at f1;obtain⟨_,rfl,_⟩:=f1;have:=OW.AI (P:=P) (Q:=Qx) (L:=L) (w:=w) (d:=d) (ty:=ty) (pos:=pos) (af:=af) (g:=gd) kV (e2▸hu);refine du this (er hx ?_);show ai.int .i64 _=ai.int .i64 _;congr 1;show((xs.length-_:Nat):Int)=(xs.length:Int)-_;omega
  |_=>exact h.elim
 ·exact h.elim
section
variable {α:Type} [ad α] {t e:aX} {o:cE} {T:aX} {k:Nat} {K:List Nat}
def OW.Sf [Rd]{S:Nat->Prop}{u:ba}{lo hi:Option ba}{l h:Int}{v:ai}{xs zs:List α}(hu:P.underlying t=aa (.slice e))(hT:bN P e α)(hx:ev L u=aa v)(hr:Rv S w v xs)(Bf:zx L lo 0 l)(Bo:zx L hi (Dp.len xs) h)(hz:dH xs l h=aa zs):
  OW P Qx L ⟨d,.slice t u lo hi none,ty,pos,af,gd⟩ w (λv' w'=>w'=w∧Rv S w v' zs∧∃p cap,v= .slice p xs.length cap∧xs.length<=cap∧v'= .slice (if cap=l.toNat then p else p.map (·.add (l.toNat*ad.sz α))) (h.toNat-l.toNat) (cap-l.toNat)∧l<=h∧h<=xs.length):=by
 obtain⟨p,cap,rfl,h1,h2,h3⟩:=u9 hr
 unfold dH at hz
 split at hz
 case isFalse=>cases hz
 rename_i hb
 cases hz
 obtain⟨b1,b2,b3⟩:=hb
 have hlen:((xs.take h.toNat).drop l.toNat).length=h.toNat-l.toNat:=by simp;omega
 refine OW.run λa ha=>⟨.slice (if cap=l.toNat then p else p.map (·.add (l.toNat*ad.sz α))) (h.toNat-l.toNat) (cap-l.toNat),w,?_,rfl,⟨_,rfl,_,cap-l.toNat,by rw[hlen],by rw[hlen];omega,by unfold maxLen at*;omega,?_⟩,p,cap,rfl,h1,rfl,b2,b3⟩
 ·have qE:h<=(cap:Int):=by omega
  have Bn:(h.toNat:Int)=h:=by omega
  have lH:(l.toNat:Int)=l:=by omega
  rcases Bf with⟨rfl,rfl⟩|⟨yl,rfl,hl⟩<;>rcases Bo with⟨rfl,rfl⟩|⟨yh,rfl,hh⟩
  ·simp[execOp,ha _ _ hx,Instr.sliceAt,run_underlying hu,Instr.slice,Instr.sliceBounds,hT.sizeOf,Dp.len]
  ·have b0:0<=h:=by omega
   simp[execOp,ha _ _ hx,ha _ _ hh,Instr.sliceAt,run_underlying hu,Instr.slice,Instr.sliceBounds,Instr.sliceBound,asIntOf,hT.sizeOf,b0,qE]
  ·have b0:l<=(xs.length:Int):=by unfold Dp.len at b2;omega
   simp[execOp,ha _ _ hx,ha _ _ hl,Instr.sliceAt,run_underlying hu,Instr.slice,Instr.sliceBounds,Instr.sliceBound,asIntOf,hT.sizeOf,b1,b0,Dp.len]
  ·have b0:0<=h:=by omega
   simp[execOp,ha _ _ hx,ha _ _ hl,ha _ _ hh,Instr.sliceAt,run_underlying hu,Instr.slice,Instr.sliceBounds,Instr.sliceBound,asIntOf,hT.sizeOf,b1,b0,qE,Bn,b2]
 ·by_cases he:(xs.take h.toNat).drop l.toNat=[]
  ·exact .inl he
  ·have aS:l.toNat<h.toNat:=by
    rcases Nat.lt_or_ge l.toNat h.toNat with hh|hh
    ·exact hh
    ·exact(he (List.eq_nil_of_length_eq_zero (by omega))).elim
   rcases h3 with rfl|⟨a,aJ,rfl,h4,h5,h6⟩
   ·simp at he
   ·right;have eQ:=h5.pu;refine⟨a.add (l.toNat*ad.sz α),(aJ.take h.toNat).drop l.toNat,?_,by rw[P6];exact h4,(h5.take _).drop _,?_⟩
    ·rw[aK (by omega)];rfl
    ·intro j u hj;rw[Fw];refine h6 _ _ ?_;rw[Ey (λc hc=>eQ c (List.mem_of_mem_take hc)),BG eQ,wk,mq]at hj;split at hj
     ·exact hj
     ·cases hj
def OW.aaX [Rd]{u:ba}{hi:Option ba}{h:Int}{v:ai}{xs zs:List α}(hu:P.underlying t=aa (.slice e))(hT:bN P e α)(hx:ev L u=aa v)(ho:Ow T o k K w v xs)(Bo:zx L hi (Dp.len xs) h)(hz:dH xs 0 h=aa zs):
  OW P Qx L ⟨d,.slice t u none hi none,ty,pos,af,gd⟩ w (λv' w'=>w'=w∧Rv (In o (k::K)) w v' zs∧Qv v v' h.toNat∧zs=xs.take h.toNat):=by
 refine OW.mono (OW.Sf hu hT hx ho.rv (.inl ⟨rfl,rfl⟩) Bo hz) ?_
 rintro v' w' ⟨h1,h2,p,cap,h3,h4,h5,h6,h7⟩
 refine⟨h1,h2,⟨p,_,cap,h3,?_,by omega⟩,?_⟩
 ·rw[h5];have:∀a:Addr,a.add 0=a:=add_zero';cases p<;>simp[this]
 ·unfold dH at hz;rw[aI ⟨by omega,h6,h7⟩]at hz;simpa using(kb hz).symm
def Ow.aq'{v v':ai}{h:Int}{xs zs:List α}(ho:Ow T o k K w v xs)(hp:Qv v v' h.toNat)(hz:dH xs 0 h=aa zs):Ow T o k K w v' zs:=by
 unfold dH at hz;split at hz
 case isFalse=>cases hz
 cases hz;simpa using Ow.S1 ho hp
end
def apF [Rd](hP:ef P T)(hx:Cx U ar γ w sl L ob){fl fq:Bool}{t e' n:Nat}{x:ba}{lo hi:Option ba}{a:A1 D}{as:List (AV D)}(ht:aF T.dp t=aa (e',n))(he:eX sl (x::(lo.toList++hi.toList))=aa (.c (.one a)::as))(h:Q.R ob (Sh fl fq ar (ar+16) n lo hi a as) l e):
  OW P Qx L ⟨d,.slice t x lo hi none,ty,pos,af,gd⟩ w (λv w'=>∃γ',dW U ar γ w ob e γ' v w'):=by
 obtain⟨kV,hT⟩:=hP.dp t e' n ht
 obtain⟨Ii,El⟩:=ux he
 obtain⟨va,hu,fc⟩:=cG hx.sr Ii
 have gr:∀{x:Option ba} {dl:Int} {as:List (AV D)} {rest:List ba} {r:Int×List (AV D)} {l:List Nat},eX sl (x.toList++rest)=aa as->Q.R ob (zo dl x as) l r->zx L x dl r.1∧eX sl rest=aa r.2:=by
  intro x dl as rest r l he h;cases x with
  |none=>obtain⟨_,rfl⟩:=h;exact⟨.inl ⟨rfl,rfl⟩,he⟩
  |some y=>
   cases as with
   |nil=>have:=uw he;simp at this
   |cons a as=>
    obtain⟨f1,f2⟩:=ux he;unfold zo at h;split at h
    ·rename_i hh;cases hh
    ·rename_i q K' g' j8 hh jj;cases jj;obtain⟨_,rfl⟩:=h;obtain⟨v,e1,e2⟩:=cG hx.sr f1;have e2:v= .int .i64 q:=e2.1;subst e2;exact⟨.inr ⟨y,rfl,e1⟩,f2⟩
    ·exact(h:False).elim
 have abr:∀{i n' t' g:Nat} {xs zs:List (D n')} {K:List Nat} {v:ai},dC ob i=aa (.sl n' t' xs K g)->1000<=i->eo K->Ow t' γ.o i K w v zs->∃γ',dW U ar γ w ob ⟨.c (.one (.own ar)),[(ar,aa (.sl n' t' zs K (ar+16))),(i,none)],[]⟩ γ' v w:=by
  intro i n' t' g xs zs K v ho fF m2 hO;have hU:U i:=(hx.ob.ob _ _ ho).2.1;have gI:i≠ar:=λe=>hx.fresh ar (bw _) (by omega) (e▸hU);have oK:∀{j:Nat} {x:AO D},aF [(ar,aa (AO.sl n' t' zs K (ar+16))),(i,none)] j=aa (aa x)->j=ar∧x= .sl n' t' zs K (ar+16):=by intro j x hj;have:=dS hj;simp only[cj,wj,jT,kF,fK,reduceCtorEq,and_false]at this;exact this
  have A4:∀z,z≠i->rel [(i,ar)] z=z:=λz hz=>by
   unfold rel;split
   ·rename_i y hy;have:=(nN hy).1;exact(hz this.symm).elim
   ·rfl
  have HQ:rel [(i,ar)] i=ar:=by simp[rel,aF]
  refine⟨_,mkPost (M:=[]) (N:=[]) (ps:=[(i,ar)]) (g':=kX γ.g ar v) (v':=gm γ.v (ar+16) [⟨.sl n',zs⟩]) hx.ob (bJ.refl _ _ _ _) (by simp) (by simp) (by simp[fF,de.wr]) hx.cO (λi hi=>ur hx hi) (λi hi=>sE hx (by simp) hi) ⟨oT,(oO _ _ _).symm,hO.one⟩ ?_⟩;intro j x hj If;obtain⟨rfl,rfl⟩:=oK hj;refine⟨hx.cO,oT,?_,m2,mD (γ:=γ) (i:=0) rfl (by omega) rfl⟩;show Ow t' _ j K w (kX γ.g j v j) zs;rw[oO];refine Ow.tM (λb hb=>?_) (λb hb=>?_) hO
  ·show rel [(i,j)] (γ.o b)=j;rw[hb,HQ]
  ·have:γ.o b≠i:=λe=>by
    unfold In at hb;have:=m2 _ hb;omega
   show rel [(i,j)] (γ.o b)∈_;rw[A4 _ this];exact hb
 have plain:∀{n':Nat} {xs:List (D n')} {K:List Nat} {l:List Nat},Rv (In γ.o K) w va xs->eo K->Q.R ob (tK (ar+16) n lo hi n' xs K as) l e->
   OW P Qx L ⟨d,.slice t x lo hi none,ty,pos,af,gd⟩ w (λv w'=>∃γ',dW U ar γ w ob e γ' v w'):=by
  intro n' xs K l k1 k3 hq
  clear h
  unfold tK at hq
  split at hq
  case isFalse=>exact(hq:False).elim
  rename_i hn
  have hn:=bA hn
  subst hn
  obtain⟨l1,l2,r1,_,h1,hq⟩:=Q.ga hq
  obtain⟨l3,l4,r2,_,h2,hq⟩:=Q.ga hq
  split at hq
  case h_2=>exact(hq:False).elim
  rename_i HW
  obtain⟨zs,hz,_,rfl⟩:=hq
  obtain⟨b1,b2⟩:=gr El h1
  obtain⟨b3,b4⟩:=gr (rest:=[]) (by simpa using b2) h2
  refine OW.mono (OW.slice kV hT hu k1 b1 b3 hz) ?_
  rintro v w' ⟨rfl,hr⟩
  exact⟨_,Au hx [⟨.sl n',zs⟩] (by simp) ⟨hr,mD (γ:=γ) (i:=0) rfl (by omega) rfl,k3⟩⟩
 cases a with
 |v lf xs K g=>
  cases lf with
  |sl n'=>
   have h:Q.R ob (tK (ar+16) n lo hi n' xs K as) _ e:=h
   exact plain fc.1 fc.2.2 h
  |_=>cases h
 |bH=>
  have fc:va= .slice none 0 0:=fc
  subst fc
  unfold Sh at h
  dsimp only at h
  obtain⟨l1,l2,r1,_,h1,hq⟩:=Q.ga h
  obtain⟨l3,l4,r2,_,h2,hq⟩:=Q.ga hq
  split at hq
  case h_2=>exact(hq:False).elim
  rename_i HW
  obtain⟨zs,hz,_,rfl⟩:=hq
  obtain⟨b1,b2⟩:=gr El h1
  obtain⟨b3,b4⟩:=gr (rest:=[]) (by simpa using b2) h2
  have oH:∃ys,dH ([]:List (D n)) r1.1 r2.1=aa ys:=by
   have wY:=hz;unfold dH at wY;split at wY
   case isFalse=>cases wY
   rename_i hb;exact⟨_,aI hb⟩
  obtain⟨ys,oH⟩:=oH
  refine OW.mono (OW.Sf (xs:=([]:List (D n))) kV hT hu (Dt (λ_=>True) w) b1 b3 oH) ?_
  rintro v w' ⟨rfl,_,p,cap,e1,e2,e3,e4,e5⟩
  unfold dH at hz
  split at hz
  case isFalse=>cases hz
  rename_i hb
  have hv:v= .slice none 0 0:=by
   simp only[ai.slice.injEq]at e1;obtain⟨rfl,_,rfl⟩:=e1;have l0:r1.1.toNat=0:=by have:=hb.1;have:=hb.2.1;have:=hb.2.2;unfold Dp.len at this;simp at this;omega
   have h0:r2.1.toNat=0:=by have:=hb.2.2;unfold Dp.len at this;simp at this;omega
   rw[e3,l0,h0];simp
  exact⟨γ,pz hx hv⟩
 |own i=>
  obtain⟨ao,l',ho,rfl,h⟩:=h
  obtain⟨hU,rfl,_⟩:=fc
  cases ao with
  |box=>cases h
  |df=>cases h
  |iH=>cases h
  |mp=>exact h.elim
  |fz n' xs K=>
   obtain⟨_,_,k1,k2⟩:=hx.ob.ob _ _ ho
   exact plain k1 k2 h
  |sl n' t' xs K g=>
   dsimp only at h
   split at h
   case h_2=>
    rename_i _ lo1
    split at h
    case h_2=>cases h
    split at h
    case isFalse=>cases h
    rename_i hn
    have hn:=bA hn
    subst hn
    obtain⟨l1,l2,r2,_,h2,h⟩:=Q.ga h
    split at h
    case h_2=>cases h
    rename_i HW
    have tl:∀zs,dH xs r2.1 (Dp.len xs)=aa zs->OW P Qx L ⟨d,.slice t x (aa lo1) none none,ty,pos,af,gd⟩ w (λv w'=>w'=w∧0<=r2.1∧Ca (ad.sz (D n')) (γ.g i) v r2.1.toNat):=by
     intro zs hz;obtain⟨_,_,m1,_⟩:=hx.ob.ob _ _ ho;obtain⟨b3,b4⟩:=gr (rest:=[]) (by simpa using El) h2;refine OW.mono (OW.Sf kV hT hu m1.rv b3 (.inl ⟨rfl,rfl⟩) hz) ?_;rintro v w' ⟨rfl,_,p,cap,e1,e2,e3,e4,e5⟩;have hz0:0<=r2.1:=by
      unfold dH at hz;split at hz
      case isFalse=>cases hz
      rename_i hb;exact hb.1
     refine⟨rfl,hz0,p,xs.length,cap,e1,?_,?_⟩
     ·rw[e3];unfold Dp.len;simp
     ·unfold Dp.len at e4;omega
    cases fq with
    |false=>
     obtain⟨zs,hz,_,rfl⟩:=h
     refine OW.mono (tl zs hz) ?_
     rintro v w' ⟨rfl,k1,k2⟩
     exact⟨γ,pz hx ⟨hU,k1,k2⟩⟩
    |true=>
     obtain⟨zs,hz,_,rfl⟩:=h
     refine OW.mono (tl zs hz) ?_
     rintro v w' ⟨rfl,k1,k2⟩
     obtain⟨fF,_,m1,m2,m3⟩:=hx.ob.ob _ _ ho
     refine abr ho fF m2 ?_
     have hd:zs=xs.drop r2.1.toNat:=by
      unfold dH at hz;split at hz
      case isFalse=>cases hz
      have:=(kb hz).symm;rw[this,List.take_of_length_le (by unfold Dp.len;simp)]
     rw[hd]
     exact Ow.tail m1 k2
   split at h
   case isFalse=>cases h
   rename_i hn
   have hn:=bA hn
   subst hn
   obtain⟨l1,l2,r2,_,h2,h⟩:=Q.ga h
   split at h
   case h_2=>cases h
   rename_i HW
   obtain⟨fF,_,m1,m2,m3⟩:=hx.ob.ob _ _ ho
   obtain⟨b3,b4⟩:=gr (rest:=[]) (by simpa using El) h2
   cases fl with
   |true=>
    obtain⟨zs,hz,_,rfl⟩:=h
    refine OW.mono (OW.aaX kV hT hu m1 b3 hz) ?_
    rintro v w' ⟨rfl,_,hp,_⟩
    exact⟨γ,pz hx ⟨hU,hp⟩⟩
   |false=>
   obtain⟨zs,hz,_,rfl⟩:=h
   refine OW.mono (OW.aaX kV hT hu m1 b3 hz) ?_
   rintro v w' ⟨rfl,_,hp,_⟩
   exact abr ho fF m2 (Ow.aq' m1 hp hz)
 |_=>cases h
def azs [Rd](hP:ef P T)(hR:cK T)(hx:Cx U ar γ w sl L ob){t e' n i:Nat}{x:ba}{v:ai}{j:Int}(ht:aF T.dp t=aa (e',n))(hu:ev L x=aa v)(hv:fY U γ w (.tail i n j) v)
  (h:Q.R ob (.obj i λ
        | .sl n0 te xs K _=>if aW n0 n then .ret ⟨.dY [],[(i,aa (.sl n0 te (rT (T.zero n0) xs j) K (ar+16)))],[]⟩else .fail
        |_=> .fail) l e):
  OW P Qx L ⟨d,.call {callee:= .builtin .clear,args:= #[x],argTypes:= #[t]},ty,pos,af,gd⟩ w (λv w'=>∃γ',dW U ar γ w ob e γ' v w'):=by
 obtain⟨kV,hT⟩:=hP.dp t e' n ht
 obtain⟨ao,l',ho,rfl,h⟩:=h
 cases ao with
 |box=>cases h
 |df=>cases h
 |iH=>cases h
 |fz=>cases h
 |mp=>cases h
 |sl n0 te xs K g=>
  dsimp only at h
  split at h
  case isFalse=>cases h
  rename_i hn
  have hn:=bA hn
  subst hn
  obtain⟨_,rfl⟩:=h
  obtain⟨hU,_,D4⟩:=hv
  obtain⟨fF,_,m1,m2,_⟩:=hx.ob.ob _ _ ho
  have uh:j7 K [i]=ab:=EU λz hz=>by simp only[cY];rintro rfl;have:=m2 _ hz;omega
  refine OW.mono (OW.azt kV hT hu m1 D4 uh) ?_
  rintro v' w' ⟨rfl,b8,hO⟩
  rw[hR.zero]at hO
  refine⟨_,mkPost (M:=[i]) (N:=[]) (ps:=[]) (g':=γ.g) (v':=gm γ.v (ar+16) [⟨.sl n0,rT (T.zero n0) xs j⟩]) hx.ob b8 (by simp[fF,hU,de.wr]) (by simp) (by simp) hx.cO (λ_ _=>rfl) (λi hi=>sE hx (by simp) hi) ⟨[],rfl,trivial⟩ ?_⟩
  intro k x hk ky
  obtain⟨rfl,d_⟩:=nN hk
  cases d_
  exact⟨fF,.inl hU,hO,m2,mD (γ:=γ) (i:=0) rfl (by omega) rfl⟩
def afY [Rd](hP:ef P T)(hR:cK T)(hx:Cx U ar γ w sl L ob){t e' n i:Nat}{x y:ba}{vb v:ai}{j:Int}{ys:List (D n)×List Nat}(ht:aF T.dp t=aa (e',n))(hu:ev L x=aa v)(hU:U i)(j0:0<=j)
  (hv:∀{T':aX} {K:List Nat} {xs:List (D n)},Ow T' γ.o i K w (γ.g i) xs->Ca (ad.sz (D n)) (γ.g i) v j.toNat) (hb:ev L y=aa vb) (hE:fJ (In γ.o ys.2) w vb ys.1) (vD:eo ys.2) (h:Q.R ob (OV T ar n i j ys) l e):
  OW P Qx L ⟨d,.call {callee:= .builtin .copy,args:= #[x,y],argTypes:= #[t,t]},ty,pos,af,gd⟩ w (λv w'=>∃γ',dW U ar γ w ob e γ' v w'):=by
 obtain⟨kV,hT⟩:=hP.dp t e' n ht
 unfold OV at h
 obtain⟨ao,l',ho,rfl,h⟩:=h
 cases ao with
 |box=>cases h
 |df=>cases h
 |iH=>cases h
 |fz=>cases h
 |mp=>cases h
 |sl n0 te xs K g=>
  dsimp only at h
  split at h
  case isFalse=>cases h
  rename_i hn
  subst hn
  obtain⟨_,rfl⟩:=h
  obtain⟨fF,_,m1,m2,_⟩:=hx.ob.ob _ _ ho
  have hK:eo (ys.2++K):=λz hz=>by
   rcases bg.1 hz with hz|hz
   ·exact vD z hz
   ·exact m2 z hz
  have uh:j7 (ys.2++K) [i]=ab:=EU λz hz=>by simp only[cY];rintro rfl;have:=hK _ hz;omega
  have Hq:Ow te γ.o i (ys.2++K) w (γ.g i) xs:=Ow.tM (λ_ h=>h) (λb hb=>by unfold In at hb⊢;simp[hb]) m1
  have D4:=hv m1
  have dt:j.toNat<=xs.length:=by
   obtain⟨p,m,c,q1,_,q3⟩:=D4;rcases m1 with⟨q,rfl⟩|⟨gg,f,cap,aU,aJ,q,_⟩
   ·rw[q]at q1;cases q1;exact q3
   ·rw[q]at q1;cases q1;exact q3
  refine OW.mono (OW.ay_ kV hT hu hb Hq D4 (fJ.weaken (λb hb=>by unfold In at hb⊢;simp[hb]) hE) uh) ?_
  rintro v' w' ⟨rfl,b8,hO⟩
  have uk:((min ys.1.length (xs.length-j.toNat):Nat):Int)=WD (len xs) j (len ys.1):=by unfold WD len;split<;>omega
  refine⟨_,mkPost (M:=[i]) (N:=[]) (ps:=[]) (g':=γ.g) (v':=gm γ.v (ar+16) [⟨.sl n0,afV xs j ys.1⟩]) hx.ob b8 (by simp[fF,hU,de.wr]) (by simp) (by simp) hx.cO (λ_ _=>rfl) (λi hi=>sE hx (by simp) hi) ?_ ?_⟩
  ·rw[uk];exact⟨rfl,MF _,lz⟩
  ·intro k x hk ky;obtain⟨rfl,d_⟩:=nN hk;cases d_;exact⟨fF,.inl hU,hO,hK,mD (γ:=γ) (i:=0) rfl (by omega) rfl⟩
def ay9 [Rd](hP:ef P T)(hR:cK T)(hx:Cx U ar γ w sl L ob){t e' n:Nat}{s x:ba}{a b:A1 D}{va vb:ai}(ht:aF T.dp t=aa (e',n))(hs:ev L s=aa va)(fc:fY U γ w a va)(hb:ev L x=aa vb)(Uk:fY U γ w b vb)
  (h:Q.R ob (WG T ar n a b) l e):
  OW P Qx L ⟨d,.call {callee:= .builtin .copy,args:= #[s,x],argTypes:= #[t,t]},ty,pos,af,gd⟩ w (λv w'=>∃γ',dW U ar γ w ob e γ' v w'):=by
 unfold WG at h
 obtain⟨l1,l2,y0,_,h1,h⟩:=Q.ga h
 obtain⟨DX,M4⟩:=SO hx.ob h1 Uk
 have kf:fJ (In γ.o (vR T n y0.2)) w vb y0.1∧eo (vR T n y0.2):=by
  unfold vR;split
  ·rename_i hf;haveI:=hR.flat hf;exact⟨fJ.flat DX,λz hz=>by cases hz⟩
  ·exact⟨DX,M4⟩
 cases a with
 |own i=>
  obtain⟨hU,rfl,_⟩:=fc
  refine afY hP hR hx ht hs hU (Int.le_refl 0) (λm1=>?_) hb kf.1 kf.2 h
  rcases m1 with⟨q,rfl⟩|⟨gg,f,cap,aU,aJ,q,_⟩
  ·exact⟨_,_,_,q,by rw[q];simp,jS _⟩
  ·refine⟨_,_,_,q,?_,jS _⟩;rw[q];have jX:(⟨gg,f,none⟩:Addr).add 0=⟨gg,f,none⟩:=jR gg f 0;simp[jX]
 |tail i n' j=>
  dsimp only at h
  split at h
  case isFalse=>cases h
  rename_i hn
  have hn:=bA hn
  subst hn
  obtain⟨hU,j0,D4⟩:=fc
  exact afY hP hR hx ht hs hU j0 (λ_=>D4) hb kf.1 kf.2 h
 |_=>cases h
def vm [Rd](hx:Cx U ar γ w sl L ob){op:Op}{v:ai}{a:AV D}(h1:Dp.pv L op=aa v)(h2:gW U γ w a v):OW P Qx L ⟨d,op,ty,pos,af,gd⟩ w (λv w'=>∃γ',dW U ar γ w ob ⟨a,[],[]⟩ γ' v w'):=du (OW.pv h1) (pz hx h2)
def abS [Rd](hx:Cx U ar γ w sl L ob){op:Op}{v:ai}{lf:Lf}{x:lf.den D}(h1:Dp.pv L op=aa v)(h2:dI (In γ.o []) w v ⟨lf,x⟩):OW P Qx L ⟨d,op,ty,pos,af,gd⟩ w (λv w'=>∃γ',dW U ar γ w ob ⟨.c (.one (.v lf x [] (ar+16))),[],[]⟩ γ' v w'):=du (OW.pv h1) (er hx h2)
def O7(hs:SR U γ w sl L):∀{xs:List ba} {as:List (AV D)} {cs:List (A0 D)},eX sl xs=aa as->DJ.E6 as=aa cs->∃vs,oQ L xs=aa vs∧nB U γ w cs vs
 |[],as,cs,h,hc=>by simp only[eX,fK]at h;subst h;simp only[DJ.E6,fK]at hc;subst hc;exact⟨[],rfl,trivial⟩
 |x::r,as,cs,h,hc=>by
  cases as with
  |nil=>have:=uw h;simp at this
  |cons a as=>
   obtain⟨h1,h2⟩:=ux h;obtain⟨v,e1,e2⟩:=cG hs h1;unfold DJ.E6 at hc;split at hc
   ·rename_i hh;cases hh
   ·rename_i i off r' jj;cases jj;split at hc
    ·rename_i l' hl;cases hc;obtain⟨vs,e3,e4⟩:=O7 hs h2 hl;exact⟨v::vs,by simp[oQ,e1,e3],e2,e4⟩
    ·cases hc
   ·rename_i n y off K r' jj;cases jj;split at hc
    ·rename_i l' hl;cases hc;obtain⟨vs,e3,e4⟩:=O7 hs h2 hl;exact⟨v::vs,by simp[oQ,e1,e3],e2,e4⟩
    ·cases hc
   ·cases hc
def Mr{c:Array ba}{a:AV D}(h:eX sl c.toList=aa [a]):∃x,c= #[x]∧eY sl x=aa a:=by
 obtain⟨l⟩:=c;have:=uw h;match l,this with
 |[x],_=>exact⟨x,rfl,oR h⟩
def wS{c:Array ba}{a b:AV D}(h:eX sl c.toList=aa [a,b]):∃x y,c= #[x,y]∧eY sl x=aa a∧eY sl y=aa b:=by
 obtain⟨l⟩:=c;have:=uw h;match l,this with
 |[x,y],_=>exact⟨x,y,rfl,(sX h).1,(sX h).2⟩
def ab7{c:Array ba}{a b d:AV D}(h:eX sl c.toList=aa [a,b,d]):∃x y z,c= #[x,y,z]∧eY sl x=aa a∧eY sl y=aa b∧eY sl z=aa d:=by
 obtain⟨l⟩:=c;have:=uw h;match l,this with
 |[x,y,z],_=>cases h1:eY sl x<;>cases h2:eY sl y<;>cases h3:eY sl z<;>simp[eX,h1,h2,h3]at h;exact⟨x,y,z,rfl,by rw[h1,h.1],by rw[h2,h.2.1],by rw[h3,h.2.2]⟩
def arm{c:Array ba}{a b d f:AV D}(h:eX sl c.toList=aa [a,b,d,f]):∃x y z u,c= #[x,y,z,u]∧eY sl x=aa a∧eY sl y=aa b∧eY sl z=aa d∧eY sl u=aa f:=by
 obtain⟨l⟩:=c;have:=uw h;match l,this with
 |[x,y,z,u],_=>cases h1:eY sl x<;>cases h2:eY sl y<;>cases h3:eY sl z<;>cases h4:eY sl u<;>simp[eX,h1,h2,h3,h4]at h;exact⟨x,y,z,u,rfl,by rw[h1,h.1],by rw[h2,h.2.1],by rw[h3,h.2.2.1],by rw[h4,h.2.2.2]⟩
def ary [Rd](hP:ef P T)(hR:cK T)(hx:Cx U ar γ w sl L ob){op:Op}{as:List (AV D)}(he:eX sl op.operands.toList=aa as)(h:Q.R ob (DJ T ar op as) l e):
  OW P Qx L ⟨d,op,ty,pos,af,gd⟩ w (λv w'=>∃γ',dW U ar γ w ob e γ' v w'):=by
 unfold DJ at h
 split at h
 ·
  obtain⟨_,rfl⟩:=h
  obtain⟨v,h1,h2⟩:=cG hx.sr (oR he)
  exact vm hx h1 h2
 ·
  obtain⟨_,rfl⟩:=h
  obtain⟨v,h1,h2⟩:=cG hx.sr (oR he)
  exact vm hx h1 h2
 ·
  rename_i c a b _ _ _
  split at h
  case h_2=>cases h
  rename_i dd K g
  obtain⟨e1,e2,e3⟩:=V8 he
  obtain⟨v1,h1,np⟩:=cG hx.sr e1
  obtain⟨v2,h2,BA⟩:=cG hx.sr e2
  obtain⟨v3,h3,Ev⟩:=cG hx.sr e3
  have axe:v1= .bool dd:=np.1
  subst axe
  cases dd with
  |true=>
   obtain⟨_,rfl⟩:=h
   exact vm hx (by simp only[Dp.pv,h1];exact h2) BA
  |false=>
   obtain⟨_,rfl⟩:=h
   exact vm hx (by simp only[Dp.pv,h1];exact h3) Ev
 ·
  obtain⟨e1,e2⟩:=sX he
  split at h
  ·split at h
   case h_2=>cases h
   rename_i n hn;exact ayI hP hx hn e1 e2 h
  ·split at h
   case h_2=>cases h
   rename_i hn;exact JB hP hx hn e1 e2 h
  ·split at h
   case h_2=>cases h
   rename_i q hq;obtain⟨te,n⟩:=q;exact arY (hP.dp _ _ _ hq).1 hx e1 e2 h
  ·exact aDH hx e1 e2 h
 ·
  split at h
  case h_2=>cases h
  obtain⟨_,rfl⟩:=h
  obtain⟨v,h1,h2⟩:=cG hx.sr (oR he)
  have h2:=h2.1
  dsimp only[dI]at h2
  subst h2
  exact abS hx (by simp only[Dp.pv,h1]) rfl
 ·
  split at h
  case h_2=>cases h
  obtain⟨_,rfl⟩:=h
  obtain⟨v,h1,h2⟩:=cG hx.sr (oR he)
  have h2:=h2.1
  dsimp only[dI]at h2
  subst h2
  exact abS hx (by simp only[Dp.pv,h1]) rfl
 ·
  split at h
  ·obtain⟨_,rfl⟩:=h;obtain⟨v,h1,h2⟩:=cG hx.sr (oR he);obtain⟨hU,b,hg,rfl⟩:=id h2;exact vm hx (by simp only[Dp.pv,h1,fT]) h2
  ·obtain⟨_,rfl⟩:=h;obtain⟨v,h1,h2⟩:=cG hx.sr (oR he);obtain⟨pa,rfl,_⟩:=id h2;exact vm hx (by simp only[Dp.pv,h1]) h2
  ·obtain⟨_,rfl⟩:=h;obtain⟨v,h1,h2⟩:=cG hx.sr (oR he);obtain⟨_,_,_,_,b,f,len,cap,_,rfl⟩:=id h2;exact vm hx (by simp only[Dp.pv,h1,fT]) h2
  ·exact(h:False).elim
 ·
  split at h
  case h_2=>cases h
  split at h
  case h_2=>cases h
  rename_i i _ ll x d_
  obtain⟨_,rfl⟩:=h
  obtain⟨v,h1,us,rfl,h2⟩:=cG hx.sr (oR he)
  have:∀{ll:List (AC D)} {us:List ai} {i:Nat} {x:AC D},jr U γ w ll us->ll[i]? =aa x->∃u,us[i]? =aa u∧nA U γ w x u:=by
   intro ll;induction ll with
   |nil=>intro us i x _ h;simp at h
   |cons a ll ih=>
    intro us i x h hi;cases us with
    |nil=>exact h.elim
    |cons u us=>
     cases i with
     |zero=>cases hi;exact⟨u,rfl,h.1⟩
     |succ i=>simpa using ih h.2 (by simpa using hi)
  obtain⟨u,h3,h4⟩:=this h2 d_
  exact vm hx (by simp only[Dp.pv,h1];simpa using h3) h4
 ·
  rename_i _ _ t x i a
  have Te:∀{o:Nat},Tf T t i=aa o->FR P t i o:=by
   intro o ho;unfold Tf at ho;split at ho
   ·rename_i pl qA;split at ho
    ·rename_i p hp;cases ho;exact(hP.uu t pl qA).2 i p.1 p.2 hp
    ·cases ho
   ·cases ho
  obtain⟨v,h1,h2⟩:=cG hx.sr (oR he)
  split at h
  ·rename_i o j off ho;obtain⟨_,rfl⟩:=h;obtain⟨hU,b,hg,rfl⟩:=h2;have:=OW.VY (P:=P) (Q:=Qx) (L:=L) (w:=w) (d:=d) (ty:=ty) (pos:=pos) (af:=af) (g:=gd) (Te ho) h1;refine du this (pz hx ⟨hU,b,hg,?_⟩);unfold fT Addr.add;split<;>simp_all
  ·rename_i o n y off K ho;obtain⟨_,rfl⟩:=h;obtain⟨pa,rfl,h3,h4⟩:=h2;have:=OW.VY (P:=P) (Q:=Qx) (L:=L) (w:=w) (d:=d) (ty:=ty) (pos:=pos) (af:=af) (g:=gd) (Te ho) h1;exact du this (pz hx ⟨pa,by rw[Fw],h3,h4⟩)
  ·rename_i o j n k y off tc tj ho;obtain⟨_,rfl⟩:=h;obtain⟨h3,h4,h5,h6,b,f,len,cap,h7,rfl⟩:=h2;have:=OW.VY (P:=P) (Q:=Qx) (L:=L) (w:=w) (d:=d) (ty:=ty) (pos:=pos) (af:=af) (g:=gd) (Te ho) h1;refine du this (pz hx ⟨h3,h4,h5,h6,b,f,len,cap,h7,?_⟩);rw[jR];unfold fT;rw[q9,q9]
  ·exact(h:False).elim
 ·
  split at h
  case h_2=>cases h
  rename_i eh p ht
  obtain⟨v,h1,h2⟩:=cG hx.sr (oR he)
  exact asC hP hR hx ht h1 h2 h
 ·
  split at h
  case h_2=>cases h
  rename_i eh p ht
  obtain⟨e1,e2⟩:=sX he
  obtain⟨v,h1,h2⟩:=cG hx.sr e1
  obtain⟨v',h3,h4⟩:=cG hx.sr e2
  exact aoR hP hR hx ht h1 h2 h3 h4 h
 ·
  split at h
  case h_2=>cases h
  rename_i cs jk
  split at h
  case isFalse=>cases h
  rename_i hs
  obtain⟨_,rfl⟩:=h
  obtain⟨v,h1,h2⟩:=cG hx.sr (oR he)
  exact aDB hx h1 h2 jk hs
 ·
  split at h
  case h_2=>cases h
  rename_i eh ht
  split at h
  case h_2=>cases h
  rename_i cs hz
  obtain⟨_,rfl⟩:=h
  exact aDV hP hx ht hz
 ·
  split at h
  ·rename_i m e' n ht;split at h
   case isFalse=>cases h
   rename_i hb;simp only[bt]at hb;obtain⟨l1,l2,r,_,h1,h2⟩:=Q.ga h;split at h2
   ·split at h2
    case isFalse=>exact(h2:False).elim
    rename_i eL;simp only[bt,List.isEmpty_iff]at eL;obtain⟨_,rfl⟩:=h2;exact aDq hP hR hx ht hb.1 (bA hb.2) he h1 eL.1 (dw eL.2)
   obtain⟨_,rfl⟩:=h2;exact aDp hP hR hx ht hb.1 (bA hb.2) he h1
  split at h
  case h_2=>cases h
  rename_i n pl ht hl
  split at h
  case h_2=>cases h
  rename_i cs jk
  obtain⟨_,rfl⟩:=h
  exact aDm hP hx ht hl he jk
 ·
  split at h
  case h_4=>cases h
  case h_3=>
   rename_i x K' g ki j K2 tj t_
   split at h
   case h_2=>cases h
   rename_i cP
   obtain⟨c,hc,_,rfl⟩:=h
   obtain⟨e1,e2⟩:=sX he
   obtain⟨v,g1,g2⟩:=cG hx.sr e1
   obtain⟨v',g3,g4⟩:=cG hx.sr e2
   have g5:v'= .int ki j:=g4.1
   have g6:v= .string x:=g2.1
   subst g5 g6
   exact du (OW.atK (hP.ty _ _ cP).2 g1 g3 hc) (er hx rfl)
  case h_2=>
   rename_i m e' n cs j K' tj ht
   split at h
   ·exact(h:False).elim
   rename_i Im
   obtain⟨l1,l2,x,_,h1,h⟩:=Q.ga h
   split at h
   case isFalse=>cases h
   rename_i hb
   simp only[bt,List.isEmpty_iff]at hb
   obtain⟨y,hy,h⟩:=h
   dsimp only at h
   split at h
   case h_2=>cases h
   rename_i r hr
   obtain⟨_,rfl⟩:=h
   obtain⟨e1,e2⟩:=sX he
   obtain⟨v,g1,us,rfl,g2⟩:=cG hx.sr e1
   obtain⟨v',g3,g4⟩:=cG hx.sr e2
   have g5:v'= .int .i64 j:=g4.1
   subst g5
   have g6:=aDY hR hx.ob (by simpa using Im) h1 g2 hb.1
   exact adg hP hR hx ht (bA hb.2) g1 g6 g3 hy hr
  rename_i m e' n n' xs K j K' tj ht
  split at h
  case isFalse=>cases h
  rename_i hb
  simp only[bt]at hb
  obtain⟨hn,hm⟩:=hb
  have hn:=bA hn
  subst hn
  obtain⟨y,hy,h⟩:=h
  dsimp only at h
  split at h
  case h_2=>cases h
  rename_i r hr
  obtain⟨_,rfl⟩:=h
  obtain⟨e1,e2⟩:=sX he
  obtain⟨v,h1,h2⟩:=cG hx.sr e1
  obtain⟨v',h3,h4⟩:=cG hx.sr e2
  have h5:v'= .int .i64 j:=h4.1
  subst h5
  exact adg hP hR hx ht (bA hm) h1 h2 h3 hy hr
 ·
  split at h
  case h_2=>cases h
  rename_i e' n ht
  split at h
  case isFalse=>cases h
  rename_i hb
  simp only[bt]at hb
  obtain⟨l1,l2,r,_,h1,h2⟩:=Q.ga h
  obtain⟨_,rfl⟩:=h2
  exact aDn hP hR hx ht hb.1.1 (bA hb.1.2) (dw hb.2) he h1
 ·
  split at h
  case h_3=>cases h
  case h_2=>
   rename_i io _ _ _ b off j K tj ht
   split at h
   case h_2=>cases h
   rename_i m e' n q har
   split at h
   case isFalse=>cases h
   rename_i hq
   obtain⟨_,rfl⟩:=h
   obtain⟨e1,e2⟩:=sX he
   obtain⟨v,h1,h2⟩:=cG hx.sr e1
   obtain⟨hU,c,hg,rfl⟩:=h2
   have hA:=hP.qV _ _ _ _ har
   have:=OW.aty (P:=P) (Q:=Qx) (L:=L) (w:=w) (d:=d) (ty:=ty) (pos:=pos) (af:=af) (g:=gd) (i:= .const (.int .i64 (Int.ofNat q))) hA.u0 hA.el h1 rfl (dw hq)
   refine du this (pz hx ⟨hU,c,hg,?_⟩)
   rw[hR.sz]
   unfold fT Addr.add
   split<;>simp_all
  rename_i e' n a j K tj ht
  obtain⟨e1,e2⟩:=sX he
  obtain⟨v,h1,h2⟩:=cG hx.sr e1
  obtain⟨v',h3,h4⟩:=cG hx.sr e2
  have h5:v'= .int .i64 j:=h4.1
  subst h5
  exact atJ hP hx ht h1 h2 h3 h4.2.1 h
 ·
  split at h
  case h_2=>cases h
  rename_i e' n m K g ht
  split at h
  case isFalse=>cases h
  rename_i hs
  obtain⟨zs,hz,h⟩:=h
  obtain⟨e1,e2⟩:=sX he
  obtain⟨v,h1,h2⟩:=cG hx.sr e1
  have h5:v= .int .i64 m:=h2.1
  subst h5
  dsimp only at h
  split at h
  ·rename_i tc q hk;obtain⟨_,rfl⟩:=h;exact asi hP hR hx ht hk h1 hs hz
  ·obtain⟨_,rfl⟩:=h;exact asg hP hR hx ht h1 hs hz
 ·
  rename_i _ _ t x lo hi a j8
  split at h
  case h_2=>cases h
  rename_i e' n a ht
  exact apF hP hx ht (by simpa[Op.operands]using he) h
 ·
  split at h
  case h_2=>cases h
  rename_i kt vt n ht
  obtain⟨_,rfl⟩:=h
  exact ash hx
 ·
  split at h
  case h_2=>cases h
  rename_i kt vt n ht
  obtain⟨e1,e2⟩:=sX he
  exact ar' hP hR hx ht e1 e2 h
 ·
  split at h
  case h_2=>cases h
  rename_i kt vt n ht
  obtain⟨e1,e2,e3⟩:=V8 he
  exact ack hP hR hx (.inl rfl) ht e1 e2 e3 h
 ·
  split at h
  case h_2=>cases h
  rename_i kt vt n ht
  obtain⟨e1,e2,e3⟩:=V8 he
  exact ack hP hR hx (.inr rfl) ht e1 e2 e3 h
 ·
  split at h
  case h_4=>cases h
  case h_2=>
   rename_i m0 x K g D6 ht0
   split at h
   case h_2=>cases h
   rename_i te n hq
   split at h
   case h_2=>cases h
   rename_i Uo
   split at h
   case isFalse=>cases h
   rename_i nS
   obtain⟨xs,eJ,_,rfl⟩:=h
   obtain⟨v,h1,h2⟩:=cG hx.sr (oR he)
   have h5:v= .string x:=h2.1
   subst h5
   exact aDl hR hx (hP.ty _ _ D6).2 (hP.dp _ _ _ hq).1 (hP.ty _ _ Uo).2 nS h1 eJ
  case h_3=>
   rename_i m0 a D6 ht0
   split at h
   case h_2=>cases h
   rename_i te n hq
   split at h
   case h_2=>cases h
   rename_i Uo
   split at h
   case isFalse=>cases h
   rename_i nS
   obtain⟨l1,l2,r,_,h1,h2⟩:=Q.ga h
   obtain⟨_,rfl⟩:=h2
   obtain⟨v,h3,h4⟩:=cG hx.sr (oR he)
   exact aoO hR hx (hP.dp _ _ _ hq).1 (hP.ty _ _ Uo).2 (hP.ty _ _ ht0).2 nS h3 (SO hx.ob h1 h4).1
  rename_i k1 k2 k3 n K g hs ht
  obtain⟨v,h1,h2⟩:=cG hx.sr (oR he)
  have h5:v= .int _ n:=h2.1
  subst h5
  have u1:P.underlying _=aa (.int _):=(hP.ty _ _ hs).2
  have u2:P.underlying _=aa (.int _):=(hP.ty _ _ ht).2
  split at h
  ·obtain⟨_,rfl⟩:=h;have:=OW.conv (P:=P) (Q:=Qx) (L:=L) (w:=w) (d:=d) (ty:=ty) (pos:=pos) (af:=af) (g:=gd) ⟨_,u1⟩ u2 h1
   exact du this (er hx rfl)
  ·obtain⟨_,rfl⟩:=h;refine du (v:= .int k2 (k2.wrap n)) (OW.run λa ha=>⟨_,w,?_,rfl,rfl⟩) (er hx rfl);simp[execOp,ha _ _ h1,convert,run_underlying u1,run_underlying u2,Conv.intToInt]
 ·
  rename_i f first jo
  split at h
  case isFalse=>cases h
  rename_i hf
  split at h
  case h_2=>cases h
  rename_i cs jk
  split at h
  ·rename_i h0;have h0:=bA h0;have h0:first= #[]:=by simpa using h0
   subst h0;obtain⟨_,rfl⟩:=h;obtain⟨vs,h1,h2⟩:=O7 hx.sr (by simpa[Op.operands]using he) jk;exact vm hx (v:= .func (.func f) #[] vs.toArray) (by simp[Dp.pv,oQ,h1]) ⟨vs,by unfold xr;rw[aI hf],h2⟩
  ·split at h
   case isFalse=>cases h
   rename_i h0;have h0:=bA h0;have h0:jo= #[]:=by simpa using h0
   subst h0;obtain⟨_,rfl⟩:=h;obtain⟨vs,h1,h2⟩:=O7 hx.sr (by simpa[Op.operands]using he) jk;have hb:¬Nat.blt (f+1000000) 1000000=ab:=λhh=>by have:=dw hh;omega
   exact vm hx (v:= .func (.func f) vs.toArray #[]) (by simp[Dp.pv,oQ,h1]) ⟨vs,by unfold xr;rw[aK hb,Nat.add_sub_cancel],h2⟩
 ·
  rename_i b O6 ts
  have sR:eX sl O6.toList=aa as:=by simpa[Op.operands,Call.operands]using he
  split at h
  ·
   split at h
   case h_2=>cases h
   rename_i t cP
   split at h
   case h_2=>
    split at h
    case h_2=>cases h
    rename_i hty
    obtain⟨_,rfl⟩:=h
    obtain⟨x,rfl,AT⟩:=Mr sR
    obtain⟨v,h3,h4⟩:=cG hx.sr AT
    have h5:v= .string _:=h4.1
    subst h5
    have rF:ts= #[t]:=xM.1 cP
    subst rF
    exact du (OW.asQ (hP.ty _ _ hty).2 h3) (er hx rfl)
   rename_i p ht
   obtain⟨e',n⟩:=p
   obtain⟨l1,l2,r,_,h1,h2⟩:=Q.ga h
   obtain⟨_,rfl⟩:=h2
   obtain⟨x,rfl,AT⟩:=Mr sR
   obtain⟨v,h3,h4⟩:=cG hx.sr AT
   have rF:ts= #[t]:=xM.1 cP
   subst rF
   exact asP hP hx ht h3 h4 h1
  ·
   obtain⟨_,rfl⟩:=h
   obtain⟨x,y,rfl,h1,h2⟩:=wS sR
   obtain⟨v,h3,h4⟩:=cG hx.sr h1
   obtain⟨v',h5,h6⟩:=cG hx.sr h2
   have h4:=h4.1
   have h6:=h6.1
   dsimp only[dI]at h4 h6
   subst h4 h6
   exact du (OW.min h3 h5) (er hx rfl)
  ·
   obtain⟨_,rfl⟩:=h
   obtain⟨x,y,rfl,h1,h2⟩:=wS sR
   obtain⟨v,h3,h4⟩:=cG hx.sr h1
   obtain⟨v',h5,h6⟩:=cG hx.sr h2
   have h4:=h4.1
   have h6:=h6.1
   dsimp only[dI]at h4 h6
   subst h4 h6
   exact du (OW.max h3 h5) (er hx rfl)
  ·
   obtain⟨_,rfl⟩:=h
   obtain⟨x,y,z,rfl,h1,h2,h0⟩:=ab7 sR
   obtain⟨v,h3,h4⟩:=cG hx.sr h1
   obtain⟨v',h5,h6⟩:=cG hx.sr h2
   obtain⟨v'',h7,h8⟩:=cG hx.sr h0
   have h4:=h4.1
   have h6:=h6.1
   have h8:=h8.1
   dsimp only[dI]at h4 h6 h8
   subst h4 h6 h8
   exact du (OW.ase h3 h5 h7) (er hx rfl)
  ·
   obtain⟨_,rfl⟩:=h
   obtain⟨x,y,z,u,rfl,h1,h2,h0,h9⟩:=arm sR
   obtain⟨v,h3,h4⟩:=cG hx.sr h1
   obtain⟨v',h5,h6⟩:=cG hx.sr h2
   obtain⟨v'',h7,h8⟩:=cG hx.sr h0
   obtain⟨v4,g7,g8⟩:=cG hx.sr h9
   have h4:=h4.1
   have h6:=h6.1
   have h8:=h8.1
   have g8:=g8.1
   dsimp only[dI]at h4 h6 h8 g8
   subst h4 h6 h8 g8
   exact du (OW.asd h3 h5 h7 g7) (er hx rfl)
  ·
   obtain⟨_,rfl⟩:=h
   obtain⟨x,y,z,rfl,h1,h2,h0⟩:=ab7 sR
   obtain⟨v,h3,h4⟩:=cG hx.sr h1
   obtain⟨v',h5,h6⟩:=cG hx.sr h2
   obtain⟨v'',h7,h8⟩:=cG hx.sr h0
   have h4:=h4.1
   have h6:=h6.1
   have h8:=h8.1
   dsimp only[dI]at h4 h6 h8
   subst h4 h6 h8
   exact du (OW.ar_ h3 h5 h7) (er hx rfl)
  ·
   split at h
   case h_2=>cases h
   rename_i t cP
   split at h
   case h_2=>cases h
   rename_i e' n' ht
   split at h
   case isFalse=>cases h
   rename_i hn
   have hn:=bA hn
   subst hn
   obtain⟨x,rfl,AT⟩:=Mr sR
   obtain⟨v,h3,h4⟩:=cG hx.sr AT
   have rF:ts= #[t]:=xM.1 cP
   subst rF
   exact azs hP hR hx ht h3 h4 h
  ·
   split at h
   case h_2=>cases h
   rename_i t t' cP
   split at h
   case isFalse=>cases h
   rename_i ng
   have ng:=bA ng
   subst ng
   split at h
   case h_2=>cases h
   rename_i e' n' ht
   obtain⟨x,y,rfl,h1,h2⟩:=wS sR
   obtain⟨v,h3,h4⟩:=cG hx.sr h1
   obtain⟨v',h5,h6⟩:=cG hx.sr h2
   have rF:ts= #[t,t]:=xM.1 cP
   subst rF
   exact ay9 hP hR hx ht h3 h4 h5 h6 h
  ·
   split at h
   case h_2=>cases h
   rename_i t t' cP
   split at h
   case isFalse=>
    split at h
    case h_2=>cases h
    rename_i e' n k g K tk ht yI
    obtain⟨x,y,rfl,h1,h2⟩:=wS sR
    obtain⟨v,h3,h4⟩:=cG hx.sr h1
    obtain⟨v',h5,h6⟩:=cG hx.sr h2
    have rF:ts= #[_,_]:=xM.1 cP
    subst rF
    have h6:=h6.1
    dsimp only[dI]at h6
    subst h6
    obtain⟨zs,hz,_,rfl⟩:=h
    exact alS hP hR hx ht yI (by rw[h3];exact iF aa h4) h5 hz
   rename_i ng
   have ng:=bA ng
   subst ng
   split at h
   case h_2=>cases h
   rename_i e' n ht
   obtain⟨x,y,rfl,h1,h2⟩:=wS sR
   obtain⟨v,h3,h4⟩:=cG hx.sr h1
   obtain⟨v',h5,h6⟩:=cG hx.sr h2
   have rF:ts= #[t,t]:=xM.1 cP
   subst rF
   exact aDN hP hR hx ht h3 h4 h5 h6 h
  ·
   split at h
   case h_2=>cases h
   rename_i t cP
   split at h
   case h_2=>cases h
   rename_i p ht
   obtain⟨_,rfl⟩:=h
   obtain⟨x,rfl,AT⟩:=Mr sR
   obtain⟨v,h3,h4⟩:=cG hx.sr AT
   have rF:ts= #[t]:=xM.1 cP
   subst rF
   have h4:v= .slice none 0 0:=h4
   subst h4
   have hu:=(hP.dp t p.1 p.2 ht).1
   refine du (v:= .int .i64 0) (OW.run λa ha=>⟨_,w,?_,rfl,rfl⟩) (er hx rfl)
   simp[execOp,resolve,invoke,builtin,dO.cap_,run_underlying hu,ha _ _ h3,goInt]
  ·exact(h:False).elim
 ·exact(h:False).elim
