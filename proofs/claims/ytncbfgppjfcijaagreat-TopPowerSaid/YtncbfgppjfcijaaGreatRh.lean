import Derived.Test.YtncbfgppjfcijaaGreatRs
import Derived.Lib.AppendZeros
set_option linter.unusedVariables false
set_option linter.unusedSimpArgs false
set_option linter.unusedSectionVars false
open Array renaming getElem?_eq_some_iff→aq5,length_toList→arE,toList_inj→arV
open Bool renaming and_eq_true→aqL,not_eq_true'→arC
open List renaming getElem?_drop→arM,getElem?_eq_some_iff→aq9,getElem?_take→arh,mem_append→aqP,mem_cons→aqR,mem_singleton→aq1,nil_append→arT,not_mem_nil→arc,replicate→aqS
open Nat renaming add_mul→aq_,beq→aqH,ble_eq_true_of_le→ash,eq_of_beq_eq_true→aqK,le_of_ble_eq_true→aqT,le_refl→aqM,zero_le→arj
open Option.some renaming inj→are,injEq→aq3
open Prod.mk renaming injEq→arP
namespace Go.Proofs.YtncbfgppjfcijaaGreat
open Go Go.RowKit Dp
namespace Rx
section
variable {D:Nat→Type} [∀n,ab (D n)]
variable {P:Program} {T:aV D} {Qx:Exit→Act→World→Prop} {U:Nat→Prop} {ah:Nat} {γ:Gh D} {w:World} {sl:List (Nat×AV D)} {L:List (Nat×Value)} {ob:List (Nat×Option (AO D))}
 {d:Option Tmp} {ty:TypeId} {pos:String} {af:Array Edge} {gd:Option (Nat×Bool)} {e:bT D} {l:List Nat}
theorem R9(hs:SR U γ w sl L){pl:List (Nat×Nat)}:∀{ps:List (Nat×Operand)} {as:List (AV D)} {cs fI:List (A1 D)} {us:List Value},rV T pl cs ps as=some fI→dk sl (ps.map (·.2))=some as→bX U γ w cs us→
  ∃vs ns jw,vC L ps=some vs∧Iu vs ns∧vB pl us ns=some jw∧bX U γ w fI jw
 |[],as,cs,fI,us,h,he,hv=>by
  cases as with
  |nil=>
   simp only[rV,aq3] at h
   subst h
   exact⟨[],[],us,rfl,trivial,rfl,hv⟩
  |cons _ _=>simp[rV] at h
 |(i,x)::r,as,cs,fI,us,h,he,hv=>by
  cases as with
  |nil=>simp[rV] at h
  |cons a as=>
   obtain⟨h1,h2⟩:=oU he
   simp only[rV] at h
   split at h
   case h_2=>cases h
   rename_i off sz us1 lT hc
   split at h
   case isFalse=>cases h
   rename_i hlen
   split at h
   case h_2=>cases h
   rename_i cs1 fm
   obtain⟨v,bh,hvv⟩:=bJ hs h1
   have bD:us1.all storable=true:=by
    unfold wB at fm
    split at fm
    · rename_i hb;simp only[aqL] at hb;exact hb.2
    · cases fm
   obtain⟨QK,k1,k2,k3⟩:=N9 hc hvv bD
   obtain⟨m1,_,m3,m4⟩:=hv.Q6 k1 fm
   obtain⟨vs,ns,jw,n1,n2,n3,n4⟩:=R9 hs h h2 m4
   have hlen:=aqK hlen
   refine⟨(i,v)::vs,(i,QK)::ns,jw,by simp[vC,bh,n1],⟨rfl,k2,n2⟩, ?_,n4⟩
   have e1:QK.length=sz:=by rw[←k1.length];exact hlen
   simp only[vB,lT]
   rw[if_pos ⟨by rw[e1];exact Nat.beq_refl sz,by rw[←e1];exact ash m1⟩]
   exact n3
theorem aoM [Rd](hP:dh P T)(hx:Cx U ah γ w sl L ob){t:TypeId}{n:Nat}{pl:List (Nat×Nat)}{ps:Array (Nat×Operand)}{as:List (AV D)}{cs:List (A1 D)}(ht:au T.ty t=some (.st n))(hl:au T.oR t=some pl)
  (he:dk sl (ps.toList.map (·.2))=some as) (h:rV T pl (ql.vK (T.lv n)) ps.toList as=some cs):
  OW P Qx L ⟨d,.build t ps,ty,pos,af,gd⟩ w (fun v w'=>∃γ',cJ U ah γ w ob ⟨.c (.agg cs),[],[]⟩ γ' v w'):=by
 have hT:=(hP.ty t _ ht).1
 obtain⟨vs,ns,us,h1,h2,h3,h4⟩:=R9 hx.sr h he (IE (γ:=γ) (by simp[In]) (T.lv n))
 have:=OW.aoO (P:=P) (Qx:=Qx) (L:=L) (w:=w) (d:=d) (ty:=ty) (pos:=pos) (af:=af) (g:=gd) ns us (hP.oR t pl hl).1 hT h1 h2 h3
 exact b_ this (kV hx ⟨us,rfl,h4⟩)
theorem ad5(hR:bQ T)(bb:OB U γ w ob){n:Nat}{a:AV D}{v:Value}{r:D n×List Nat×List Nat}(h:Q.R ob (Ko T n a) l r)(hv:eM U γ w a v):
  Rv (In γ.o (r.2.2++r.2.1)) w v r.1∧cT r.2.1∧(∀i∈r.2.2,1000≤i∧U i)∧(r.2.2≠[]→1∈r.2.1):=by
 unfold Ko at h
 split at h
 case isFalse=>exact h.elim
 rename_i F3
 split at h
 case h_2=>exact h.elim
 rename_i cs fm
 obtain⟨l1,l2,x,_,h1,h2⟩:=Q.dZ h
 split at h2
 case h_2=>exact h2.elim
 rename_i y hy
 obtain⟨_,rfl⟩:=h2
 obtain⟨vs,k1,k2⟩:=N_ fm hv
 obtain⟨r1,r2,r3,r4⟩:=xg bb h1 k1
 refine⟨⟨vs, ?_, ?_⟩,r2,r3,r4⟩
 · rw[hR.ag]
   rcases k2 with⟨u,rfl,rfl,b,rfl⟩|⟨rfl,b,rfl⟩
   · simp only[Nw,arC] at F3
     simp[F3,pack]
   · simp only[Nw] at F3
     simp[F3,pack]
 · rw[hR.rd,hR.gi hy]
   exact r1
theorem AH(hR:bQ T)(bb:OB U γ w ob){n:Nat}:∀{as:List (AV D)} {vs:List Value} {l:List Nat} {r:List (D n)×List Nat×List Nat},Q.R ob (px T n as) l r→jQ U γ w as vs→
  ry (In γ.o (r.2.2++r.2.1)) w vs r.1∧cT r.2.1∧(∀i∈r.2.2,1000≤i∧U i)∧(r.2.2≠[]→1∈r.2.1)∧r.1.length=as.length
 |[],vs,l,r,h,hv=>by
  obtain⟨_,rfl⟩:=h
  cases vs with
  |nil=>exact⟨trivial,jf,by simp,fun h=>(h rfl).elim,rfl⟩
  |cons _ _=>exact hv.elim
 |a::as,vs,l,r,h,hv=>by
  cases vs with
  |nil=>exact hv.elim
  |cons v vs=>
   simp only[px] at h
   obtain⟨l1,l2,x,_,h1,h2⟩:=Q.dZ h
   obtain⟨l3,l4,y,_,h3,h4⟩:=Q.dZ h2
   obtain⟨_,rfl⟩:=h4
   obtain⟨i1,i2,i3,i4⟩:=ad5 hR bb h1 hv.1
   obtain⟨j1,j2,j3,j4,j5⟩:=AH hR bb h3 hv.2
   have mono:∀{vs:List Value} {xs:List (D n)},ry (In γ.o (y.2.2++y.2.1)) w vs xs→ry (In γ.o ((x.2.2++y.2.2)++(x.2.1++y.2.1))) w vs xs:=by
    intro vs
    induction vs with
    |nil=>intro xs h;cases xs with
     |nil=>trivial
     |cons _ _=>exact h.elim
    |cons u us ih=>intro xs h;cases xs with
     |nil=>exact h.elim
     |cons z zs=>exact⟨h.1.weaken fun b hb=>by
       unfold In at hb⊢
       rcases aqP.1 hb with hb|hb<;>simp[hb],ih h.2⟩
   refine⟨⟨i1.weaken fun b hb=> ?_,mono j1⟩, ?_, ?_,fun h=> ?_,by simp[j5]⟩
   · unfold In at hb⊢
     rcases aqP.1 hb with hb|hb<;>simp[hb]
   · intro z hz
     rcases aqP.1 hz with hz|hz
     · exact i2 z hz
     · exact j2 z hz
   · intro z hz
     rcases aqP.1 hz with hz|hz
     · exact i3 z hz
     · exact j3 z hz
   · rw[aqP]
     by_cases h5:x.2.2=[]
     · exact .inr (j4 fun h6=>h (by simp[h5,h6]))
     · exact .inl (i4 h5)
theorem Vc{fz:List Nat}(h:∀i∈fz,1000≤i∧U i){e:bT D}(he:e.fz=fz):∀p∈kj fz,1000≤p.1∧(U p.1→p.1∈e.wr)∧(p.2=1∨(ah≤p.2∧p.2<ah+64)):=by
 intro p hp
 simp only[kj,List.mem_map] at hp
 obtain⟨q,hq,rfl⟩:=hp
 exact⟨(h q hq).1,fun _=>by simp[bT.wr,he,hq],.inl rfl⟩
theorem Ea(hx:Cx U ah γ w sl L ob){n t:Nat}{xs:List (D n)}{K fz:List Nat}{o':bL}{w':World}{v:Value}(hK:cT K)(gY:∀i∈fz,1000≤i∧U i)(h1:fz≠[]→1∈K)(bh:ba [] [ah] γ.o w o' w')(hO:Ow t o' ah (fz++K) w' v xs):
  ∃γ',cJ U ah γ w ob ⟨.c (.one (.own ah)),[(ah,some (.sl n t xs K (ah+16)))],fz⟩ γ' v w':=by
 have xS:ah∉fz:=fun h=>hx.fresh ah (aqM _) (by omega) (gY _ h).2
 refine⟨_,mkPost (M:=[]) (N:=[ah]) (ps:=kj fz) (g':=ij γ.g ah v) (v':=ee γ.v (ah+16) [⟨.sl n,xs⟩]) hx.ob bh (by simp) (by simp) (Vc gY rfl) hx.bR (fun i hi=>oP hx hi) (fun i hi=>nz hx (by simp) hi) ⟨kM,(kI _ _ _).symm,hO.one⟩ ?_⟩
 intro j x hj BG
 obtain⟨rfl,cA⟩:=jZ hj
 cases cA
 refine⟨hx.bR,kM, ?_,hK,jY (γ:=γ) (i:=0) rfl (by omega) rfl⟩
 show Ow t _ ah K w' (ij γ.g ah v ah) xs
 rw[kI]
 refine Ow.oo (fun b hb=> ?_) (fun b hb=> ?_) hO
 · show rel (kj fz) (o' b)=ah
   rw[hb,AD.2 xS]
 · exact Nu hK h1 (fun i hi=>(gY i hi).1) b hb
theorem Ek(hs:SR U γ w sl L):∀{ps:List (Nat×Operand)} {k:Nat} {as:List (AV D)},rN k ps=true→dk sl (ps.map (·.2))=some as→∃vs,rW L k ps=some vs∧jQ U γ w as vs
 |[],k,as,_,h=>by
  simp only[List.map_nil,dk,aq3] at h
  subst h
  exact⟨[],rfl,trivial⟩
 |(i,x)::r,k,as,hb,h=>by
  simp only[rN,aqL] at hb
  cases as with
  |nil=>have:=oT h;simp at this
  |cons a as=>
   obtain⟨h1,h2⟩:=oU h
   obtain⟨v,e1,e2⟩:=bJ hs h1
   obtain⟨vs,e3,e4⟩:=Ek hs hb.2 h2
   exact⟨v::vs,by simp[rW,hb.1,e1,e3],e2,e4⟩
theorem aoN [Rd](hP:dh P T)(hR:bQ T)(hx:Cx U ah γ w sl L ob){t e' n m:Nat}{ps:Array (Nat×Operand)}{as:List (AV D)}{r:List (D n)×List Nat×List Nat}(ht:au T.bS t=some (e',n))(hb:rN 0 ps.toList=true)(hm:ps.toList.length=m)(dy:m*(T.lv n).length≤65536)
  (he:dk sl (ps.toList.map (·.2))=some as) (h:Q.R ob (px T n as) l r):
  OW P Qx L ⟨d,.buildSlice t m ps,ty,pos,af,gd⟩ w (fun v w'=>∃γ',cJ U ah γ w ob ⟨.c (.one (.own ah)),[(ah,some (.sl n e' r.1 r.2.1 (ah+16)))],r.2.2⟩ γ' v w'):=by
 obtain⟨hu,hT⟩:=hP.bS t e' n ht
 obtain⟨vs,h1,h2⟩:=Ek hx.sr hb he
 obtain⟨i1,i2,i3,i4,i5⟩:=AH hR hx.ob h h2
 have hlen:r.1.length=m:=by
  rw[i5,←hm]
  simpa using(oT he).symm
 have:=OW.buildSlice (P:=P) (Q:=Qx) (L:=L) (w:=w) (d:=d) (ty:=ty) (pos:=pos) (af:=af) (g:=gd) (o:=γ.o) (k:=ah) hu hT h1 i1 hlen (by rw[hR.sz];exact ash dy)
 refine OW.mono this ?_
 rintro v w' ⟨o',bh,hO⟩
 exact Ea hx i2 i3 i4 bh hO
theorem aoP [Rd](hP:dh P T)(hR:bQ T)(hx:Cx U ah γ w sl L ob){t e' n m:Nat}{ps:Array (Nat×Operand)}{as:List (AV D)}{r:List (D n)×List Nat×List Nat}(ht:au T.ml t=some (m,e',n))(hb:rN 0 ps.toList=true)(hm:ps.toList.length=m)
  (he:dk sl (ps.toList.map (·.2))=some as) (h:Q.R ob (px T n as) l r):
  OW P Qx L ⟨d,.build t ps,ty,pos,af,gd⟩ w (fun v w'=>∃γ',cJ U ah γ w ob ⟨.c (.one (.nU n r.1 r.2.1)),[],r.2.2⟩ γ' v w'):=by
 have hA:=hP.ml t m e' n ht
 obtain⟨vs,h1,h2⟩:=Ek hx.sr hb he
 obtain⟨i1,i2,i3,i4,i5⟩:=AH hR hx.ob h h2
 have hlen:r.1.length=m:=by
  rw[i5,←hm]
  simpa using(oT he).symm
 have:=OW.Zo (P:=P) (Q:=Qx) (L:=L) (w:=w) (d:=d) (ty:=ty) (pos:=pos) (af:=af) (g:=gd) hA.qu hA.el hA.z h1 i1 hlen
 refine OW.mono this ?_
 rintro v w' ⟨rfl,aw,rfl,h5⟩
 refine⟨_,mkPost (M:=[]) (N:=[]) (ps:=kj r.2.2) (g':=γ.g) (v':=γ.v) hx.ob (ba.refl _ _ _ _) (by simp) (by simp) (Vc i3 rfl) hx.bR (fun _ _=>rfl) (fun _ _=>rfl) ?_ (fun j x hj=> ?_)⟩
 · exact⟨⟨aw,rfl,h5.mono fun _ _=>ab.mono fun b hb _=>⟨Nu i2 i4 (fun i hi=>(i3 i hi).1) b hb,rfl⟩⟩,i2⟩
 · simp[au] at hj
theorem aoQ [Rd](hP:dh P T)(hR:bQ T)(hx:Cx U ah γ w sl L ob){t e' n m:Nat}{ps:Array (Nat×Operand)}{as:List (AV D)}{r:List (D n)×List Nat×List Nat}(ht:au T.ml t=some (m,e',n))(hb:rN 0 ps.toList=true)(hm:ps.toList.length=m)
  (he:dk sl (ps.toList.map (·.2))=some as) (h:Q.R ob (px T n as) l r) (hf:r.2.2=[]) (hl:(r.1.flatMap (T.out n)).length≤48):
  OW P Qx L ⟨d,.build t ps,ty,pos,af,gd⟩ w (fun v w'=>∃γ',cJ U ah γ w ob ⟨.c (.agg (cellsD r.2.1 (ah+16) (r.1.flatMap (T.out n)))),[],[]⟩ γ' v w'):=by
 have hA:=hP.ml t m e' n ht
 obtain⟨vs,h1,h2⟩:=Ek hx.sr hb he
 obtain⟨i1,i2,i3,i4,i5⟩:=AH hR hx.ob h h2
 have hlen:r.1.length=m:=by
  rw[i5,←hm]
  simpa using(oT he).symm
 rw[hf,arT] at i1
 have:=OW.Zo (P:=P) (Q:=Qx) (L:=L) (w:=w) (d:=d) (ty:=ty) (pos:=pos) (af:=af) (g:=gd) hA.qu hA.el hA.z h1 i1 hlen
 refine OW.mono this ?_
 rintro v w' ⟨rfl,aw,rfl,h5⟩
 refine⟨_,xi hx _ hl ⟨aw.flatten,rfl, ?_⟩⟩
 exact Cg (γ':=⟨γ.o,γ.g,ee γ.v (ah+16) (r.1.flatMap (T.out n))⟩) i2 (N0 hR h5) fun i x hi=>jY rfl (by have:=(aq9.1 hi).1;omega) hi
theorem aph(hR:bQ T)(bb:OB U γ w ob){n:Nat}{cs:List (A1 D)}{us:List Value}{r:List (D n)×List Nat×List Nat}(M9:T.ag n=false)(h:Q.R ob (px T n (cs.map fun c=> .c (.one c))) l r)(hv:bX U γ w cs us)(hf:r.2.2=[]):dR U γ w (.nU n r.1 r.2.1) (.agg us.toArray):=by
 have FC:jQ U γ w (cs.map fun c=>(.c (.one c):AV D)) us:=by
  clear h
  induction cs generalizing us with
  |nil=>cases us with
   |nil=>trivial
   |cons _ _=>exact hv.elim
  |cons c cs ih=>cases us with
   |nil=>exact hv.elim
   |cons u us=>exact⟨hv.1,ih hv.2⟩
 obtain⟨i1,i2,_,_,_⟩:=AH hR bb h FC
 rw[hf,arT] at i1
 have dG:∀us:List Value,(us.map fun u=>[u]).flatten=us:=fun us=>by
  induction us with
  |nil=>rfl
  |cons u us ih=>simp[ih]
 refine⟨⟨us.map fun u=>[u],by rw[dG], ?_⟩,i2⟩
 generalize r.1=xs at i1
 clear h FC hv
 induction us generalizing xs with
 |nil=>cases xs with
  |nil=>trivial
  |cons _ _=>exact i1.elim
 |cons u us ih=>cases xs with
  |nil=>exact i1.elim
  |cons x xs=>exact⟨Rv.Kr i1.1 (by rw[hR.ag];exact M9),ih xs i1.2⟩
theorem Tm [Rd](hP:dh P T)(hR:bQ T)(hx:Cx U ah γ w sl L ob){t e' n m:Nat}{u i:Operand}{xs:List (D n)}{K:List Nat}{j:Int}{y:D n}{va:Value}{r:AV D}(ht:au T.ml t=some (m,e',n))(hm:xs.length=m)
  (hu:ev L u=some va) (dn:dR U γ w (.nU n xs K) va) (hi:ev L i=some (.int .i64 j)) (hj:idx xs j=some y) (hr:qG (T.ag n) (cellsD K (ah+16) (T.out n y))=some r):
  OW P Qx L ⟨d,.index t u i,ty,pos,af,gd⟩ w (fun v w'=>∃γ',cJ U ah γ w ob ⟨r,[],[]⟩ γ' v w'):=by
 have hA:=hP.ml t m e' n ht
 obtain⟨⟨aw,rfl,h1⟩,h2⟩:=dn
 refine OW.mono (OW.agw hA.qu hm hA.el hu h1 hi hj) ?_
 rintro v w' ⟨rfl,cs,rfl,h3⟩
 have hl:(T.out n y).length≤48:=by rw[EV];exact hR.oS n
 have h4:=Cg (γ':=⟨γ.o,γ.g,ee γ.v (ah+16) (T.out n y)⟩) (U:=fY U ah) h2 (g:=ah+16) ((hR.rd n _ _ _ _).1 h3) (fun i x fT=>jY (γ:=γ) rfl (by
  have:=(aq9.1 fT).1
  omega) fT)
 refine⟨_,xi hx (T.out n y) hl ?_⟩
 rw[hR.ag]
 unfold qG at hr
 cases hg:T.ag n with
 |true=>
  rw[hg] at hr
  cases hr
  exact⟨cs,rfl,h4⟩
 |false=>
  rw[hg] at hr
  simp only[Bool.false_eq_true,if_false] at hr
  split at hr
  case h_2=>cases hr
  rename_i a ha
  cases hr
  rw[ha] at h4
  cases cs with
  |nil=>exact h4.elim
  |cons c cs=>exact h4.1
theorem Ow.head{t:TypeId}{o:bL}{k:Nat}{K:List Nat}{v:Value}{n:Nat}{xs:List (D n)}{y:D n}{j:Int}(h:Ow t o k K w v xs)(hj:idx xs j=some y):∃b cap,v= .slice (some ⟨b,0,none⟩) xs.length cap:=by
 rcases h with⟨rfl,rfl⟩|⟨g,cap,aL,aw,e1,_⟩
 · unfold idx at hj;split at hj<;>simp at hj
 · exact⟨g,cap,e1⟩
theorem agE [Rd](hP:dh P T)(hx:Cx U ah γ w sl L ob){t e' n tj:Nat}{u i:Operand}{a:A1 D}{va:Value}{j:Int}(ht:au T.bS t=some (e',n))(hu:ev L u=some va)(dn:dR U γ w a va)(hi:ev L i=some (.int .i64 j))(L9:named U γ tj ⟨.int .i64,j⟩)
  (h:Q.R ob (LP n j tj a) l e):
  OW P Qx L ⟨d,.indexAddr t u i,ty,pos,af,gd⟩ w (fun v w'=>∃γ',cJ U ah γ w ob e γ' v w'):=by
 obtain⟨ii,hT⟩:=hP.bS t e' n ht
 unfold LP at h
 split at h
 · rename_i n' xs K g
   split at h
   case isFalse=>exact h.elim
   rename_i hn
   have hn:=aqK hn
   subst hn
   obtain⟨y,hy,_,rfl⟩:=h
   obtain⟨h1,h2,h3⟩:=dn
   refine OW.mono (OW.indexAddr ii hT hu h1 hi hy) ?_
   rintro v w' ⟨rfl,pa,rfl,hp,_⟩
   exact⟨γ,kV hx ⟨pa,by rw[add_zero'],hp,h3⟩⟩
 · rename_i i'
   obtain⟨ao,l',ho,rfl,h⟩:=h
   obtain⟨hU,rfl,_⟩:=dn
   have key:∀{n' tc:Nat} {xs:List (D n')},((∀y,idx xs j=some y→∃b cap,γ.g i'= .slice (some ⟨b,0,none⟩) xs.length cap)∧named U γ tc ⟨.sl n',xs⟩)→Q.R ob (if aqH n' n&& !(aqH tc 0) then .part (idx xs j) fun y=>bo (.c (.one (.el i' n' j y 0 tc tj))) else .fail) l' e→
     OW P Qx L ⟨d,.indexAddr t u i,ty,pos,af,gd⟩ w (fun v w'=>∃γ',cJ U ah γ w ob e γ' v w'):=by
    clear h
    rintro n' tc xs ⟨hh,h3⟩ hq
    split at hq
    case isFalse=>exact hq.elim
    rename_i hn
    simp only[aqL,arC] at hn
    have Bj:tc≠0:=fun e=>by subst e;simp at hn
    have hn:=aqK hn.1
    subst hn
    obtain⟨y,hy,_,rfl⟩:=hq
    obtain⟨b,cap,hg⟩:=hh y hy
    refine OW.mono (OW.Ty ii hT hu hg hi hy) ?_
    rintro v w' ⟨rfl,rfl⟩
    rcases h3 with h3|⟨h3,h4⟩
    · exact(Bj h3).elim
    refine⟨γ,kV hx ⟨hU,⟨Bj,h3⟩,⟨xs,h4,hy⟩,L9,b,_,_,hg, ?_⟩⟩
    unfold dJ Addr.add
    split<;>simp_all
   obtain⟨_,_,h1⟩:=hx.ob.ob _ _ ho
   cases ao with
   |box=>exact h.elim
   |sl n' t' xs K tc=>exact key ⟨fun y hy=>Ow.head h1.1 hy,h1.2.2⟩ h
   |bU n' t' rG q xs tc h0=>exact key ⟨fun y hy=>Ow.head h1.1.ow hy,h1.2.1⟩ h
   |fi n' t' rG q xs j' pA s tc=>
    obtain⟨h2,_,b,len,cap,h3,gg,q',aL,_,_,_,_,_,h4⟩:=h1
    exact key ⟨fun y hy=>Ow.head h4.ow hy,h2⟩ h
   |mp=>exact h.elim
   |fz n' xs K=>
    dsimp only at h
    split at h
    case isFalse=>exact h.elim
    rename_i hn
    have hn:=aqK hn
    subst hn
    obtain⟨y,hy,_,rfl⟩:=h
    refine OW.mono (OW.indexAddr ii hT hu h1.1 hi hy) ?_
    rintro v w' ⟨rfl,pa,rfl,hp,_⟩
    exact⟨γ,kV hx ⟨pa,by rw[add_zero'],hp,h1.2⟩⟩
 · obtain⟨y,hy,_⟩:=h
   cases hy
 · rename_i i' n0 j0
   obtain⟨ao,l',ho,rfl,h⟩:=h
   obtain⟨hU,hj0,p,nn,c,e1,e2,e3⟩:=dn
   cases ao with
   |sl n' t' xs K tc=>
    dsimp only at h
    split at h
    case isFalse=>exact h.elim
    rename_i hn
    simp only[aqL,arC] at hn
    have Bj:tc≠0:=fun e=>by subst e;simp at hn
    have Mq:=aqK hn.1.1
    have Mp:=aqK hn.1.2
    subst Mq
    subst Mp
    obtain⟨y,hy,_,rfl⟩:=h
    obtain⟨_,_,h1,h2,h3⟩:=hx.ob.ob _ _ ho
    obtain⟨p',vM,f1,f2,_⟩:=om h1.rv
    have er:=hy
    unfold idx at er
    split at er
    case isFalse=>cases er
    rename_i hj
    have TB:idx xs (Ba j0 j)=some y:=by
     unfold idx
     rw[if_pos (show 0≤j0+j by omega)]
     rw[arM] at er
     rw[show(Ba j0 j).toNat=j0.toNat+j.toNat by show(j0+j).toNat=_;omega]
     exact er
    obtain⟨b,cap,hg⟩:=Ow.head h1 TB
    rw[hg] at e1 f1
    simp only[Value.slice.injEq] at e1 f1
    obtain⟨rfl,rfl,rfl⟩:=e1
    obtain⟨_,_,rfl⟩:=f1
    have aK:j0.toNat+j.toNat<xs.length:=by
     rw[arM] at er
     exact(aq9.1 er).1
    have dL:∀(q r:Nat),(⟨b,q,none⟩:Addr).add r=⟨b,q+r,none⟩:=fun q r=>by unfold Addr.add;split<;>simp_all
    have NQ:va= .slice (some ⟨b,j0.toNat*ab.sz (D n'),none⟩) (GP xs j0).length (cap-j0.toNat):=by
     rw[e2,if_neg (by omega)]
     simp[dL]
    refine OW.mono (OW.Ty (xs:=GP xs j0) ii hT hu NQ hi hy) ?_
    rintro v w' ⟨rfl,rfl⟩
    rcases h3 with h3|⟨h3,h4⟩
    · exact(Bj h3).elim
    refine⟨γ,kV hx ⟨hU,⟨Bj,h3⟩,⟨xs,h4,TB⟩,.inl rfl,b,_,_,hg, ?_⟩⟩
    rw[dL]
    unfold dJ
    rw[show(Ba j0 j).toNat=j0.toNat+j.toNat by show(j0+j).toNat=_;omega,aq_,Nat.add_zero]
   |_=>exact h.elim
 · exact h.elim
theorem Rt{x y:Operand}{v:Value}(h:Ai x y=true)(hx:ev L x=some v):ev L y=some v:=by
 unfold Ai at h
 split at h
 · rename_i a b
   have:=aqK h
   subst this
   exact hx
 · rename_i a b
   have:=of_decide_eq_true h
   subst this
   exact hx
 · cases h
theorem afq [Rd](hP:dh P T)(hR:bQ T)(hx:Cx U ah γ w sl L ob){t e' n:Nat}{u1 u2:Operand}{m:Int}{zs:List (D n)}(ht:au T.bS t=some (e',n))(h1:ev L u1=some (.int .i64 m))(h2:Ai u1 u2=true)(hm:jC (T.zero n) m=some zs):
  OW P Qx L ⟨d,.makeSlice t u1 u2,ty,pos,af,gd⟩ w (fun v w'=>∃γ',cJ U ah γ w ob ⟨.c (.one (.own ah)),[(ah,some (.sl n e' zs [] (ah+16)))],[]⟩ γ' v w'):=by
 obtain⟨hu,hT⟩:=hP.bS t e' n ht
 have oI:rZ (D n) m=some zs:=by
  unfold rZ
  unfold jC at hm
  rw[hR.zero]
  exact hm
 refine OW.mono (OW.make (o:=γ.o) (k:=ah) hu hT h1 (Rt h2 h1) oI) ?_
 rintro v w' ⟨o',bh,hO⟩
 exact Ea hx jf (by simp) (fun h=>(h rfl).elim) bh hO
theorem PL{α:Type}[ab α](w:World)(q:Nat):(Builtin.zeroCells (pack (ab.agg α) (ab.zc α)).cells q).toList=(aqS q (ab.zc α)).flatten:=by
 have hz:(pack (ab.agg α) (ab.zc α)).cells.toList=ab.zc α:=qF (α:=α) (ab.d_ (fun _=>True) w)
 have eP:(ab.zc α).length=ab.sz α:=ab.len (ab.d_ (α:=α) (fun _=>True) w)
 have nE:=ab.pos (α:=α)
 generalize Tz:(pack (ab.agg α) (ab.zc α)).cells=z at*
 unfold Builtin.zeroCells
 have eI:z.size=ab.sz α:=by rw[←arE,hz,eP]
 have key:∀q:Nat,(List.range (q*ab.sz α)).map (fun i=>z[i% z.size]!)=(aqS q (ab.zc α)).flatten:=by
  intro q
  induction q with
  |zero=>simp
  |succ q ih=>
   rw[List.replicate_succ',List.flatten_append,←ih,Nat.succ_mul,List.range_add,List.map_append]
   congr 1
   simp only[List.map_map,List.flatten_singleton]
   rw[←hz]
   apply List.ext_getElem?
   intro j
   by_cases hj:j<ab.sz α
   · have e1:(q*ab.sz α+j)% z.size=j:=by rw[eI,Nat.mul_comm,Nat.mul_add_mod,Nat.mod_eq_of_lt hj]
     have et:j<z.size:=by omega
     simp[hj,e1,et,getElem!_pos]
   · simp[hj,eI]
 rw[eI]
 simpa[eI] using key q
theorem OW.aar [Rd]{α:Type}[ab α]{s x:Operand}{t tn e' k0:Nat}{o:bL}{zs:List α}{m:Int}(hu:P.underlying t=some (.slice e'))(hT:bz P e' α)(hn:P.underlying tn=some (.int .i64))(h1:ev L s=some (.slice none 0 0))(h2:ev L x=some (.int .i64 m))(hm:Fa (ab.zero:α) m=some zs):
  OW P Qx L ⟨d,.call {callee:= .builtin .append,args:= #[s,x],argTypes:= #[t,tn]},ty,pos,af,gd⟩ w (fun v' w'=>∃o',ba [] [k0] o w o' w'∧Ow e' o' k0 [] w' v' zs):=by
 unfold Fa at hm
 split at hm
 case isFalse=>cases hm
 rename_i hb
 cases hm
 obtain⟨i,dX,cF,fF,jo⟩:=hT.jD
 have nE:=ab.pos (α:=α)
 have x_:m.toNat*i.bytes≤281474976710656:=by
  have:=Nat.mul_le_mul (show m.toNat≤1073741824 by omega) fF
  omega
 have hmm:((m.toNat:Nat):Int)=m:=by omega
 have hr:=Lib.run_append_nil_zeros (P:=P) w t tn ty e' i _ .i64 .i64 hu hn dX jo m.toNat (by omega) (by omega) (by omega) x_
 rw[hmm] at hr
 have oD:(pack (ab.agg α) (ab.zc α)).cells.toList=ab.zc α:=qF (α:=α) (ab.d_ (fun _=>True) w)
 have eP:(ab.zc α).length=ab.sz α:=ab.len (ab.d_ (α:=α) (fun _=>True) w)
 have eI:(pack (ab.agg α) (ab.zc α)).cells.size=ab.sz α:=by rw[←arE,oD,eP]
 have nJ:=grownCap_ge w m.toNat 0 e'
 refine OW.run fun a ha=>⟨_,_,by simp[execOp,resolve,invoke,builtin,ha _ _ h1,ha _ _ h2,hr];exact⟨rfl,rfl⟩,grow o w k0, ?_,.inr ⟨w.heap.size,grownCap w m.toNat 0 e',_,aqS m.toNat (ab.zc α),by simp,nM o w k0 _ (aqM _),heap_alloc_new w.drew _, ?_, ?_, ?_, ?_, ?_⟩⟩
 · exact(ba.fresh k0 ((Below.refl _ _).drew.alloc (aqM _) _)).weaken (by simp) (by simp)
 · simpa using nJ
 · exact grownCap_le_maxLen w _ _ _ (by unfold maxLen;omega)
 · simp only[Array.size_append,size_zeroCells,eI,←aq_]
   congr 1
   omega
 · exact bC.replicate (ab.d_ _ _) _
 · rw[Array.toList_append,PL w,List.length_replicate]
   refine List.take_left' ?_
   rw[←PL w,arE,size_zeroCells,eI]
theorem aaq [Rd](hP:dh P T)(hR:bQ T)(hx:Cx U ah γ w sl L ob){t tn e' n:Nat}{s x:Operand}{m:Int}{zs:List (D n)}(ht:au T.bS t=some (e',n))(su:au T.ty tn=some (.one (.int .i64)))(h1:ev L s=some (.slice none 0 0))(h2:ev L x=some (.int .i64 m))(hm:Fa (T.zero n) m=some zs):
  OW P Qx L ⟨d,.call {callee:= .builtin .append,args:= #[s,x],argTypes:= #[t,tn]},ty,pos,af,gd⟩ w (fun v w'=>∃γ',cJ U ah γ w ob ⟨.c (.one (.own ah)),[(ah,some (.sl n e' zs [] (ah+16)))],[]⟩ γ' v w'):=by
 obtain⟨hu,hT⟩:=hP.bS t e' n ht
 refine OW.mono (OW.aar (o:=γ.o) (k0:=ah) hu hT (hP.ty _ _ su).2 h1 h2 (by rw[hR.zero];exact hm)) ?_
 rintro v w' ⟨o',bh,hO⟩
 exact Ea hx jf (by simp) (fun h=>(h rfl).elim) bh hO
theorem f_.kc{α:Type}[ab α]{z:Nat}{t tc:TypeId}{o:bL}{k kc:Nat}{v:Value}{xs:List α}(h:f_ z t tc o k kc w v xs)(hn:∀b,b<w.heap.size→o b≠kc):f_ z t tc (iF o k v) 0 1 w v xs:=by
 rcases h with h|⟨g,cap,aL,aw,h1,h2,h3,h4,h5,h6,h7,h8,h9,mX⟩
 · exact .inl h
 · refine .inr ⟨g,cap,aL,aw,h1,LB h2 (by rw[h1];exact Nat.beq_refl g),h3,h4,h5,h6,h7.mono fun _ _=>ab.mono fun b hb aK=> ?_,h8,fun u hu p n c e=> ?_,mX⟩
   · have hb:o b=kc:=by simpa[In] using hb
     exact(hn b aK hb).elim
   · rcases h9 u hu p n c e with h|⟨g',yE,i1,i2,i3,i4⟩
     · exact .inl h
     · exact(hn g' (aq5.1 i3).1 i2).elim
theorem afs [Rd](hP:dh P T)(hR:bQ T)(hx:Cx U ah γ w sl L ob){t e' n tc q:Nat}{u1 u2:Operand}{m:Int}{zs:List (D n)}(ht:au T.bS t=some (e',n))(hk:au T.kd n=some (tc,q))(h1:ev L u1=some (.int .i64 m))(h2:Ai u1 u2=true)(hm:jC (T.zero n) m=some zs):
  OW P Qx L ⟨d,.makeSlice t u1 u2,ty,pos,af,gd⟩ w (fun v w'=>∃γ',cJ U ah γ w ob ⟨.c (.one (.own ah)),[(ah,some (.bU n e' tc q zs (ah+16) 0))],[]⟩ γ' v w'):=by
 obtain⟨hu,hT⟩:=hP.bS t e' n ht
 have hK:=hP.kd n tc q hk
 have oI:rZ (D n) m=some zs:=by
  unfold rZ
  unfold jC at hm
  rw[hR.zero]
  exact hm
 refine OW.mono (OW.afu (o:=γ.o) (k:=ah) (ah+1) (ab.sz (D q)) tc hK.zc hu hT h1 (Rt h2 h1) oI) ?_
 rintro v w' ⟨o',bh,hO⟩
 have bg:∀b,b<w'.heap.size→o' b≠ah+1:=fun b hb e=>by
  by_cases aK:b<w.heap.size
  · rw[bh.dW b aK] at e
    exact hx.nw aK (by omega) (by omega) e
  · have:=bh.new b (by omega) hb
    simp at this
    omega
 have hO':=f_.kc hO bg
 refine⟨_,mkPost (M:=[]) (N:=[ah]) (ps:=[]) (g':=ij γ.g ah v) (v':=ee γ.v (ah+16) [⟨.sl n,zs⟩]) hx.ob bh (by simp) (by simp) (by simp) hx.bR (fun i hi=>oP hx hi) (fun i hi=>nz hx (by simp) hi) ⟨kM,(kI _ _ _).symm,hO.one⟩ ?_⟩
 intro j x hj BG
 obtain⟨rfl,cA⟩:=jZ hj
 cases cA
 refine⟨hx.bR,kM, ?_,jY (γ:=γ) (i:=0) rfl (by omega) rfl,.inl rfl⟩
 show f_ _ e' tc (iF o' ah (ij γ.g ah v ah)) 0 1 w' (ij γ.g ah v ah) zs
 rw[kI]
 exact hO'
theorem Ow.Ku{α:Type}[ab α]{T:TypeId}{o:bL}{k:Nat}{K:List Nat}{w:World}{v v':Value}{j:Nat}{xs:List α}(h:Ow T o k K w v xs)(hp:It v v' j):Ow T o k K w v' (xs.take j):=by
 obtain⟨p,m,c,h1,rfl,hj⟩:=hp
 rcases h with⟨rfl,rfl⟩|⟨gg,cap,aL,aw,rfl,h2,h3,h4,h5,h6,h7,h8⟩
 · cases h1
   have:j=0:=by omega
   subst this
   exact .inl ⟨rfl,rfl⟩
 · cases h1
   have hl:(xs.take j).length=j:=by simp;omega
   refine .inr ⟨gg,c,aL,aw.take j,by rw[hl],h2,h3,by omega,h5,h6,h7.take j, ?_⟩
   rw[vA h7.lK,←h8,List.take_take,hl]
   congr 1
   exact(Nat.min_eq_left (Nat.mul_le_mul_right _ hj)).symm
theorem Ow.acB{α:Type}[ab α]{T:TypeId}{o:bL}{k j:Nat}{K:List Nat}{w:World}{v v':Value}{xs:List α}(h:Ow T o k K w v xs)(ht:CY (ab.sz α) v v' j):dM (In o K) w v' (xs.drop j):=by
 obtain⟨p,m,c,h1,rfl,hj⟩:=ht
 rcases h with⟨rfl,rfl⟩|⟨gg,cap,aL,aw,rfl,h2,h3,h4,h5,h6,h7,h8⟩
 · cases h1
   have:j=0:=by omega
   subst this
   exact⟨_,_,rfl,.inl (by simp)⟩
 · cases h1
   refine⟨_,_,by rw[List.length_drop], ?_⟩
   rcases Nat.lt_or_ge j xs.length with aK|nJ
   · right
     have BJ:¬c=j:=by omega
     refine⟨⟨gg,j*ab.sz α,none⟩,aw.drop j, ?_,h7.drop j, ?_⟩
     · have dL:(⟨gg,0,none⟩:Addr).add (j*ab.sz α)=⟨gg,j*ab.sz α,none⟩:=by unfold Addr.add;split<;>simp_all
       simp[BJ,dL]
     · intro q u hq
       have dL:(⟨gg,j*ab.sz α,none⟩:Addr).add q=⟨gg,j*ab.sz α+q,none⟩:=by unfold Addr.add;split<;>simp_all
       rw[dL,cell_of_row w gg _ aL T (0,0) h3]
       rw[BW h7.lK,arM,←h8,arh] at hq
       split at hq
       · simpa using hq
       · cases hq
   · exact .inl (List.drop_eq_nil_of_le nJ)
theorem Km(bb:OB U γ w ob){n:Nat}{a:A1 D}{v:Value}{r:List (D n)×List Nat}(h:Q.R ob (AG n a) l r)(hv:dR U γ w a v):dM (In γ.o r.2) w v r.1∧cT r.2:=by
 unfold AG at h
 split at h
 · rename_i n' xs K g
   split at h
   case isFalse=>exact h.elim
   rename_i hn
   subst hn
   obtain⟨_,rfl⟩:=h
   exact⟨hv.1.bS,hv.2.2⟩
 · obtain⟨_,rfl⟩:=h
   have hv:v= .slice none 0 0:=hv
   subst hv
   exact⟨⟨none,0,rfl,.inl rfl⟩,jf⟩
 · obtain⟨ao,l',ho,rfl,h⟩:=h
   cases ao with
   |box=>exact h.elim
   |bU=>exact h.elim
   |fi=>exact h.elim
   |sl n' t xs K g=>
    dsimp only at h
    split at h
    case isFalse=>exact h.elim
    rename_i hn
    subst hn
    obtain⟨_,rfl⟩:=h
    obtain⟨_,rfl,_⟩:=hv
    obtain⟨_,_,h1,h2,_⟩:=bb.ob _ _ ho
    exact⟨h1.bS,h2⟩
   |mp=>exact h.elim
   |fz n' xs K=>
    dsimp only at h
    split at h
    case isFalse=>exact h.elim
    rename_i hn
    subst hn
    obtain⟨_,rfl⟩:=h
    obtain⟨_,rfl,_⟩:=hv
    obtain⟨_,_,h1,h2⟩:=bb.ob _ _ ho
    exact⟨h1.bS,h2⟩
 · obtain⟨ao,l',ho,rfl,h⟩:=h
   cases ao with
   |box=>exact h.elim
   |bU=>exact h.elim
   |fi=>exact h.elim
   |fz=>exact h.elim
   |mp=>exact h.elim
   |sl n0 t xs K g=>
    dsimp only at h
    split at h
    case isFalse=>exact h.elim
    rename_i uW
    have uW:=aqK uW
    subst uW
    split at h
    case isFalse=>exact h.elim
    rename_i hn
    subst hn
    obtain⟨_,rfl⟩:=h
    obtain⟨_,ht⟩:=hv
    obtain⟨_,_,h1,h2,_⟩:=bb.ob _ _ ho
    exact⟨Ow.acB h1 ht.2,h2⟩
 · obtain⟨ao,l',ho,rfl,h⟩:=h
   cases ao with
   |box=>exact h.elim
   |bU=>exact h.elim
   |fi=>exact h.elim
   |fz=>exact h.elim
   |mp=>exact h.elim
   |sl n0 t xs K g=>
    dsimp only at h
    split at h
    case isFalse=>exact h.elim
    rename_i uW
    have uW:=aqK uW
    subst uW
    split at h
    case isFalse=>exact h.elim
    rename_i hn
    subst hn
    obtain⟨_,rfl⟩:=h
    obtain⟨_,ht⟩:=hv
    obtain⟨_,_,h1,h2,_⟩:=bb.ob _ _ ho
    exact⟨(Ow.Ku h1 ht).bS,h2⟩
 · exact h.elim
theorem dM.weaken{n:Nat}{S S':Nat→Prop}{v:Value}{xs:List (D n)}(hm:∀b,S b→S' b)(h:dM S w v xs):dM S' w v xs:=by
 obtain⟨p,cap,rfl,h⟩:=h
 refine⟨p,cap,rfl, ?_⟩
 rcases h with h|⟨a,aw,h1,h2,h3⟩
 · exact .inl h
 · exact .inr ⟨a,aw,h1,h2.mono fun _ _=>ab.mono fun b hb _=>⟨hm b hb,rfl⟩,h3⟩
theorem H_(b p off:Nat):(⟨b,p,none⟩:Addr).add off=⟨b,p+off,none⟩:=by
 unfold Addr.add
 split<;>simp_all
theorem ao_ [Rd](hP:dh P T)(hR:bQ T)(hx:Cx U ah γ w sl L ob){t e' n:Nat}{s x:Operand}{a b:A1 D}{va vb:Value}(ht:au T.bS t=some (e',n))(hs:ev L s=some va)(dn:dR U γ w a va)(hb:ev L x=some vb)(L4:dR U γ w b vb)
  (h:Q.R ob (H3 T ah n e' a b) l e):
  OW P Qx L ⟨d,.call {callee:= .builtin .append,args:= #[s,x],argTypes:= #[t,t]},ty,pos,af,gd⟩ w (fun v w'=>∃γ',cJ U ah γ w ob e γ' v w'):=by
 obtain⟨hu,hT⟩:=hP.bS t e' n ht
 unfold H3 at h
 obtain⟨l1,l2,y0,_,h1,h⟩:=Q.dZ h
 obtain⟨xC,Fx⟩:=Km hx.ob h1 L4
 have kf:dM (In γ.o (p7 T n y0.2)) w vb y0.1∧cT (p7 T n y0.2):=by
  unfold p7
  split
  · rename_i hf
    haveI:=hR.flat hf
    exact⟨dM.flat xC,fun z hz=>by cases hz⟩
  · exact⟨xC,Fx⟩
 obtain⟨ys,pI⟩:∃ys:List (D n)×List Nat,ys=(y0.1,p7 T n y0.2):=⟨_,rfl⟩
 rw[←pI] at h
 have k1:dM (In γ.o ys.2) w vb ys.1:=by rw[pI];exact kf.1
 have k2:cT ys.2:=by rw[pI];exact kf.2
 clear pI kf xC Fx h1
 unfold H3.ZF at h
 cases a with
 |own i=>
  obtain⟨ao,l',ho,rfl,h⟩:=h
  cases ao with
  |box=>exact h.elim
  |bU=>exact h.elim
  |fi=>exact h.elim
  |fz=>exact h.elim
  |mp=>exact h.elim
  |sl n' t' xs K g=>
   dsimp only at h
   split at h
   case isFalse=>exact h.elim
   rename_i hn
   subst hn
   split at h
   case isFalse=>exact h.elim
   rename_i jE
   have jE:=aqK jE
   subst jE
   obtain⟨zs,hz,_,rfl⟩:=h
   obtain⟨hU,rfl,_⟩:=dn
   obtain⟨eJ,_,m1,m2,m3⟩:=hx.ob.ob _ _ ho
   have hK:cT (ys.2++K):=fun z hz=>by
    rcases aqP.1 hz with hz|hz
    · exact k2 z hz
    · exact m2 z hz
   have oK:gJ (ys.2++K) [i]=true:=yD fun z hz=>by
    simp only[aq1]
    rintro rfl
    have:=hK _ hz
    omega
   have AZ:Ow t' γ.o i (ys.2++K) w (γ.g i) xs:=Ow.oo (fun _ h=>h) (fun b hb=>by unfold In at hb⊢;simp[hb]) m1
   refine OW.mono (OW.append hu hT hs hb AZ (dM.weaken (fun b hb=>by unfold In at hb⊢;simp[hb]) k1) hz oK) ?_
   rintro v w' ⟨o',bh,hO⟩
   have dQ:i≠ah:=fun e=>hx.fresh ah (aqM _) (by omega) (e▸hU)
   have lm:∀{j:Nat} {x:AO D},au [(ah,some (AO.sl n' t' zs (ys.2++K) (ah+16))),(i,none)] j=some (some x)→j=ah∧x= .sl n' t' zs (ys.2++K) (ah+16):=by
    intro j x hj
    have:=cz hj
    simp only[aqR,arP,arc,or_false,aq3,reduceCtorEq,and_false] at this
    exact this
   have uO:∀z,z≠i→rel [(i,ah)] z=z:=fun z hz=>by
    unfold rel
    split
    · rename_i y hy
      have:=(jZ hy).1
      exact(hz this.symm).elim
    · rfl
   have Bm:rel [(i,ah)] i=ah:=by simp[rel,au]
   refine⟨_,mkPost (M:=[i]) (N:=[i]) (ps:=[(i,ah)]) (g':=ij γ.g ah v) (v':=ee γ.v (ah+16) [⟨.sl n',zs⟩]) hx.ob bh (by simp[eJ,hU,bT.wr]) (by simp) (by simp[eJ,bT.wr]) hx.bR (fun i hi=>oP hx hi) (fun i hi=>nz hx (by simp) hi) ⟨kM,(kI _ _ _).symm,hO.one⟩ ?_⟩
   intro j x hj BG
   obtain⟨rfl,rfl⟩:=lm hj
   refine⟨hx.bR,kM, ?_,hK,jY (γ:=γ) (i:=0) rfl (by omega) rfl⟩
   show Ow t' _ j (ys.2++K) w' (ij γ.g j v j) zs
   rw[kI]
   refine Ow.oo (fun b hb=> ?_) (fun b hb=> ?_) hO
   · show rel [(i,j)] (o' b)=j
     rw[hb,Bm]
   · have:o' b≠i:=fun e=>by
      unfold In at hb
      have:=hK _ hb
      omega
     show rel [(i,j)] (o' b)∈_
     rw[uO _ this]
     exact hb
 |pre i ne j=>
  obtain⟨ao,l',ho,rfl,h⟩:=h
  cases ao with
  |box=>exact h.elim
  |bU=>exact h.elim
  |fi=>exact h.elim
  |fz=>exact h.elim
  |mp=>exact h.elim
  |sl n' t' xs K g=>
   dsimp only at h
   split at h
   case isFalse=>exact h.elim
   rename_i hn
   subst hn
   split at h
   case isFalse=>exact h.elim
   rename_i jE
   obtain⟨zs,hz,_,rfl⟩:=h
   simp only[aqL] at jE
   obtain⟨jE,bg⟩:=jE
   have jE:=aqK jE
   have bg:=aqK bg
   subst jE bg
   obtain⟨hU,xQ⟩:=dn
   obtain⟨eJ,_,m0,m2,m3⟩:=hx.ob.ob _ _ ho
   have m1:=Ow.Ku m0 xQ
   have hK:cT (ys.2++K):=fun z hz=>by
    rcases aqP.1 hz with hz|hz
    · exact k2 z hz
    · exact m2 z hz
   have oK:gJ (ys.2++K) [i]=true:=yD fun z hz=>by
    simp only[aq1]
    rintro rfl
    have:=hK _ hz
    omega
   have AZ:Ow t' γ.o i (ys.2++K) w va (xs.take j.toNat):=Ow.oo (fun _ h=>h) (fun b hb=>by unfold In at hb⊢;simp[hb]) m1
   refine OW.mono (OW.append hu hT hs hb AZ (dM.weaken (fun b hb=>by unfold In at hb⊢;simp[hb]) k1) hz oK) ?_
   rintro v w' ⟨o',bh,hO⟩
   have dQ:i≠ah:=fun e=>hx.fresh ah (aqM _) (by omega) (e▸hU)
   have lm:∀{j:Nat} {x:AO D},au [(ah,some (AO.sl n' t' zs (ys.2++K) (ah+16))),(i,none)] j=some (some x)→j=ah∧x= .sl n' t' zs (ys.2++K) (ah+16):=by
    intro j' x hj
    have:=cz hj
    simp only[aqR,arP,arc,or_false,aq3,reduceCtorEq,and_false] at this
    exact this
   have uO:∀z,z≠i→rel [(i,ah)] z=z:=fun z hz=>by
    unfold rel
    split
    · rename_i y hy
      have:=(jZ hy).1
      exact(hz this.symm).elim
    · rfl
   have Bm:rel [(i,ah)] i=ah:=by simp[rel,au]
   refine⟨_,mkPost (M:=[i]) (N:=[i]) (ps:=[(i,ah)]) (g':=ij γ.g ah v) (v':=ee γ.v (ah+16) [⟨.sl n',zs⟩]) hx.ob bh (by simp[eJ,hU,bT.wr]) (by simp) (by simp[eJ,bT.wr]) hx.bR (fun i hi=>oP hx hi) (fun i hi=>nz hx (by simp) hi) ⟨kM,(kI _ _ _).symm,hO.one⟩ ?_⟩
   intro j' x hj BG
   obtain⟨rfl,rfl⟩:=lm hj
   refine⟨hx.bR,kM, ?_,hK,jY (γ:=γ) (i:=0) rfl (by omega) rfl⟩
   show Ow t' _ j' (ys.2++K) w' (ij γ.g j' v j') zs
   rw[kI]
   refine Ow.oo (fun b hb=> ?_) (fun b hb=> ?_) hO
   · show rel [(i,j')] (o' b)=j'
     rw[hb,Bm]
   · have:o' b≠i:=fun e=>by
      unfold In at hb
      have:=hK _ hb
      omega
     show rel [(i,j')] (o' b)∈_
     rw[uO _ this]
     exact hb
 |bi=>
  obtain⟨zs,hz,_,rfl⟩:=h
  have dn:va= .slice none 0 0:=dn
  subst dn
  have oK:gJ ys.2 [ah]=true:=yD fun z hz=>by
   simp only[aq1]
   rintro rfl
   have:=k2 _ hz
   have:=hx.bR
   omega
  refine OW.mono (OW.append hu hT hs hb (Ow.nil e' γ.o ah ys.2 w) k1 hz oK) ?_
  rintro v w' ⟨o',bh,hO⟩
  have MR:ba [] [ah] γ.o w o' w':=⟨bh.os,bh.tape,bh.output,bh.size,bh.dW,bh.new,fun b hb _=>bh.jP b hb (by
   simp only[aq1]
   exact hx.nw hb (aqM _) (by omega))⟩
  exact Ea (fz:=[]) hx k2 (by simp) (fun h=>(h rfl).elim) MR hO
 |ch i e1 j off ct m dd=>
  obtain⟨ao,l',ho,rfl,h⟩:=h
  cases ao with
  |box=>exact h.elim
  |sl=>exact h.elim
  |fi=>exact h.elim
  |fz=>exact h.elim
  |mp=>exact h.elim
  |bU e2 te tc q xs gx h0=>
   dsimp only at h
   split at h
   case isFalse=>exact h.elim
   rename_i hc
   have hq:=h
   clear h
   simp only[aqL,arC] at hc
   obtain⟨⟨⟨⟨⟨⟨c1,c2⟩,c3⟩,c4⟩,c5⟩,c6⟩,c7⟩:=hc
   have c1:=aqK c1
   have c2:=aqK c2
   have c4:=aqK c4
   have c5:=aqK c5
   have c6:=aqK c6
   subst c1 c2 c4 c5 c6
   have MY:ct≠0:=fun e=>by subst e;simp at c3
   obtain⟨y,hy,hq⟩:=hq
   dsimp only at hq
   split at hq
   case h_2=>exact hq.elim
   rename_i m' d' F6
   split at hq
   case isFalse=>exact hq.elim
   rename_i oI
   subst oI
   obtain⟨zs,hz,hq⟩:=hq
   dsimp only at hq
   split at hq
   case h_2=>exact hq.elim
   rename_i y' er
   obtain⟨qp,pJ,_,rfl⟩:=hq
   have hK:C3 P D e1 tc m':=by
    unfold Tf at c7
    split at c7
    · rename_i p hp
      simp only[aqL] at c7
      have e1':=aqK c7.1
      have NQ:=aqK c7.2
      obtain⟨p1,p2⟩:=p
      subst e1' NQ
      exact hP.kd _ _ _ hp
    · cases c7
   haveI:=hK.one
   haveI:=hK.flat
   obtain⟨hU,⟨_,aqd⟩,_,⟨b0,len,cap,cells,hg,BK,oO⟩,_⟩:=dn
   obtain⟨eJ,_,m1,m2,m3⟩:=hx.ob.ob _ _ ho
   rcases m3 with m3|⟨_,_,alw,m4,m5⟩
   · exact(MY m3).elim
   rw[BK] at m4
   cases m4
   have ka:(T.lv e1)[off]? =some (.sl m'):=by
    have:((T.out e1 y).map DV.l)[off]? =some (.sl m'):=by rw[List.getElem?_map,F6];rfl
    rw[aV.out,xn] at this
    exact this
   have hF:=af2 hR ka
   have hGy:A5 T e1 off m' y=d':=S3 F6
   have hSy:uC T e1 off m' y zs=y':=by unfold uC;rw[er]
   obtain⟨aL,cb,ch⟩:=MS m1 hg
   have T5:(⟨b0,j.toNat*ab.sz (D e1),none⟩:Addr).add off=⟨b0,j.toNat*ab.sz (D e1)+off,none⟩:=H_ _ _ _
   have hE:zk (γ.g i) (ab.sz (D e1)) j ⟨b0,j.toNat*ab.sz (D e1),none⟩:=⟨⟨b0,0,none⟩,len,cap,hg,by rw[H_,Nat.zero_add]⟩
   have hcI:zl (iF γ.o i (γ.g i)) 0 w ((⟨b0,j.toNat*ab.sz (D e1),none⟩:Addr).add off) va:=by
    rw[T5]
    exact⟨cb,by rw[m5 b0 len cap _ hg];exact oO⟩
   refine OW.mono (OW.ao' hF hu hT hs hb m1 hE hcI hy k1 (by rw[hGy];exact hz) (by rw[hSy];exact pJ) rfl) ?_
   rintro v' w' ⟨o',bh,hH⟩
   rw[T5] at hH
   have jn:v'.oneCell'=true:=by
    obtain⟨_,_,_,_,_,_,h4,_⟩:=hH
    exact h4
   have aqc:b0<w.heap.size:=(aq5.1 ch).1
   obtain⟨fu,pN⟩:∃fu:bL,fu=fun b=>if b<w.heap.size then γ.o b else i:=⟨_,rfl⟩
   have uT:∀b,b<w.heap.size→fu b=γ.o b:=fun b hb=>by rw[pN];exact if_pos hb
   have mT:∀b,w.heap.size≤b→fu b=i:=fun b hb=>by rw[pN];exact if_neg (by omega)
   have MR:ba [i] [i] γ.o w fu w':=⟨bh.os,bh.tape,bh.output,bh.size,uT,fun b h1 h2=>by rw[mT b h1];exact aq1.2 rfl,fun b hb hm=>bh.jP b hb fun h1=>hm (by
    have:iF γ.o i (γ.g i) b=1:=by simpa using h1
    rw[(xz this).1];exact aq1.2 rfl)⟩
   refine⟨_,mkPost (M:=[i]) (N:=[i]) (ps:=[]) (g':=ij γ.g ah v') (v':=ee γ.v (ah+16) [⟨.sl e1,qp⟩]) hx.ob MR (by simp[eJ,hU,bT.wr]) (by simp) (by simp) hx.bR (fun i hi=>oP hx hi) (fun i hi=>nz hx (by simp) hi) ⟨.inl hU,kM,(kI _ _ _).symm,jn⟩ ?_⟩
   intro k x hk BG
   obtain⟨rfl,cA⟩:=jZ hk
   cases cA
   refine⟨eJ,.inl hU,jY (γ:=γ) (i:=0) rfl (by omega) rfl,kM,b0,len,cap,(oP hx hU).trans hg, ?_⟩
   show o7 _ te tc (iF fu i (ij γ.g ah v' i)) 0 1 w' (ij γ.g ah v' i) qp ⟨b0,j.toNat*ab.sz (D e1)+off,none⟩ (ij γ.g ah v' ah)
   rw[oP hx hU,kI]
   refine o7.mono (fun b hb h0=>⟨?_,rfl⟩) (fun b hb h1=>⟨?_,rfl⟩) hH
   · by_cases aK:b<w.heap.size
     · rw[bh.dW b aK] at h0
       obtain⟨f1,f2⟩:=xA h0
       exact LB (by rw[uT b aK];exact f1) f2
     · have:=bh.new b (by omega) hb
       simp at this
       omega
   · by_cases aK:b<w.heap.size
     · rw[bh.dW b aK] at h1
       obtain⟨f1,f2⟩:=xz h1
       exact LA (by rw[uT b aK];exact f1) f2
     · refine LA (mT b (by omega)) ?_
       rw[hg]
       show aqH b0 b=false
       cases M6:aqH b0 b with
       |true=>
        have:=aqK M6
        omega
       |false=>rfl
 |_=>exact(h:False).elim
theorem afT [Rd](hP:dh P T)(hx:Cx U ah γ w sl L ob){t e' n:Nat}{x:Operand}{a:A1 D}{va:Value}{r:Int}(ht:au T.bS t=some (e',n))(hu:ev L x=some va)(dn:dR U γ w a va)(h:Q.R ob (Lt a) l r):
  OW P Qx L ⟨d,.call {callee:= .builtin .len,args:= #[x],argTypes:= #[t]},ty,pos,af,gd⟩ w (fun v w'=>∃γ',cJ U ah γ w ob ⟨iv .i64 r (ah+16),[],[]⟩ γ' v w'):=by
 obtain⟨ii,hT⟩:=hP.bS t e' n ht
 unfold Lt at h
 split at h
 · obtain⟨_,rfl⟩:=h
   exact b_ (OW.len ii hu dn.1) (cQ hx rfl)
 · obtain⟨_,rfl⟩:=h
   obtain⟨_,_,_,_,p,c,rfl⟩:=dn
   exact b_ (OW.uB ii hu) (cQ hx rfl)
 · obtain⟨_,rfl⟩:=h
   have dn:va= .slice none 0 0:=dn
   subst dn
   have:=OW.len (P:=P) (Q:=Qx) (L:=L) (w:=w) (d:=d) (ty:=ty) (pos:=pos) (af:=af) (g:=gd) (α:=D n) ii hu (wY (fun _=>True) w)
   exact b_ this (cQ hx rfl)
 · obtain⟨ao,l',ho,rfl,h⟩:=h
   cases ao with
   |box=>exact h.elim
   |fi=>exact h.elim
   |bU n' t' tc q xs g h0=>
    obtain⟨_,rfl⟩:=h
    obtain⟨_,rfl,_⟩:=dn
    obtain⟨_,_,h1,_⟩:=hx.ob.ob _ _ ho
    exact b_ (OW.len ii hu h1.rv) (cQ hx rfl)
   |mp=>exact h.elim
   |fz n' xs K=>
    obtain⟨_,rfl⟩:=h
    obtain⟨_,rfl,_⟩:=dn
    obtain⟨_,_,h1,_⟩:=hx.ob.ob _ _ ho
    exact b_ (OW.len ii hu h1) (cQ hx rfl)
   |sl n' t' xs K g=>
    obtain⟨_,rfl⟩:=h
    obtain⟨_,rfl,_⟩:=dn
    obtain⟨_,_,h1,h2,_⟩:=hx.ob.ob _ _ ho
    exact b_ (OW.len ii hu h1.rv) (cQ hx rfl)
 · obtain⟨ao,l',ho,rfl,h⟩:=h
   obtain⟨_,hj0,p,nn,c,e1,e2,e3⟩:=dn
   cases ao with
   |sl n' t' xs K g=>
    dsimp only at h
    split at h
    case isFalse=>exact h.elim
    rename_i hn
    have hn:=aqK hn
    subst hn
    obtain⟨_,rfl⟩:=h
    obtain⟨_,_,h1,h2,_⟩:=hx.ob.ob _ _ ho
    obtain⟨p',vM,f1,_⟩:=om h1.rv
    rw[e1] at f1
    simp only[Value.slice.injEq] at f1
    obtain⟨_,rfl,_⟩:=f1
    have:=OW.uB (P:=P) (Q:=Qx) (L:=L) (w:=w) (d:=d) (ty:=ty) (pos:=pos) (af:=af) (g:=gd) ii (e2▸hu)
    refine b_ this (cQ hx ?_)
    show Value.int .i64 _=Value.int .i64 _
    congr 1
    show((xs.length-_:Nat):Int)=(xs.length:Int)-_
    omega
   |_=>exact h.elim
 · exact h.elim
section
variable {α:Type} [ab α] {t e:TypeId} {o:bL} {T:TypeId} {k:Nat} {K:List Nat}
theorem OW.JS [Rd]{S:Nat→Prop}{u:Operand}{lo hi:Option Operand}{l h:Int}{v:Value}{xs zs:List α}(hu:P.underlying t=some (.slice e))(hT:bz P e α)(hx:ev L u=some v)(hr:Rv S w v xs)(By:tG L lo 0 l)(u_:tG L hi (Dp.len xs) h)(hz:dV xs l h=some zs):
  OW P Qx L ⟨d,.slice t u lo hi none,ty,pos,af,gd⟩ w (fun v' w'=>w'=w∧Rv S w v' zs∧∃p cap,v= .slice p xs.length cap∧xs.length≤cap∧v'= .slice (if cap=l.toNat then p else p.map (·.add (l.toNat*ab.sz α))) (h.toNat-l.toNat) (cap-l.toNat)∧l≤h∧h≤xs.length):=by
 obtain⟨p,cap,rfl,h1,h2,h3⟩:=om hr
 unfold dV at hz
 split at hz
 case isFalse=>cases hz
 rename_i hb
 cases hz
 obtain⟨b1,b2,b3⟩:=hb
 have hlen:((xs.take h.toNat).drop l.toNat).length=h.toNat-l.toNat:=by simp;omega
 refine OW.run fun a ha=>⟨.slice (if cap=l.toNat then p else p.map (·.add (l.toNat*ab.sz α))) (h.toNat-l.toNat) (cap-l.toNat),w, ?_,rfl,⟨_,rfl,_,cap-l.toNat,by rw[hlen],by rw[hlen];omega,by unfold maxLen at*;omega, ?_⟩,p,cap,rfl,h1,rfl,b2,b3⟩
 · have lW:h≤(cap:Int):=by omega
   have u9:(h.toNat:Int)=h:=by omega
   have nG:(l.toNat:Int)=l:=by omega
   rcases By with⟨rfl,rfl⟩|⟨yl,rfl,hl⟩<;>rcases u_ with⟨rfl,rfl⟩|⟨yh,rfl,hh⟩
   · simp[execOp,ha _ _ hx,Instr.sliceAt,run_underlying hu,Instr.slice,Instr.sliceBounds,hT.sizeOf,Dp.len]
   · have b0:0≤h:=by omega
     simp[execOp,ha _ _ hx,ha _ _ hh,Instr.sliceAt,run_underlying hu,Instr.slice,Instr.sliceBounds,Instr.sliceBound,asIntOf,hT.sizeOf,b0,lW]
   · have b0:l≤(xs.length:Int):=by unfold Dp.len at b2;omega
     simp[execOp,ha _ _ hx,ha _ _ hl,Instr.sliceAt,run_underlying hu,Instr.slice,Instr.sliceBounds,Instr.sliceBound,asIntOf,hT.sizeOf,b1,b0,Dp.len]
   · have b0:0≤h:=by omega
     simp[execOp,ha _ _ hx,ha _ _ hl,ha _ _ hh,Instr.sliceAt,run_underlying hu,Instr.slice,Instr.sliceBounds,Instr.sliceBound,asIntOf,hT.sizeOf,b1,b0,lW,u9,b2]
 · by_cases he:(xs.take h.toNat).drop l.toNat=[]
   · exact .inl he
   · have aK:l.toNat<h.toNat:=by
      rcases Nat.lt_or_ge l.toNat h.toNat with hh|hh
      · exact hh
      · exact(he (List.eq_nil_of_length_eq_zero (by omega))).elim
     rcases h3 with rfl|⟨a,aw,rfl,h4,h5,h6⟩
     · simp at he
     · right
       have dy:=h5.lK
       refine⟨a.add (l.toNat*ab.sz α),(aw.take h.toNat).drop l.toNat, ?_,by rw[H'];exact h4,(h5.take _).drop _, ?_⟩
       · rw[if_neg (by omega)];rfl
       · intro j u hj
         rw[tC]
         refine h6 _ _ ?_
         rw[BW (fun c hc=>dy c (List.mem_of_mem_take hc)),vA dy,arM,arh] at hj
         split at hj
         · exact hj
         · cases hj
theorem OW.Rf [Rd]{u:Operand}{hi:Option Operand}{h:Int}{v:Value}{xs zs:List α}(hu:P.underlying t=some (.slice e))(hT:bz P e α)(hx:ev L u=some v)(ho:Ow T o k K w v xs)(u_:tG L hi (Dp.len xs) h)(hz:dV xs 0 h=some zs):
  OW P Qx L ⟨d,.slice t u none hi none,ty,pos,af,gd⟩ w (fun v' w'=>w'=w∧Rv (In o (k::K)) w v' zs∧It v v' h.toNat∧zs=xs.take h.toNat):=by
 refine OW.mono (OW.JS hu hT hx ho.rv (.inl ⟨rfl,rfl⟩) u_ hz) ?_
 rintro v' w' ⟨h1,h2,p,cap,h3,h4,h5,h6,h7⟩
 refine⟨h1,h2,⟨p,_,cap,h3, ?_,by omega⟩, ?_⟩
 · rw[h5]
   have:∀a:Addr,a.add 0=a:=add_zero'
   cases p<;>simp[this]
 · unfold dV at hz
   rw[if_pos ⟨by omega,h6,h7⟩] at hz
   simpa using(are hz).symm
theorem Ow.aeF{v v':Value}{h:Int}{xs zs:List α}(ho:Ow T o k K w v xs)(hp:It v v' h.toNat)(hz:dV xs 0 h=some zs):Ow T o k K w v' zs:=by
 unfold dV at hz
 split at hz
 case isFalse=>cases hz
 cases hz
 simpa using Ow.Ku ho hp
end
theorem adq [Rd](hP:dh P T)(hx:Cx U ah γ w sl L ob){fl:Bool}{t e' n:Nat}{x:Operand}{lo hi:Option Operand}{a:A1 D}{as:List (AV D)}(ht:au T.bS t=some (e',n))(he:dk sl (x::(lo.toList++hi.toList))=some (.c (.one a)::as))(h:Q.R ob (JT fl ah (ah+16) n lo hi a as) l e):
  OW P Qx L ⟨d,.slice t x lo hi none,ty,pos,af,gd⟩ w (fun v w'=>∃γ',cJ U ah γ w ob e γ' v w'):=by
 obtain⟨ii,hT⟩:=hP.bS t e' n ht
 obtain⟨qW,pU⟩:=oU he
 obtain⟨va,hu,dn⟩:=bJ hx.sr qW
 have fK:∀{x:Option Operand} {dl:Int} {as:List (AV D)} {rest:List Operand} {r:Int×List (AV D)} {l:List Nat},dk sl (x.toList++rest)=some as→Q.R ob (tw dl x as) l r→tG L x dl r.1∧dk sl rest=some r.2:=by
  intro x dl as rest r l he h
  cases x with
  |none=>
   obtain⟨_,rfl⟩:=h
   exact⟨.inl ⟨rfl,rfl⟩,he⟩
  |some y=>
   cases as with
   |nil=>have:=oT he;simp at this
   |cons a as=>
    obtain⟨f1,f2⟩:=oU he
    unfold tw at h
    split at h
    · rename_i hh;cases hh
    · rename_i q K' g' gM hh gZ
      cases gZ
      obtain⟨_,rfl⟩:=h
      obtain⟨v,e1,e2⟩:=bJ hx.sr f1
      have e2:v= .int .i64 q:=e2.1
      subst e2
      exact⟨.inr ⟨y,rfl,e1⟩,f2⟩
    · exact(h:False).elim
 have plain:∀{n':Nat} {xs:List (D n')} {K:List Nat} {l:List Nat},Rv (In γ.o K) w va xs→cT K→Q.R ob (oh (ah+16) n lo hi n' xs K as) l e→
   OW P Qx L ⟨d,.slice t x lo hi none,ty,pos,af,gd⟩ w (fun v w'=>∃γ',cJ U ah γ w ob e γ' v w'):=by
  intro n' xs K l k1 k3 hq
  clear h
  unfold oh at hq
  split at hq
  case isFalse=>exact(hq:False).elim
  rename_i hn
  have hn:=aqK hn
  subst hn
  obtain⟨l1,l2,r1,_,h1,hq⟩:=Q.dZ hq
  obtain⟨l3,l4,r2,_,h2,hq⟩:=Q.dZ hq
  split at hq
  case h_2=>exact(hq:False).elim
  rename_i Bs
  obtain⟨zs,hz,_,rfl⟩:=hq
  obtain⟨b1,b2⟩:=fK pU h1
  obtain⟨b3,b4⟩:=fK (rest:=[]) (by simpa using b2) h2
  refine OW.mono (OW.slice ii hT hu k1 b1 b3 hz) ?_
  rintro v w' ⟨rfl,hr⟩
  exact⟨_,xi hx [⟨.sl n',zs⟩] (by simp) ⟨hr,jY (γ:=γ) (i:=0) rfl (by omega) rfl,k3⟩⟩
 cases a with
 |v lf xs K g=>
  cases lf with
  |sl n'=>
   have h:Q.R ob (oh (ah+16) n lo hi n' xs K as) _ e:=h
   exact plain dn.1 dn.2.2 h
  |_=>exact(h:False).elim
 |bi=>
  have dn:va= .slice none 0 0:=dn
  subst dn
  unfold JT at h
  dsimp only at h
  obtain⟨l1,l2,r1,_,h1,hq⟩:=Q.dZ h
  obtain⟨l3,l4,r2,_,h2,hq⟩:=Q.dZ hq
  split at hq
  case h_2=>exact(hq:False).elim
  rename_i Bs
  obtain⟨zs,hz,_,rfl⟩:=hq
  obtain⟨b1,b2⟩:=fK pU h1
  obtain⟨b3,b4⟩:=fK (rest:=[]) (by simpa using b2) h2
  have kD:∃ys,dV ([]:List (D n)) r1.1 r2.1=some ys:=by
   have uI:=hz
   unfold dV at uI
   split at uI
   case isFalse=>cases uI
   rename_i hb
   exact⟨_,if_pos hb⟩
  obtain⟨ys,kD⟩:=kD
  refine OW.mono (OW.JS (xs:=([]:List (D n))) ii hT hu (wY (fun _=>True) w) b1 b3 kD) ?_
  rintro v w' ⟨rfl,_,p,cap,e1,e2,e3,e4,e5⟩
  unfold dV at hz
  split at hz
  case isFalse=>cases hz
  rename_i hb
  have hv:v= .slice none 0 0:=by
   simp only[Value.slice.injEq] at e1
   obtain⟨rfl,_,rfl⟩:=e1
   have l0:r1.1.toNat=0:=by have:=hb.1;have:=hb.2.1;have:=hb.2.2;unfold Dp.len at this;simp at this;omega
   have h0:r2.1.toNat=0:=by have:=hb.2.2;unfold Dp.len at this;simp at this;omega
   rw[e3,l0,h0]
   simp
  exact⟨γ,kV hx hv⟩
 |own i=>
  obtain⟨ao,l',ho,rfl,h⟩:=h
  obtain⟨hU,rfl,_⟩:=dn
  cases ao with
  |box=>exact(h:False).elim
  |bU=>exact(h:False).elim
  |fi=>exact(h:False).elim
  |mp=>exact h.elim
  |fz n' xs K=>
   obtain⟨_,_,k1,k2⟩:=hx.ob.ob _ _ ho
   exact plain k1 k2 h
  |sl n' t' xs K g=>
   dsimp only at h
   split at h
   case h_2=>
    rename_i _ lo1
    split at h
    case h_2=>exact(h:False).elim
    split at h
    case isFalse=>exact(h:False).elim
    rename_i hn
    have hn:=aqK hn
    subst hn
    obtain⟨l1,l2,r2,_,h2,h⟩:=Q.dZ h
    split at h
    case h_2=>exact(h:False).elim
    rename_i Bs
    obtain⟨zs,hz,_,rfl⟩:=h
    obtain⟨_,_,m1,_⟩:=hx.ob.ob _ _ ho
    obtain⟨b3,b4⟩:=fK (rest:=[]) (by simpa using pU) h2
    refine OW.mono (OW.JS ii hT hu m1.rv b3 (.inl ⟨rfl,rfl⟩) hz) ?_
    rintro v w' ⟨rfl,_,p,cap,e1,e2,e3,e4,e5⟩
    have hz0:0≤r2.1:=by
     unfold dV at hz
     split at hz
     case isFalse=>cases hz
     rename_i hb
     exact hb.1
    refine⟨γ,kV hx ⟨hU,hz0,p,xs.length,cap,e1, ?_, ?_⟩⟩
    · rw[e3]
      unfold Dp.len
      simp
    · unfold Dp.len at e4
      omega
   split at h
   case isFalse=>exact(h:False).elim
   rename_i hn
   have hn:=aqK hn
   subst hn
   obtain⟨l1,l2,r2,_,h2,h⟩:=Q.dZ h
   split at h
   case h_2=>exact(h:False).elim
   rename_i Bs
   obtain⟨eJ,_,m1,m2,m3⟩:=hx.ob.ob _ _ ho
   obtain⟨b3,b4⟩:=fK (rest:=[]) (by simpa using pU) h2
   cases fl with
   |true=>
    obtain⟨zs,hz,_,rfl⟩:=h
    refine OW.mono (OW.Rf ii hT hu m1 b3 hz) ?_
    rintro v w' ⟨rfl,_,hp,_⟩
    exact⟨γ,kV hx ⟨hU,hp⟩⟩
   |false=>
   obtain⟨zs,hz,_,rfl⟩:=h
   refine OW.mono (OW.Rf ii hT hu m1 b3 hz) ?_
   rintro v w' ⟨rfl,_,hp,_⟩
   have hO:=Ow.aeF m1 hp hz
   have dQ:i≠ah:=fun e=>hx.fresh ah (aqM _) (by omega) (e▸hU)
   have lm:∀{j:Nat} {x:AO D},au [(ah,some (AO.sl n' t' zs K (ah+16))),(i,none)] j=some (some x)→j=ah∧x= .sl n' t' zs K (ah+16):=by
    intro j x hj
    have:=cz hj
    simp only[aqR,arP,arc,or_false,aq3,reduceCtorEq,and_false] at this
    exact this
   have uO:∀z,z≠i→rel [(i,ah)] z=z:=fun z hz=>by
    unfold rel
    split
    · rename_i y hy
      have:=(jZ hy).1
      exact(hz this.symm).elim
    · rfl
   have Bm:rel [(i,ah)] i=ah:=by simp[rel,au]
   refine⟨_,mkPost (M:=[]) (N:=[]) (ps:=[(i,ah)]) (g':=ij γ.g ah v) (v':=ee γ.v (ah+16) [⟨.sl n',zs⟩]) hx.ob (ba.refl _ _ _ _) (by simp) (by simp) (by simp[eJ,bT.wr]) hx.bR (fun i hi=>oP hx hi) (fun i hi=>nz hx (by simp) hi) ⟨kM,(kI _ _ _).symm,hO.one⟩ ?_⟩
   intro j x hj BG
   obtain⟨rfl,rfl⟩:=lm hj
   refine⟨hx.bR,kM, ?_,m2,jY (γ:=γ) (i:=0) rfl (by omega) rfl⟩
   show Ow t' _ j K w' (ij γ.g j v j) zs
   rw[kI]
   refine Ow.oo (fun b hb=> ?_) (fun b hb=> ?_) hO
   · show rel [(i,j)] (γ.o b)=j
     rw[hb,Bm]
   · have:γ.o b≠i:=fun e=>by
      unfold In at hb
      have:=m2 _ hb
      omega
     show rel [(i,j)] (γ.o b)∈_
     rw[uO _ this]
     exact hb
 |_=>exact(h:False).elim
theorem alo [Rd](hP:dh P T)(hR:bQ T)(hx:Cx U ah γ w sl L ob){t e' n i:Nat}{x:Operand}{v:Value}{j:Int}(ht:au T.bS t=some (e',n))(hu:ev L x=some v)(hv:dR U γ w (.tail i n j) v)
  (h:Q.R ob (.obj i fun
        | .sl n0 te xs K _=>if aqH n0 n then .ret ⟨.cL [],[(i,some (.sl n0 te (nS (T.zero n0) xs j) K (ah+16)))],[]⟩ else .fail
        |_=> .fail) l e):
  OW P Qx L ⟨d,.call {callee:= .builtin .clear,args:= #[x],argTypes:= #[t]},ty,pos,af,gd⟩ w (fun v w'=>∃γ',cJ U ah γ w ob e γ' v w'):=by
 obtain⟨ii,hT⟩:=hP.bS t e' n ht
 obtain⟨ao,l',ho,rfl,h⟩:=h
 cases ao with
 |box=>exact(h:False).elim
 |bU=>exact(h:False).elim
 |fi=>exact(h:False).elim
 |fz=>exact(h:False).elim
 |mp=>exact(h:False).elim
 |sl n0 te xs K g=>
  dsimp only at h
  split at h
  case isFalse=>exact(h:False).elim
  rename_i hn
  have hn:=aqK hn
  subst hn
  obtain⟨_,rfl⟩:=h
  obtain⟨hU,_,xK⟩:=hv
  obtain⟨eJ,_,m1,m2,_⟩:=hx.ob.ob _ _ ho
  have oK:gJ K [i]=true:=yD fun z hz=>by
   simp only[aq1]
   rintro rfl
   have:=m2 _ hz
   omega
  refine OW.mono (OW.alp ii hT hu m1 xK oK) ?_
  rintro v' w' ⟨rfl,bh,hO⟩
  rw[hR.zero] at hO
  refine⟨_,mkPost (M:=[i]) (N:=[]) (ps:=[]) (g':=γ.g) (v':=ee γ.v (ah+16) [⟨.sl n0,nS (T.zero n0) xs j⟩]) hx.ob bh (by simp[eJ,hU,bT.wr]) (by simp) (by simp) hx.bR (fun _ _=>rfl) (fun i hi=>nz hx (by simp) hi) ⟨[],rfl,trivial⟩ ?_⟩
  intro k x hk gY
  obtain⟨rfl,cA⟩:=jZ hk
  cases cA
  exact⟨eJ,.inl hU,hO,m2,jY (γ:=γ) (i:=0) rfl (by omega) rfl⟩
theorem VP [Rd](hP:dh P T)(hR:bQ T)(hx:Cx U ah γ w sl L ob){t e' n i:Nat}{x y:Operand}{vb v:Value}{j:Int}{ys:List (D n)×List Nat}(ht:au T.bS t=some (e',n))(hu:ev L x=some v)(hU:U i)(j0:0≤j)
  (hv:∀{T':TypeId} {K:List Nat} {xs:List (D n)},Ow T' γ.o i K w (γ.g i) xs→CY (ab.sz (D n)) (γ.g i) v j.toNat) (hb:ev L y=some vb) (hE:dM (In γ.o ys.2) w vb ys.1) (pL:cT ys.2) (h:Q.R ob (GW T ah n i j ys) l e):
  OW P Qx L ⟨d,.call {callee:= .builtin .copy,args:= #[x,y],argTypes:= #[t,t]},ty,pos,af,gd⟩ w (fun v w'=>∃γ',cJ U ah γ w ob e γ' v w'):=by
 obtain⟨ii,hT⟩:=hP.bS t e' n ht
 unfold GW at h
 obtain⟨ao,l',ho,rfl,h⟩:=h
 cases ao with
 |box=>exact(h:False).elim
 |bU=>exact(h:False).elim
 |fi=>exact(h:False).elim
 |fz=>exact(h:False).elim
 |mp=>exact(h:False).elim
 |sl n0 te xs K g=>
  dsimp only at h
  split at h
  case isFalse=>exact(h:False).elim
  rename_i hn
  subst hn
  obtain⟨_,rfl⟩:=h
  obtain⟨eJ,_,m1,m2,_⟩:=hx.ob.ob _ _ ho
  have hK:cT (ys.2++K):=fun z hz=>by
   rcases aqP.1 hz with hz|hz
   · exact pL z hz
   · exact m2 z hz
  have oK:gJ (ys.2++K) [i]=true:=yD fun z hz=>by
   simp only[aq1]
   rintro rfl
   have:=hK _ hz
   omega
  have AZ:Ow te γ.o i (ys.2++K) w (γ.g i) xs:=Ow.oo (fun _ h=>h) (fun b hb=>by unfold In at hb⊢;simp[hb]) m1
  have xK:=hv m1
  have bW:j.toNat≤xs.length:=by
   obtain⟨p,m,c,q1,_,q3⟩:=xK
   rcases m1 with⟨q,rfl⟩|⟨gg,cap,aL,aw,q,_⟩
   · rw[q] at q1;cases q1;exact q3
   · rw[q] at q1;cases q1;exact q3
  refine OW.mono (OW.ak' ii hT hu hb AZ xK (dM.weaken (fun b hb=>by unfold In at hb⊢;simp[hb]) hE) oK) ?_
  rintro v' w' ⟨rfl,bh,hO⟩
  have jH:((min ys.1.length (xs.length-j.toNat):Nat):Int)=Ca (len xs) j (len ys.1):=by
   unfold Ca len
   split<;>omega
  refine⟨_,mkPost (M:=[i]) (N:=[]) (ps:=[]) (g':=γ.g) (v':=ee γ.v (ah+16) [⟨.sl n0,GU xs j ys.1⟩]) hx.ob bh (by simp[eJ,hU,bT.wr]) (by simp) (by simp) hx.bR (fun _ _=>rfl) (fun i hi=>nz hx (by simp) hi) ?_ ?_⟩
  · rw[jH]
    exact⟨rfl,E7 _,jf⟩
  · intro k x hk gY
    obtain⟨rfl,cA⟩:=jZ hk
    cases cA
    exact⟨eJ,.inl hU,hO,hK,jY (γ:=γ) (i:=0) rfl (by omega) rfl⟩
theorem ak_ [Rd](hP:dh P T)(hR:bQ T)(hx:Cx U ah γ w sl L ob){t e' n:Nat}{s x:Operand}{a b:A1 D}{va vb:Value}(ht:au T.bS t=some (e',n))(hs:ev L s=some va)(dn:dR U γ w a va)(hb:ev L x=some vb)(L4:dR U γ w b vb)
  (h:Q.R ob (N2 T ah n a b) l e):
  OW P Qx L ⟨d,.call {callee:= .builtin .copy,args:= #[s,x],argTypes:= #[t,t]},ty,pos,af,gd⟩ w (fun v w'=>∃γ',cJ U ah γ w ob e γ' v w'):=by
 unfold N2 at h
 obtain⟨l1,l2,y0,_,h1,h⟩:=Q.dZ h
 obtain⟨xC,Fx⟩:=Km hx.ob h1 L4
 have kf:dM (In γ.o (p7 T n y0.2)) w vb y0.1∧cT (p7 T n y0.2):=by
  unfold p7
  split
  · rename_i hf
    haveI:=hR.flat hf
    exact⟨dM.flat xC,fun z hz=>by cases hz⟩
  · exact⟨xC,Fx⟩
 cases a with
 |own i=>
  obtain⟨hU,rfl,_⟩:=dn
  refine VP hP hR hx ht hs hU (Int.le_refl 0) (fun m1=> ?_) hb kf.1 kf.2 h
  rcases m1 with⟨q,rfl⟩|⟨gg,cap,aL,aw,q,_⟩
  · exact⟨_,_,_,q,by rw[q];simp,arj _⟩
  · refine⟨_,_,_,q, ?_,arj _⟩
    rw[q]
    have dL:(⟨gg,0,none⟩:Addr).add 0=⟨gg,0,none⟩:=H_ gg 0 0
    simp[dL]
 |tail i n' j=>
  dsimp only at h
  split at h
  case isFalse=>exact(h:False).elim
  rename_i hn
  have hn:=aqK hn
  subst hn
  obtain⟨hU,j0,xK⟩:=dn
  exact VP hP hR hx ht hs hU j0 (fun _=>xK) hb kf.1 kf.2 h
 |_=>exact(h:False).elim
theorem pz [Rd](hx:Cx U ah γ w sl L ob){op:Op}{v:Value}{a:AV D}(h1:Dp.pv L op=some v)(h2:eM U γ w a v):OW P Qx L ⟨d,op,ty,pos,af,gd⟩ w (fun v w'=>∃γ',cJ U ah γ w ob ⟨a,[],[]⟩ γ' v w'):=b_ (OW.pv h1) (kV hx h2)
theorem R5 [Rd](hx:Cx U ah γ w sl L ob){op:Op}{v:Value}{lf:Lf}{x:lf.den D}(h1:Dp.pv L op=some v)(h2:cq (In γ.o []) w v ⟨lf,x⟩):OW P Qx L ⟨d,op,ty,pos,af,gd⟩ w (fun v w'=>∃γ',cJ U ah γ w ob ⟨.c (.one (.v lf x [] (ah+16))),[],[]⟩ γ' v w'):=b_ (OW.pv h1) (cQ hx h2)
theorem G6(hs:SR U γ w sl L):∀{xs:List Operand} {as:List (AV D)} {cs:List (A0 D)},dk sl xs=some as→xm.yI as=some cs→∃vs,lA L xs=some vs∧jR U γ w cs vs
 |[],as,cs,h,hc=>by
  simp only[dk,aq3] at h
  subst h
  simp only[xm.yI,aq3] at hc
  subst hc
  exact⟨[],rfl,trivial⟩
 |x::r,as,cs,h,hc=>by
  cases as with
  |nil=>have:=oT h;simp at this
  |cons a as=>
   obtain⟨h1,h2⟩:=oU h
   obtain⟨v,e1,e2⟩:=bJ hs h1
   unfold xm.yI at hc
   split at hc
   · rename_i hh;cases hh
   · rename_i i off r' gZ
     cases gZ
     split at hc
     · rename_i l' hl
       cases hc
       obtain⟨vs,e3,e4⟩:=G6 hs h2 hl
       exact⟨v::vs,by simp[lA,e1,e3],e2,e4⟩
     · cases hc
   · rename_i n y off K r' gZ
     cases gZ
     split at hc
     · rename_i l' hl
       cases hc
       obtain⟨vs,e3,e4⟩:=G6 hs h2 hl
       exact⟨v::vs,by simp[lA,e1,e3],e2,e4⟩
     · cases hc
   · cases hc
theorem EW{c:Array Operand}{a:AV D}(h:dk sl c.toList=some [a]):∃x,c= #[x]∧dm sl x=some a:=by
 obtain⟨l⟩:=c
 have:=oT h
 match l,this with
 |[x],_=>exact⟨x,rfl,kJ h⟩
theorem AR{c:Array Operand}{a b:AV D}(h:dk sl c.toList=some [a,b]):∃x y,c= #[x,y]∧dm sl x=some a∧dm sl y=some b:=by
 obtain⟨l⟩:=c
 have:=oT h
 match l,this with
 |[x,y],_=>exact⟨x,y,rfl,(nP h).1,(nP h).2⟩
theorem Sf{c:Array Operand}{a b d:AV D}(h:dk sl c.toList=some [a,b,d]):∃x y z,c= #[x,y,z]∧dm sl x=some a∧dm sl y=some b∧dm sl z=some d:=by
 obtain⟨l⟩:=c
 have:=oT h
 match l,this with
 |[x,y,z],_=>
  cases h1:dm sl x<;>cases h2:dm sl y<;>cases h3:dm sl z<;>simp[dk,h1,h2,h3] at h
  exact⟨x,y,z,rfl,by rw[h1,h.1],by rw[h2,h.2.1],by rw[h3,h.2.2]⟩
theorem aeU{c:Array Operand}{a b d f:AV D}(h:dk sl c.toList=some [a,b,d,f]):∃x y z u,c= #[x,y,z,u]∧dm sl x=some a∧dm sl y=some b∧dm sl z=some d∧dm sl u=some f:=by
 obtain⟨l⟩:=c
 have:=oT h
 match l,this with
 |[x,y,z,u],_=>
  cases h1:dm sl x<;>cases h2:dm sl y<;>cases h3:dm sl z<;>cases h4:dm sl u<;>simp[dk,h1,h2,h3,h4] at h
  exact⟨x,y,z,u,rfl,by rw[h1,h.1],by rw[h2,h.2.1],by rw[h3,h.2.2.1],by rw[h4,h.2.2.2]⟩
theorem ae4 [Rd](hP:dh P T)(hR:bQ T)(hx:Cx U ah γ w sl L ob){op:Op}{as:List (AV D)}(he:dk sl op.operands.toList=some as)(h:Q.R ob (xm T ah op as) l e):
  OW P Qx L ⟨d,op,ty,pos,af,gd⟩ w (fun v w'=>∃γ',cJ U ah γ w ob e γ' v w'):=by
 unfold xm at h
 split at h
 ·
  obtain⟨_,rfl⟩:=h
  obtain⟨v,h1,h2⟩:=bJ hx.sr (kJ he)
  exact pz hx h1 h2
 ·
  obtain⟨_,rfl⟩:=h
  obtain⟨v,h1,h2⟩:=bJ hx.sr (kJ he)
  exact pz hx h1 h2
 ·
  rename_i c a b _ _ _
  split at h
  case h_2=>exact(h:False).elim
  rename_i dd K g
  obtain⟨e1,e2,e3⟩:=Vx he
  obtain⟨v1,h1,iY⟩:=bJ hx.sr e1
  obtain⟨v2,h2,Gi⟩:=bJ hx.sr e2
  obtain⟨v3,h3,yc⟩:=bJ hx.sr e3
  have ajG:v1= .bool dd:=iY.1
  subst ajG
  cases dd with
  |true=>
   obtain⟨_,rfl⟩:=h
   exact pz hx (by simp only[Dp.pv,h1];exact h2) Gi
  |false=>
   obtain⟨_,rfl⟩:=h
   exact pz hx (by simp only[Dp.pv,h1];exact h3) yc
 ·
  obtain⟨e1,e2⟩:=nP he
  split at h
  · split at h
    case h_2=>exact(h:False).elim
    rename_i n hn
    exact akK hP hx hn e1 e2 h
  · split at h
    case h_2=>exact(h:False).elim
    rename_i hn
    exact CQ hP hx hn e1 e2 h
  · split at h
    case h_2=>exact(h:False).elim
    rename_i q hq
    obtain⟨te,n⟩:=q
    exact afb (hP.bS _ _ _ hq).1 hx e1 e2 h
  · exact ao5 hx e1 e2 h
 ·
  split at h
  case h_2=>exact(h:False).elim
  obtain⟨_,rfl⟩:=h
  obtain⟨v,h1,h2⟩:=bJ hx.sr (kJ he)
  have h2:=h2.1
  dsimp only[cq] at h2
  subst h2
  exact R5 hx (by simp only[Dp.pv,h1]) rfl
 ·
  split at h
  case h_2=>exact(h:False).elim
  obtain⟨_,rfl⟩:=h
  obtain⟨v,h1,h2⟩:=bJ hx.sr (kJ he)
  have h2:=h2.1
  dsimp only[cq] at h2
  subst h2
  exact R5 hx (by simp only[Dp.pv,h1]) rfl
 ·
  split at h
  · obtain⟨_,rfl⟩:=h
    obtain⟨v,h1,h2⟩:=bJ hx.sr (kJ he)
    obtain⟨hU,b,hg,rfl⟩:=id h2
    exact pz hx (by simp only[Dp.pv,h1,dJ]) h2
  · obtain⟨_,rfl⟩:=h
    obtain⟨v,h1,h2⟩:=bJ hx.sr (kJ he)
    obtain⟨pa,rfl,_⟩:=id h2
    exact pz hx (by simp only[Dp.pv,h1]) h2
  · obtain⟨_,rfl⟩:=h
    obtain⟨v,h1,h2⟩:=bJ hx.sr (kJ he)
    obtain⟨_,_,_,_,b,len,cap,_,rfl⟩:=id h2
    exact pz hx (by simp only[Dp.pv,h1,dJ]) h2
  · exact(h:False).elim
 ·
  split at h
  case h_2=>exact(h:False).elim
  split at h
  case h_2=>exact(h:False).elim
  rename_i i _ ll x cA
  obtain⟨_,rfl⟩:=h
  obtain⟨v,h1,us,rfl,h2⟩:=bJ hx.sr (kJ he)
  have:∀{ll:List (AC D)} {us:List Value} {i:Nat} {x:AC D},gP U γ w ll us→ll[i]? =some x→∃u,us[i]? =some u∧kl U γ w x u:=by
   intro ll
   induction ll with
   |nil=>intro us i x _ h;simp at h
   |cons a ll ih=>
    intro us i x h hi
    cases us with
    |nil=>exact h.elim
    |cons u us=>
     cases i with
     |zero=>cases hi;exact⟨u,rfl,h.1⟩
     |succ i=>simpa using ih h.2 (by simpa using hi)
  obtain⟨u,h3,h4⟩:=this h2 cA
  exact pz hx (by simp only[Dp.pv,h1];simpa using h3) h4
 ·
  rename_i _ _ t x i a
  have KH:∀{o:Nat},KI T t i=some o→eZ P t i o:=by
   intro o ho
   unfold KI at ho
   split at ho
   · rename_i pl lT
     split at ho
     · rename_i p hp
       cases ho
       exact(hP.oR t pl lT).2 i p.1 p.2 hp
     · cases ho
   · cases ho
  obtain⟨v,h1,h2⟩:=bJ hx.sr (kJ he)
  split at h
  · rename_i o j off ho
    obtain⟨_,rfl⟩:=h
    obtain⟨hU,b,hg,rfl⟩:=h2
    have:=OW.Ny (P:=P) (Q:=Qx) (L:=L) (w:=w) (d:=d) (ty:=ty) (pos:=pos) (af:=af) (g:=gd) (KH ho) h1
    refine b_ this (kV hx ⟨hU,b,hg, ?_⟩)
    unfold dJ Addr.add
    split<;>simp_all
  · rename_i o n y off K ho
    obtain⟨_,rfl⟩:=h
    obtain⟨pa,rfl,h3,h4⟩:=h2
    have:=OW.Ny (P:=P) (Q:=Qx) (L:=L) (w:=w) (d:=d) (ty:=ty) (pos:=pos) (af:=af) (g:=gd) (KH ho) h1
    exact b_ this (kV hx ⟨pa,by rw[tC],h3,h4⟩)
  · rename_i o j n k y off tc tj ho
    obtain⟨_,rfl⟩:=h
    obtain⟨h3,h4,h5,h6,b,len,cap,h7,rfl⟩:=h2
    have:=OW.Ny (P:=P) (Q:=Qx) (L:=L) (w:=w) (d:=d) (ty:=ty) (pos:=pos) (af:=af) (g:=gd) (KH ho) h1
    refine b_ this (kV hx ⟨h3,h4,h5,h6,b,len,cap,h7, ?_⟩)
    unfold dJ Addr.add
    split<;>simp_all<;>omega
  · exact(h:False).elim
 ·
  split at h
  case h_2=>exact(h:False).elim
  rename_i cd p ht
  obtain⟨v,h1,h2⟩:=bJ hx.sr (kJ he)
  exact afN hP hR hx ht h1 h2 h
 ·
  split at h
  case h_2=>exact(h:False).elim
  rename_i cd p ht
  obtain⟨e1,e2⟩:=nP he
  obtain⟨v,h1,h2⟩:=bJ hx.sr e1
  obtain⟨v',h3,h4⟩:=bJ hx.sr e2
  exact acW hP hR hx ht h1 h2 h3 h4 h
 ·
  split at h
  case h_2=>exact(h:False).elim
  rename_i cs fm
  split at h
  case isFalse=>exact(h:False).elim
  rename_i hs
  obtain⟨_,rfl⟩:=h
  obtain⟨v,h1,h2⟩:=bJ hx.sr (kJ he)
  exact ao1 hx h1 h2 fm hs
 ·
  split at h
  case h_2=>exact(h:False).elim
  rename_i cd ht
  split at h
  case h_2=>exact(h:False).elim
  rename_i cs hz
  obtain⟨_,rfl⟩:=h
  exact ape hP hx ht hz
 ·
  split at h
  · rename_i m e' n ht
    split at h
    case isFalse=>exact(h:False).elim
    rename_i hb
    simp only[aqL] at hb
    obtain⟨l1,l2,r,_,h1,h2⟩:=Q.dZ h
    split at h2
    · split at h2
      case isFalse=>exact(h2:False).elim
      rename_i dG
      simp only[aqL,List.isEmpty_iff] at dG
      obtain⟨_,rfl⟩:=h2
      exact aoQ hP hR hx ht hb.1 (aqK hb.2) he h1 dG.1 (aqT dG.2)
    obtain⟨_,rfl⟩:=h2
    exact aoP hP hR hx ht hb.1 (aqK hb.2) he h1
  split at h
  case h_2=>exact(h:False).elim
  rename_i n pl ht hl
  split at h
  case h_2=>exact(h:False).elim
  rename_i cs fm
  obtain⟨_,rfl⟩:=h
  exact aoM hP hx ht hl he fm
 ·
  split at h
  case h_4=>exact(h:False).elim
  case h_3=>
   rename_i x K' g j K2 tj oE
   split at h
   case h_2=>exact(h:False).elim
   rename_i bZ
   obtain⟨c,hc,_,rfl⟩:=h
   obtain⟨e1,e2⟩:=nP he
   obtain⟨v,g1,g2⟩:=bJ hx.sr e1
   obtain⟨v',g3,g4⟩:=bJ hx.sr e2
   have g5:v'= .int .i64 j:=g4.1
   have g6:v= .string x:=g2.1
   subst g5 g6
   exact b_ (OW.agG (hP.ty _ _ bZ).2 g1 g3 hc) (cQ hx rfl)
  case h_2=>
   rename_i m e' n cs j K' tj ht
   split at h
   · exact(h:False).elim
   rename_i M9
   obtain⟨l1,l2,x,_,h1,h⟩:=Q.dZ h
   split at h
   case isFalse=>exact(h:False).elim
   rename_i hb
   simp only[aqL,List.isEmpty_iff] at hb
   obtain⟨y,hy,h⟩:=h
   dsimp only at h
   split at h
   case h_2=>exact(h:False).elim
   rename_i r hr
   obtain⟨_,rfl⟩:=h
   obtain⟨e1,e2⟩:=nP he
   obtain⟨v,g1,us,rfl,g2⟩:=bJ hx.sr e1
   obtain⟨v',g3,g4⟩:=bJ hx.sr e2
   have g5:v'= .int .i64 j:=g4.1
   subst g5
   have g6:=aph hR hx.ob (by simpa using M9) h1 g2 hb.1
   exact Tm hP hR hx ht (aqK hb.2) g1 g6 g3 hy hr
  rename_i m e' n n' xs K j K' tj ht
  split at h
  case isFalse=>exact(h:False).elim
  rename_i hb
  simp only[aqL] at hb
  obtain⟨hn,hm⟩:=hb
  have hn:=aqK hn
  subst hn
  obtain⟨y,hy,h⟩:=h
  dsimp only at h
  split at h
  case h_2=>exact(h:False).elim
  rename_i r hr
  obtain⟨_,rfl⟩:=h
  obtain⟨e1,e2⟩:=nP he
  obtain⟨v,h1,h2⟩:=bJ hx.sr e1
  obtain⟨v',h3,h4⟩:=bJ hx.sr e2
  have h5:v'= .int .i64 j:=h4.1
  subst h5
  exact Tm hP hR hx ht (aqK hm) h1 h2 h3 hy hr
 ·
  split at h
  case h_2=>exact(h:False).elim
  rename_i e' n ht
  split at h
  case isFalse=>exact(h:False).elim
  rename_i hb
  simp only[aqL] at hb
  obtain⟨l1,l2,r,_,h1,h2⟩:=Q.dZ h
  obtain⟨_,rfl⟩:=h2
  exact aoN hP hR hx ht hb.1.1 (aqK hb.1.2) (aqT hb.2) he h1
 ·
  split at h
  case h_3=>exact(h:False).elim
  case h_2=>
   rename_i io _ _ _ b off j K tj ht
   split at h
   case h_2=>exact(h:False).elim
   rename_i m e' n q har
   split at h
   case isFalse=>exact(h:False).elim
   rename_i hq
   obtain⟨_,rfl⟩:=h
   obtain⟨e1,e2⟩:=nP he
   obtain⟨v,h1,h2⟩:=bJ hx.sr e1
   obtain⟨hU,c,hg,rfl⟩:=h2
   have hA:=hP.ml _ _ _ _ har
   have:=OW.agv (P:=P) (Q:=Qx) (L:=L) (w:=w) (d:=d) (ty:=ty) (pos:=pos) (af:=af) (g:=gd) (i:= .const (.int .i64 (Int.ofNat q))) hA.qu hA.el h1 rfl (aqT hq)
   refine b_ this (kV hx ⟨hU,c,hg, ?_⟩)
   rw[hR.sz]
   unfold dJ Addr.add
   split<;>simp_all
  rename_i e' n a j K tj ht
  obtain⟨e1,e2⟩:=nP he
  obtain⟨v,h1,h2⟩:=bJ hx.sr e1
  obtain⟨v',h3,h4⟩:=bJ hx.sr e2
  have h5:v'= .int .i64 j:=h4.1
  subst h5
  exact agE hP hx ht h1 h2 h3 h4.2.1 h
 ·
  split at h
  case h_2=>exact(h:False).elim
  rename_i e' n m K g ht
  split at h
  case isFalse=>exact(h:False).elim
  rename_i hs
  obtain⟨zs,hz,h⟩:=h
  obtain⟨e1,e2⟩:=nP he
  obtain⟨v,h1,h2⟩:=bJ hx.sr e1
  have h5:v= .int .i64 m:=h2.1
  subst h5
  dsimp only at h
  split at h
  · rename_i tc q hk
    obtain⟨_,rfl⟩:=h
    exact afs hP hR hx ht hk h1 hs hz
  · obtain⟨_,rfl⟩:=h
    exact afq hP hR hx ht h1 hs hz
 ·
  rename_i _ _ t x lo hi a gM
  split at h
  case h_2=>exact(h:False).elim
  rename_i e' n a ht
  exact adq hP hx ht (by simpa[Op.operands] using he) h
 ·
  split at h
  case h_2=>exact(h:False).elim
  rename_i kt vt n ht
  obtain⟨_,rfl⟩:=h
  exact afr hx
 ·
  split at h
  case h_2=>exact(h:False).elim
  rename_i kt vt n ht
  obtain⟨e1,e2⟩:=nP he
  exact afk hP hR hx ht e1 e2 h
 ·
  split at h
  case h_2=>exact(h:False).elim
  rename_i kt vt n ht
  obtain⟨e1,e2,e3⟩:=Vx he
  exact afg hP hR hx ht e1 e2 e3 h
 ·
  split at h
  case h_4=>exact(h:False).elim
  case h_2=>
   rename_i m0 x K g xN TQ
   split at h
   case h_2=>exact(h:False).elim
   rename_i te n hq
   split at h
   case h_2=>exact(h:False).elim
   rename_i L8
   split at h
   case isFalse=>exact(h:False).elim
   rename_i ka
   obtain⟨xs,dj,_,rfl⟩:=h
   obtain⟨v,h1,h2⟩:=bJ hx.sr (kJ he)
   have h5:v= .string x:=h2.1
   subst h5
   exact aoL hR hx (hP.ty _ _ xN).2 (hP.bS _ _ _ hq).1 (hP.ty _ _ L8).2 ka h1 dj
  case h_3=>
   rename_i m0 a xN TQ
   split at h
   case h_2=>exact(h:False).elim
   rename_i te n hq
   split at h
   case h_2=>exact(h:False).elim
   rename_i L8
   split at h
   case isFalse=>exact(h:False).elim
   rename_i ka
   obtain⟨l1,l2,r,_,h1,h2⟩:=Q.dZ h
   obtain⟨_,rfl⟩:=h2
   obtain⟨v,h3,h4⟩:=bJ hx.sr (kJ he)
   exact acT hR hx (hP.bS _ _ _ hq).1 (hP.ty _ _ L8).2 (hP.ty _ _ TQ).2 ka h3 (Km hx.ob h1 h4).1
  rename_i k1 k2 k3 n K g hs ht
  obtain⟨v,h1,h2⟩:=bJ hx.sr (kJ he)
  have h5:v= .int _ n:=h2.1
  subst h5
  have u1:P.underlying _=some (.int _):=(hP.ty _ _ hs).2
  have u2:P.underlying _=some (.int _):=(hP.ty _ _ ht).2
  split at h
  · obtain⟨_,rfl⟩:=h
    have:=OW.conv (P:=P) (Q:=Qx) (L:=L) (w:=w) (d:=d) (ty:=ty) (pos:=pos) (af:=af) (g:=gd) ⟨_,u1⟩ u2 h1
    exact b_ this (cQ hx rfl)
  · obtain⟨_,rfl⟩:=h
    refine b_ (v:= .int k2 (k2.wrap n)) (OW.run fun a ha=>⟨_,w, ?_,rfl,rfl⟩) (cQ hx rfl)
    simp[execOp,ha _ _ h1,convert,run_underlying u1,run_underlying u2,Conv.intToInt]
 ·
  rename_i f first fJ
  split at h
  case isFalse=>exact(h:False).elim
  rename_i hf
  split at h
  case h_2=>exact(h:False).elim
  rename_i cs fm
  split at h
  · rename_i h0
    have h0:=aqK h0
    have h0:first= #[]:=by simpa using h0
    subst h0
    obtain⟨_,rfl⟩:=h
    obtain⟨vs,h1,h2⟩:=G6 hx.sr (by simpa[Op.operands] using he) fm
    exact pz hx (v:= .func (.func f) #[] vs.toArray) (by simp[Dp.pv,lA,h1]) ⟨vs,by unfold p6;rw[if_pos hf],h2⟩
  · split at h
    case isFalse=>exact(h:False).elim
    rename_i h0
    have h0:=aqK h0
    have h0:fJ= #[]:=by simpa using h0
    subst h0
    obtain⟨_,rfl⟩:=h
    obtain⟨vs,h1,h2⟩:=G6 hx.sr (by simpa[Op.operands] using he) fm
    have hb:¬Nat.blt (f+1000000) 1000000=true:=fun hh=>by have:=aqT hh;omega
    exact pz hx (v:= .func (.func f) vs.toArray #[]) (by simp[Dp.pv,lA,h1]) ⟨vs,by unfold p6;rw[if_neg hb,Nat.add_sub_cancel],h2⟩
 ·
  rename_i b G5 ts
  have nK:dk sl G5.toList=some as:=by simpa[Op.operands,Call.operands] using he
  split at h
  ·
   split at h
   case h_2=>exact(h:False).elim
   rename_i t bZ
   split at h
   case h_2=>
    split at h
    case h_2=>exact(h:False).elim
    rename_i hty
    obtain⟨_,rfl⟩:=h
    obtain⟨x,rfl,uJ⟩:=EW nK
    obtain⟨v,h3,h4⟩:=bJ hx.sr uJ
    have h5:v= .string _:=h4.1
    subst h5
    have mQ:ts= #[t]:=arV.1 bZ
    subst mQ
    exact b_ (OW.afU (hP.ty _ _ hty).2 h3) (cQ hx rfl)
   rename_i p ht
   obtain⟨e',n⟩:=p
   obtain⟨l1,l2,r,_,h1,h2⟩:=Q.dZ h
   obtain⟨_,rfl⟩:=h2
   obtain⟨x,rfl,uJ⟩:=EW nK
   obtain⟨v,h3,h4⟩:=bJ hx.sr uJ
   have mQ:ts= #[t]:=arV.1 bZ
   subst mQ
   exact afT hP hx ht h3 h4 h1
  ·
   obtain⟨_,rfl⟩:=h
   obtain⟨x,y,rfl,h1,h2⟩:=AR nK
   obtain⟨v,h3,h4⟩:=bJ hx.sr h1
   obtain⟨v',h5,h6⟩:=bJ hx.sr h2
   have h4:=h4.1
   have h6:=h6.1
   dsimp only[cq] at h4 h6
   subst h4 h6
   exact b_ (OW.min h3 h5) (cQ hx rfl)
  ·
   obtain⟨_,rfl⟩:=h
   obtain⟨x,y,rfl,h1,h2⟩:=AR nK
   obtain⟨v,h3,h4⟩:=bJ hx.sr h1
   obtain⟨v',h5,h6⟩:=bJ hx.sr h2
   have h4:=h4.1
   have h6:=h6.1
   dsimp only[cq] at h4 h6
   subst h4 h6
   exact b_ (OW.max h3 h5) (cQ hx rfl)
  ·
   obtain⟨_,rfl⟩:=h
   obtain⟨x,y,z,rfl,h1,h2,h0⟩:=Sf nK
   obtain⟨v,h3,h4⟩:=bJ hx.sr h1
   obtain⟨v',h5,h6⟩:=bJ hx.sr h2
   obtain⟨QO,h7,h8⟩:=bJ hx.sr h0
   have h4:=h4.1
   have h6:=h6.1
   have h8:=h8.1
   dsimp only[cq] at h4 h6 h8
   subst h4 h6 h8
   exact b_ (OW.afn h3 h5 h7) (cQ hx rfl)
  ·
   obtain⟨_,rfl⟩:=h
   obtain⟨x,y,z,u,rfl,h1,h2,h0,h9⟩:=aeU nK
   obtain⟨v,h3,h4⟩:=bJ hx.sr h1
   obtain⟨v',h5,h6⟩:=bJ hx.sr h2
   obtain⟨QO,h7,h8⟩:=bJ hx.sr h0
   obtain⟨v4,g7,g8⟩:=bJ hx.sr h9
   have h4:=h4.1
   have h6:=h6.1
   have h8:=h8.1
   have g8:=g8.1
   dsimp only[cq] at h4 h6 h8 g8
   subst h4 h6 h8 g8
   exact b_ (OW.afm h3 h5 h7 g7) (cQ hx rfl)
  ·
   obtain⟨_,rfl⟩:=h
   obtain⟨x,y,z,rfl,h1,h2,h0⟩:=Sf nK
   obtain⟨v,h3,h4⟩:=bJ hx.sr h1
   obtain⟨v',h5,h6⟩:=bJ hx.sr h2
   obtain⟨QO,h7,h8⟩:=bJ hx.sr h0
   have h4:=h4.1
   have h6:=h6.1
   have h8:=h8.1
   dsimp only[cq] at h4 h6 h8
   subst h4 h6 h8
   exact b_ (OW.afj h3 h5 h7) (cQ hx rfl)
  ·
   split at h
   case h_2=>exact(h:False).elim
   rename_i t bZ
   split at h
   case h_2=>exact(h:False).elim
   rename_i e' n' ht
   split at h
   case isFalse=>exact(h:False).elim
   rename_i hn
   have hn:=aqK hn
   subst hn
   obtain⟨x,rfl,uJ⟩:=EW nK
   obtain⟨v,h3,h4⟩:=bJ hx.sr uJ
   have mQ:ts= #[t]:=arV.1 bZ
   subst mQ
   exact alo hP hR hx ht h3 h4 h
  ·
   split at h
   case h_2=>exact(h:False).elim
   rename_i t t' bZ
   split at h
   case isFalse=>exact(h:False).elim
   rename_i jE
   have jE:=aqK jE
   subst jE
   split at h
   case h_2=>exact(h:False).elim
   rename_i e' n' ht
   obtain⟨x,y,rfl,h1,h2⟩:=AR nK
   obtain⟨v,h3,h4⟩:=bJ hx.sr h1
   obtain⟨v',h5,h6⟩:=bJ hx.sr h2
   have mQ:ts= #[t,t]:=arV.1 bZ
   subst mQ
   exact ak_ hP hR hx ht h3 h4 h5 h6 h
  ·
   split at h
   case h_2=>exact(h:False).elim
   rename_i t t' bZ
   split at h
   case isFalse=>
    split at h
    case h_2=>exact(h:False).elim
    rename_i e' n k g K tk ht su
    obtain⟨x,y,rfl,h1,h2⟩:=AR nK
    obtain⟨v,h3,h4⟩:=bJ hx.sr h1
    obtain⟨v',h5,h6⟩:=bJ hx.sr h2
    have mQ:ts= #[_,_]:=arV.1 bZ
    subst mQ
    have h6:=h6.1
    dsimp only[cq] at h6
    subst h6
    obtain⟨zs,hz,_,rfl⟩:=h
    exact aaq hP hR hx ht su (by rw[h3];exact congrArg some h4) h5 hz
   rename_i jE
   have jE:=aqK jE
   subst jE
   split at h
   case h_2=>exact(h:False).elim
   rename_i e' n ht
   obtain⟨x,y,rfl,h1,h2⟩:=AR nK
   obtain⟨v,h3,h4⟩:=bJ hx.sr h1
   obtain⟨v',h5,h6⟩:=bJ hx.sr h2
   have mQ:ts= #[t,t]:=arV.1 bZ
   subst mQ
   exact ao_ hP hR hx ht h3 h4 h5 h6 h
  ·
   split at h
   case h_2=>exact(h:False).elim
   rename_i t bZ
   split at h
   case h_2=>exact(h:False).elim
   rename_i p ht
   obtain⟨_,rfl⟩:=h
   obtain⟨x,rfl,uJ⟩:=EW nK
   obtain⟨v,h3,h4⟩:=bJ hx.sr uJ
   have mQ:ts= #[t]:=arV.1 bZ
   subst mQ
   have h4:v= .slice none 0 0:=h4
   subst h4
   have hu:=(hP.bS t p.1 p.2 ht).1
   refine b_ (v:= .int .i64 0) (OW.run fun a ha=>⟨_,w, ?_,rfl,rfl⟩) (cQ hx rfl)
   simp[execOp,resolve,invoke,builtin,Builtin.cap_,run_underlying hu,ha _ _ h3,goInt]
  · exact(h:False).elim
 · exact(h:False).elim
end
end Rx
end Go.Proofs.YtncbfgppjfcijaaGreat
