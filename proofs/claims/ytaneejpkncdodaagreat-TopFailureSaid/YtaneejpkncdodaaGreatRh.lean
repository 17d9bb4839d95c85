import Derived.Test.YtaneejpkncdodaaGreatRs
import Derived.Lib.AppendZeros
set_option linter.unusedVariables false
set_option linter.unusedSimpArgs false
set_option linter.unusedSectionVars false
namespace Go.Proofs.YtaneejpkncdodaaGreat
open Go Go.RowKit Dp
namespace Rx
section
variable {D:Nat→Type} [∀n,ad (D n)]
variable {P:Program} {T:aV D} {Qx:Exit→Act→World→Prop} {U:Nat→Prop} {aj:Nat} {γ:Gh D} {w:World} {sl:List (Nat×AV D)} {L:List (Nat×Value)} {ob:List (Nat×Option (AO D))}
 {d:Option Tmp} {ty:TypeId} {pos:String} {af:Array Edge} {gd:Option (Nat×Bool)} {e:bX D} {l:List Nat}
theorem Qw(hs:SR U γ w sl L){pl:List (Nat×Nat)}:∀{ps:List (Nat×Operand)} {as:List (AV D)} {cs fH:List (A1 D)} {us:List Value},rF T pl cs ps as=some fH→dt sl (ps.map (·.2))=some as→cd U γ w cs us→
  ∃vs ng jp,uY L ps=some vs∧HN vs ng∧uX pl us ng=some jp∧cd U γ w fH jp
 |[],as,cs,fH,us,h,he,hv=>by
  cases as with
  |nil=>
   simp only[rF,Option.some.injEq] at h
   subst h
   exact⟨[],[],us,rfl,trivial,rfl,hv⟩
  |cons _ _=>simp[rF] at h
 |(i,x)::r,as,cs,fH,us,h,he,hv=>by
  cases as with
  |nil=>simp[rF] at h
  |cons a as=>
   obtain⟨h1,h2⟩:=oL he
   simp only[rF] at h
   split at h
   case h_2=>cases h
   rename_i off sz YL k9 hc
   split at h
   case isFalse=>cases h
   rename_i hlen
   split at h
   case h_2=>cases h
   rename_i cs1 fu
   obtain⟨v,bh,hvv⟩:=bQ hs h1
   have bN:YL.all storable=true:=by
    unfold vV at fu
    split at fu
    · rename_i hb;simp only[Bool.and_eq_true] at hb;exact hb.2
    · cases fu
   obtain⟨Iq,k1,k2,k3⟩:=M0 hc hvv bN
   obtain⟨m1,_,m3,m4⟩:=hv.Pv k1 fu
   obtain⟨vs,ng,jp,n1,n2,n3,n4⟩:=Qw hs h h2 m4
   have hlen:=Nat.eq_of_beq_eq_true hlen
   refine⟨(i,v)::vs,(i,Iq)::ng,jp,by simp[uY,bh,n1],⟨rfl,k2,n2⟩, ?_,n4⟩
   have e1:Iq.length=sz:=by rw[←k1.length];exact hlen
   simp only[uX,k9]
   rw[if_pos ⟨by rw[e1];exact Nat.beq_refl sz,by rw[←e1];exact Nat.ble_eq_true_of_le m1⟩]
   exact n3
theorem akU [Rd](hP:dg P T)(hx:Cx U aj γ w sl L ob){t:TypeId}{n:Nat}{pl:List (Nat×Nat)}{ps:Array (Nat×Operand)}{as:List (AV D)}{cs:List (A1 D)}(ht:aq T.ty t=some (.st n))(hl:aq T.oJ t=some pl)
  (he:dt sl (ps.toList.map (·.2))=some as) (h:rF T pl (qh.vd (T.lv n)) ps.toList as=some cs):
  OW P Qx L ⟨d,.build t ps,ty,pos,af,gd⟩ w (fun v w'=>∃γ',cO U aj γ w ob ⟨.c (.agg cs),[],[]⟩ γ' v w'):=by
 have hT:=(hP.ty t _ ht).1
 obtain⟨vs,ng,us,h1,h2,h3,h4⟩:=Qw hx.sr h he (HY (γ:=γ) (by simp[In]) (T.lv n))
 have:=OW.akW (P:=P) (Qx:=Qx) (L:=L) (w:=w) (d:=d) (ty:=ty) (pos:=pos) (af:=af) (g:=gd) ng us (hP.oJ t pl hl).1 hT h1 h2 h3
 exact cm this (kU hx ⟨us,rfl,h4⟩)
theorem abh(hR:bR T)(bb:OB U γ w ob){n:Nat}{a:AV D}{v:Value}{r:D n×List Nat×List Nat}(h:Q.R ob (Jn T n a) l r)(hv:eP U γ w a v):
  Rv (In γ.o (r.2.2++r.2.1)) w v r.1∧cU r.2.1∧(∀i∈r.2.2,1000≤i∧U i)∧(r.2.2≠[]→1∈r.2.1):=by
 unfold Jn at h
 split at h
 case isFalse=>exact h.elim
 rename_i FA
 split at h
 case h_2=>exact h.elim
 rename_i cs fu
 obtain⟨l1,l2,x,_,h1,h2⟩:=Q.dV h
 split at h2
 case h_2=>exact h2.elim
 rename_i y hy
 obtain⟨_,rfl⟩:=h2
 obtain⟨vs,k1,k2⟩:=M1 fu hv
 obtain⟨r1,r2,r3,r4⟩:=wP bb h1 k1
 refine⟨⟨vs, ?_, ?_⟩,r2,r3,r4⟩
 · rw[hR.ag]
   rcases k2 with⟨u,rfl,rfl,b,rfl⟩|⟨rfl,b,rfl⟩
   · simp only[Ml,Bool.not_eq_true'] at FA
     simp[FA,pack]
   · simp only[Ml] at FA
     simp[FA,pack]
 · rw[hR.rd,hR.ga hy]
   exact r1
theorem Ag(hR:bR T)(bb:OB U γ w ob){n:Nat}:∀{as:List (AV D)} {vs:List Value} {l:List Nat} {r:List (D n)×List Nat×List Nat},Q.R ob (pf T n as) l r→jF U γ w as vs→
  re (In γ.o (r.2.2++r.2.1)) w vs r.1∧cU r.2.1∧(∀i∈r.2.2,1000≤i∧U i)∧(r.2.2≠[]→1∈r.2.1)∧r.1.length=as.length
 |[],vs,l,r,h,hv=>by
  obtain⟨_,rfl⟩:=h
  cases vs with
  |nil=>exact⟨trivial,iZ,by simp,fun h=>(h rfl).elim,rfl⟩
  |cons _ _=>exact hv.elim
 |a::as,vs,l,r,h,hv=>by
  cases vs with
  |nil=>exact hv.elim
  |cons v vs=>
   simp only[pf] at h
   obtain⟨l1,l2,x,_,h1,h2⟩:=Q.dV h
   obtain⟨l3,l4,y,_,h3,h4⟩:=Q.dV h2
   obtain⟨_,rfl⟩:=h4
   obtain⟨i1,i2,i3,i4⟩:=abh hR bb h1 hv.1
   obtain⟨j1,j2,j3,j4,j5⟩:=Ag hR bb h3 hv.2
   have mono:∀{vs:List Value} {xs:List (D n)},re (In γ.o (y.2.2++y.2.1)) w vs xs→re (In γ.o ((x.2.2++y.2.2)++(x.2.1++y.2.1))) w vs xs:=by
    intro vs
    induction vs with
    |nil=>intro xs h;cases xs with
     |nil=>trivial
     |cons _ _=>exact h.elim
    |cons u us ih=>intro xs h;cases xs with
     |nil=>exact h.elim
     |cons z zs=>exact⟨h.1.weaken fun b hb=>by
       unfold In at hb⊢
       rcases List.mem_append.1 hb with hb|hb<;>simp[hb],ih h.2⟩
   refine⟨⟨i1.weaken fun b hb=> ?_,mono j1⟩, ?_, ?_,fun h=> ?_,by simp[j5]⟩
   · unfold In at hb⊢
     rcases List.mem_append.1 hb with hb|hb<;>simp[hb]
   · intro z hz
     rcases List.mem_append.1 hz with hz|hz
     · exact i2 z hz
     · exact j2 z hz
   · intro z hz
     rcases List.mem_append.1 hz with hz|hz
     · exact i3 z hz
     · exact j3 z hz
   · rw[List.mem_append]
     by_cases h5:x.2.2=[]
     · exact .inr (j4 fun h6=>h (by simp[h5,h6]))
     · exact .inl (i4 h5)
theorem TL{fz:List Nat}(h:∀i∈fz,1000≤i∧U i){e:bX D}(he:e.fz=fz):∀p∈jX fz,1000≤p.1∧(U p.1→p.1∈e.wr)∧(p.2=1∨(aj≤p.2∧p.2<aj+64)):=by
 intro p hp
 simp only[jX,List.mem_map] at hp
 obtain⟨q,hq,rfl⟩:=hp
 exact⟨(h q hq).1,fun _=>by simp[bX.wr,he,hq],.inl rfl⟩
theorem DI(hx:Cx U aj γ w sl L ob){n t:Nat}{xs:List (D n)}{K fz:List Nat}{o':bF}{w':World}{v:Value}(hK:cU K)(gW:∀i∈fz,1000≤i∧U i)(h1:fz≠[]→1∈K)(bh:ba [] [aj] γ.o w o' w')(hO:Ow t o' aj (fz++K) w' v xs):
  ∃γ',cO U aj γ w ob ⟨.c (.one (.own aj)),[(aj,some (.sl n t xs K (aj+16)))],fz⟩ γ' v w':=by
 have xA:aj∉fz:=fun h=>hx.fresh aj (Nat.le_refl _) (by omega) (gW _ h).2
 refine⟨_,mkPost (M:=[]) (N:=[aj]) (ps:=jX fz) (g':=ie γ.g aj v) (v':=ed γ.v (aj+16) [⟨.sl n,xs⟩]) hx.ob bh (by simp) (by simp) (TL gW rfl) hx.bS (fun i hi=>oG hx hi) (fun i hi=>nl hx (by simp) hi) ⟨kK,(kG _ _ _).symm,hO.one⟩ ?_⟩
 intro j x hj Bj
 obtain⟨rfl,cD⟩:=jP hj
 cases cD
 refine⟨hx.bS,kK, ?_,hK,jN (γ:=γ) (i:=0) rfl (by omega) rfl⟩
 show Ow t _ aj K w' (ie γ.g aj v aj) xs
 rw[kG]
 refine Ow.oc (fun b hb=> ?_) (fun b hb=> ?_) hO
 · show rel (jX fz) (o' b)=aj
   rw[hb,Ac.2 xA]
 · exact Mj hK h1 (fun i hi=>(gW i hi).1) b hb
theorem DT(hs:SR U γ w sl L):∀{ps:List (Nat×Operand)} {k:Nat} {as:List (AV D)},ry k ps=true→dt sl (ps.map (·.2))=some as→∃vs,rG L k ps=some vs∧jF U γ w as vs
 |[],k,as,_,h=>by
  simp only[List.map_nil,dt,Option.some.injEq] at h
  subst h
  exact⟨[],rfl,trivial⟩
 |(i,x)::r,k,as,hb,h=>by
  simp only[ry,Bool.and_eq_true] at hb
  cases as with
  |nil=>have:=pW h;simp at this
  |cons a as=>
   obtain⟨h1,h2⟩:=oL h
   obtain⟨v,e1,e2⟩:=bQ hs h1
   obtain⟨vs,e3,e4⟩:=DT hs hb.2 h2
   exact⟨v::vs,by simp[rG,hb.1,e1,e3],e2,e4⟩
theorem akV [Rd](hP:dg P T)(hR:bR T)(hx:Cx U aj γ w sl L ob){t e' n m:Nat}{ps:Array (Nat×Operand)}{as:List (AV D)}{r:List (D n)×List Nat×List Nat}(ht:aq T.bV t=some (e',n))(hb:ry 0 ps.toList=true)(hm:ps.toList.length=m)(dy:m*(T.lv n).length≤65536)
  (he:dt sl (ps.toList.map (·.2))=some as) (h:Q.R ob (pf T n as) l r):
  OW P Qx L ⟨d,.buildSlice t m ps,ty,pos,af,gd⟩ w (fun v w'=>∃γ',cO U aj γ w ob ⟨.c (.one (.own aj)),[(aj,some (.sl n e' r.1 r.2.1 (aj+16)))],r.2.2⟩ γ' v w'):=by
 obtain⟨hu,hT⟩:=hP.bV t e' n ht
 obtain⟨vs,h1,h2⟩:=DT hx.sr hb he
 obtain⟨i1,i2,i3,i4,i5⟩:=Ag hR hx.ob h h2
 have hlen:r.1.length=m:=by
  rw[i5,←hm]
  simpa using(pW he).symm
 have:=OW.buildSlice (P:=P) (Q:=Qx) (L:=L) (w:=w) (d:=d) (ty:=ty) (pos:=pos) (af:=af) (g:=gd) (o:=γ.o) (k:=aj) hu hT h1 i1 hlen (by rw[hR.sz];exact Nat.ble_eq_true_of_le dy)
 refine OW.mono this ?_
 rintro v w' ⟨o',bh,hO⟩
 exact DI hx i2 i3 i4 bh hO
theorem akX [Rd](hP:dg P T)(hR:bR T)(hx:Cx U aj γ w sl L ob){t e' n m:Nat}{ps:Array (Nat×Operand)}{as:List (AV D)}{r:List (D n)×List Nat×List Nat}(ht:aq T.mi t=some (m,e',n))(hb:ry 0 ps.toList=true)(hm:ps.toList.length=m)
  (he:dt sl (ps.toList.map (·.2))=some as) (h:Q.R ob (pf T n as) l r):
  OW P Qx L ⟨d,.build t ps,ty,pos,af,gd⟩ w (fun v w'=>∃γ',cO U aj γ w ob ⟨.c (.one (.nM n r.1 r.2.1)),[],r.2.2⟩ γ' v w'):=by
 have hA:=hP.mi t m e' n ht
 obtain⟨vs,h1,h2⟩:=DT hx.sr hb he
 obtain⟨i1,i2,i3,i4,i5⟩:=Ag hR hx.ob h h2
 have hlen:r.1.length=m:=by
  rw[i5,←hm]
  simpa using(pW he).symm
 have:=OW.Xg (P:=P) (Q:=Qx) (L:=L) (w:=w) (d:=d) (ty:=ty) (pos:=pos) (af:=af) (g:=gd) hA.qo hA.el hA.z h1 i1 hlen
 refine OW.mono this ?_
 rintro v w' ⟨rfl,aw,rfl,h5⟩
 refine⟨_,mkPost (M:=[]) (N:=[]) (ps:=jX r.2.2) (g':=γ.g) (v':=γ.v) hx.ob (ba.refl _ _ _ _) (by simp) (by simp) (TL i3 rfl) hx.bS (fun _ _=>rfl) (fun _ _=>rfl) ?_ (fun j x hj=> ?_)⟩
 · exact⟨⟨aw,rfl,h5.mono fun _ _=>ad.mono fun b hb _=>⟨Mj i2 i4 (fun i hi=>(i3 i hi).1) b hb,rfl⟩⟩,i2⟩
 · simp[aq] at hj
theorem akY [Rd](hP:dg P T)(hR:bR T)(hx:Cx U aj γ w sl L ob){t e' n m:Nat}{ps:Array (Nat×Operand)}{as:List (AV D)}{r:List (D n)×List Nat×List Nat}(ht:aq T.mi t=some (m,e',n))(hb:ry 0 ps.toList=true)(hm:ps.toList.length=m)
  (he:dt sl (ps.toList.map (·.2))=some as) (h:Q.R ob (pf T n as) l r) (hf:r.2.2=[]) (hl:(r.1.flatMap (T.out n)).length≤48):
  OW P Qx L ⟨d,.build t ps,ty,pos,af,gd⟩ w (fun v w'=>∃γ',cO U aj γ w ob ⟨.c (.agg (cellsD r.2.1 (aj+16) (r.1.flatMap (T.out n)))),[],[]⟩ γ' v w'):=by
 have hA:=hP.mi t m e' n ht
 obtain⟨vs,h1,h2⟩:=DT hx.sr hb he
 obtain⟨i1,i2,i3,i4,i5⟩:=Ag hR hx.ob h h2
 have hlen:r.1.length=m:=by
  rw[i5,←hm]
  simpa using(pW he).symm
 rw[hf,List.nil_append] at i1
 have:=OW.Xg (P:=P) (Q:=Qx) (L:=L) (w:=w) (d:=d) (ty:=ty) (pos:=pos) (af:=af) (g:=gd) hA.qo hA.el hA.z h1 i1 hlen
 refine OW.mono this ?_
 rintro v w' ⟨rfl,aw,rfl,h5⟩
 refine⟨_,wR hx _ hl ⟨aw.flatten,rfl, ?_⟩⟩
 exact B0 (γ':=⟨γ.o,γ.g,ed γ.v (aj+16) (r.1.flatMap (T.out n))⟩) i2 (MR hR h5) fun i x hi=>jN rfl (by have:=(List.getElem?_eq_some_iff.1 hi).1;omega) hi
theorem alr(hR:bR T)(bb:OB U γ w ob){n:Nat}{cs:List (A1 D)}{us:List Value}{r:List (D n)×List Nat×List Nat}(LV:T.ag n=false)(h:Q.R ob (pf T n (cs.map fun c=> .c (.one c))) l r)(hv:cd U γ w cs us)(hf:r.2.2=[]):dK U γ w (.nM n r.1 r.2.1) (.agg us.toArray):=by
 have E9:jF U γ w (cs.map fun c=>(.c (.one c):AV D)) us:=by
  clear h
  induction cs generalizing us with
  |nil=>cases us with
   |nil=>trivial
   |cons _ _=>exact hv.elim
  |cons c cs ih=>cases us with
   |nil=>exact hv.elim
   |cons u us=>exact⟨hv.1,ih hv.2⟩
 obtain⟨i1,i2,_,_,_⟩:=Ag hR bb h E9
 rw[hf,List.nil_append] at i1
 have dG:∀us:List Value,(us.map fun u=>[u]).flatten=us:=fun us=>by
  induction us with
  |nil=>rfl
  |cons u us ih=>simp[ih]
 refine⟨⟨us.map fun u=>[u],by rw[dG], ?_⟩,i2⟩
 generalize r.1=xs at i1
 clear h E9 hv
 induction us generalizing xs with
 |nil=>cases xs with
  |nil=>trivial
  |cons _ _=>exact i1.elim
 |cons u us ih=>cases xs with
  |nil=>exact i1.elim
  |cons x xs=>exact⟨Rv.Jo i1.1 (by rw[hR.ag];exact LV),ih xs i1.2⟩
theorem RP [Rd](hP:dg P T)(hR:bR T)(hx:Cx U aj γ w sl L ob){t e' n m:Nat}{u i:Operand}{xs:List (D n)}{K:List Nat}{j:Int}{y:D n}{va:Value}{r:AV D}(ht:aq T.mi t=some (m,e',n))(hm:xs.length=m)
  (hu:ev L u=some va) (dn:dK U γ w (.nM n xs K) va) (hi:ev L i=some (.int .i64 j)) (hj:idx xs j=some y) (hr:qy (T.ag n) (cellsD K (aj+16) (T.out n y))=some r):
  OW P Qx L ⟨d,.index t u i,ty,pos,af,gd⟩ w (fun v w'=>∃γ',cO U aj γ w ob ⟨r,[],[]⟩ γ' v w'):=by
 have hA:=hP.mi t m e' n ht
 obtain⟨⟨aw,rfl,h1⟩,h2⟩:=dn
 refine OW.mono (OW.adE hA.qo hm hA.el hu h1 hi hj) ?_
 rintro v w' ⟨rfl,cs,rfl,h3⟩
 have hl:(T.out n y).length≤48:=by rw[Eo];exact hR.oK n
 have h4:=B0 (γ':=⟨γ.o,γ.g,ed γ.v (aj+16) (T.out n y)⟩) (U:=fW U aj) h2 (g:=aj+16) ((hR.rd n _ _ _ _).1 h3) (fun i x fR=>jN (γ:=γ) rfl (by
  have:=(List.getElem?_eq_some_iff.1 fR).1
  omega) fR)
 refine⟨_,wR hx (T.out n y) hl ?_⟩
 rw[hR.ag]
 unfold qy at hr
 cases hg:T.ag n with
 |true=>
  rw[hg] at hr
  cases hr
  exact⟨cs,rfl,h4⟩
 |false=>
  rw[hg] at hr
  simp only[Bool.false_eq_true,if_false] at hr
  split at hr
  case h_2=>cases hr
  rename_i a ha
  cases hr
  rw[ha] at h4
  cases cs with
  |nil=>exact h4.elim
  |cons c cs=>exact h4.1
theorem Ow.head{t:TypeId}{o:bF}{k:Nat}{K:List Nat}{v:Value}{n:Nat}{xs:List (D n)}{y:D n}{j:Int}(h:Ow t o k K w v xs)(hj:idx xs j=some y):∃b cap,v= .slice (some ⟨b,0,none⟩) xs.length cap:=by
 rcases h with⟨rfl,rfl⟩|⟨g,cap,aO,aw,e1,_⟩
 · unfold idx at hj;split at hj<;>simp at hj
 · exact⟨g,cap,e1⟩
theorem adM [Rd](hP:dg P T)(hx:Cx U aj γ w sl L ob){t e' n tj:Nat}{u i:Operand}{a:A1 D}{va:Value}{j:Int}(ht:aq T.bV t=some (e',n))(hu:ev L u=some va)(dn:dK U γ w a va)(hi:ev L i=some (.int .i64 j))(KD:named U γ tj ⟨.int .i64,j⟩)
  (h:Q.R ob (Kl n j tj a) l e):
  OW P Qx L ⟨d,.indexAddr t u i,ty,pos,af,gd⟩ w (fun v w'=>∃γ',cO U aj γ w ob e γ' v w'):=by
 obtain⟨ic,hT⟩:=hP.bV t e' n ht
 unfold Kl at h
 split at h
 · rename_i n' xs K g
   split at h
   case isFalse=>exact h.elim
   rename_i hn
   have hn:=Nat.eq_of_beq_eq_true hn
   subst hn
   obtain⟨y,hy,_,rfl⟩:=h
   obtain⟨h1,h2,h3⟩:=dn
   refine OW.mono (OW.indexAddr ic hT hu h1 hi hy) ?_
   rintro v w' ⟨rfl,pa,rfl,hp,_⟩
   exact⟨γ,kU hx ⟨pa,by rw[add_zero'],hp,h3⟩⟩
 · rename_i i'
   obtain⟨ao,l',ho,rfl,h⟩:=h
   obtain⟨hU,rfl,_⟩:=dn
   have key:∀{n' tc:Nat} {xs:List (D n')},((∀y,idx xs j=some y→∃b cap,γ.g i'= .slice (some ⟨b,0,none⟩) xs.length cap)∧named U γ tc ⟨.sl n',xs⟩)→Q.R ob (if Nat.beq n' n&& !(Nat.beq tc 0) then .part (idx xs j) fun y=>bp (.c (.one (.el i' n' j y 0 tc tj))) else .fail) l' e→
     OW P Qx L ⟨d,.indexAddr t u i,ty,pos,af,gd⟩ w (fun v w'=>∃γ',cO U aj γ w ob e γ' v w'):=by
    clear h
    rintro n' tc xs ⟨hh,h3⟩ hq
    split at hq
    case isFalse=>exact hq.elim
    rename_i hn
    simp only[Bool.and_eq_true,Bool.not_eq_true'] at hn
    have AX:tc≠0:=fun e=>by subst e;simp at hn
    have hn:=Nat.eq_of_beq_eq_true hn.1
    subst hn
    obtain⟨y,hy,_,rfl⟩:=hq
    obtain⟨b,cap,hg⟩:=hh y hy
    refine OW.mono (OW.R1 ic hT hu hg hi hy) ?_
    rintro v w' ⟨rfl,rfl⟩
    rcases h3 with h3|⟨h3,h4⟩
    · exact(AX h3).elim
    refine⟨γ,kU hx ⟨hU,⟨AX,h3⟩,⟨xs,h4,hy⟩,KD,b,_,_,hg, ?_⟩⟩
    unfold dD Addr.add
    split<;>simp_all
   obtain⟨_,_,h1⟩:=hx.ob.ob _ _ ho
   cases ao with
   |box=>exact h.elim
   |sl n' t' xs K tc=>exact key ⟨fun y hy=>Ow.head h1.1 hy,h1.2.2⟩ h
   |bY n' t' rl q xs tc h0=>exact key ⟨fun y hy=>Ow.head h1.1.ow hy,h1.2.1⟩ h
   |ff n' t' rl q xs j' pj s tc=>
    obtain⟨h2,_,b,len,cap,h3,gg,q',aO,_,_,_,_,_,h4⟩:=h1
    exact key ⟨fun y hy=>Ow.head h4.ow hy,h2⟩ h
   |mp=>exact h.elim
   |fz n' xs K=>
    dsimp only at h
    split at h
    case isFalse=>exact h.elim
    rename_i hn
    have hn:=Nat.eq_of_beq_eq_true hn
    subst hn
    obtain⟨y,hy,_,rfl⟩:=h
    refine OW.mono (OW.indexAddr ic hT hu h1.1 hi hy) ?_
    rintro v w' ⟨rfl,pa,rfl,hp,_⟩
    exact⟨γ,kU hx ⟨pa,by rw[add_zero'],hp,h1.2⟩⟩
 · obtain⟨y,hy,_⟩:=h
   cases hy
 · rename_i i' n0 j0
   obtain⟨ao,l',ho,rfl,h⟩:=h
   obtain⟨hU,hj0,p,nn,c,e1,e2,e3⟩:=dn
   cases ao with
   |sl n' t' xs K tc=>
    dsimp only at h
    split at h
    case isFalse=>exact h.elim
    rename_i hn
    simp only[Bool.and_eq_true,Bool.not_eq_true'] at hn
    have AX:tc≠0:=fun e=>by subst e;simp at hn
    have KV:=Nat.eq_of_beq_eq_true hn.1.1
    have KU:=Nat.eq_of_beq_eq_true hn.1.2
    subst KV
    subst KU
    obtain⟨y,hy,_,rfl⟩:=h
    obtain⟨_,_,h1,h2,h3⟩:=hx.ob.ob _ _ ho
    obtain⟨p',vf,f1,f2,_⟩:=n_ h1.rv
    have en:=hy
    unfold idx at en
    split at en
    case isFalse=>cases en
    rename_i hj
    have R4:idx xs (AM j0 j)=some y:=by
     unfold idx
     rw[if_pos (show 0≤j0+j by omega)]
     rw[List.getElem?_drop] at en
     rw[show(AM j0 j).toNat=j0.toNat+j.toNat by show(j0+j).toNat=_;omega]
     exact en
    obtain⟨b,cap,hg⟩:=Ow.head h1 R4
    rw[hg] at e1 f1
    simp only[Value.slice.injEq] at e1 f1
    obtain⟨rfl,rfl,rfl⟩:=e1
    obtain⟨_,_,rfl⟩:=f1
    have aQ:j0.toNat+j.toNat<xs.length:=by
     rw[List.getElem?_drop] at en
     exact(List.getElem?_eq_some_iff.1 en).1
    have dH:∀(q r:Nat),(⟨b,q,none⟩:Addr).add r=⟨b,q+r,none⟩:=fun q r=>by unfold Addr.add;split<;>simp_all
    have u5:va= .slice (some ⟨b,j0.toNat*ad.sz (D n'),none⟩) (Gn xs j0).length (cap-j0.toNat):=by
     rw[e2,if_neg (by omega)]
     simp[dH]
    refine OW.mono (OW.R1 (xs:=Gn xs j0) ic hT hu u5 hi hy) ?_
    rintro v w' ⟨rfl,rfl⟩
    rcases h3 with h3|⟨h3,h4⟩
    · exact(AX h3).elim
    refine⟨γ,kU hx ⟨hU,⟨AX,h3⟩,⟨xs,h4,R4⟩,.inl rfl,b,_,_,hg, ?_⟩⟩
    rw[dH]
    unfold dD
    rw[show(AM j0 j).toNat=j0.toNat+j.toNat by show(j0+j).toNat=_;omega,Nat.add_mul,Nat.add_zero]
   |_=>exact h.elim
 · exact h.elim
theorem PQ{x y:Operand}{v:Value}(h:zL x y=true)(hx:ev L x=some v):ev L y=some v:=by
 unfold zL at h
 split at h
 · rename_i a b
   have:=Nat.eq_of_beq_eq_true h
   subst this
   exact hx
 · rename_i a b
   have:=of_decide_eq_true h
   subst this
   exact hx
 · cases h
theorem acu [Rd](hP:dg P T)(hR:bR T)(hx:Cx U aj γ w sl L ob){t e' n:Nat}{u1 u2:Operand}{m:Int}{zs:List (D n)}(ht:aq T.bV t=some (e',n))(h1:ev L u1=some (.int .i64 m))(h2:zL u1 u2=true)(hm:ki (T.zero n) m=some zs):
  OW P Qx L ⟨d,.makeSlice t u1 u2,ty,pos,af,gd⟩ w (fun v w'=>∃γ',cO U aj γ w ob ⟨.c (.one (.own aj)),[(aj,some (.sl n e' zs [] (aj+16)))],[]⟩ γ' v w'):=by
 obtain⟨hu,hT⟩:=hP.bV t e' n ht
 have jx:rJ (D n) m=some zs:=by
  unfold rJ
  unfold ki at hm
  rw[hR.zero]
  exact hm
 refine OW.mono (OW.make (o:=γ.o) (k:=aj) hu hT h1 (PQ h2 h1) jx) ?_
 rintro v w' ⟨o',bh,hO⟩
 exact DI hx iZ (by simp) (fun h=>(h rfl).elim) bh hO
theorem Oe{α:Type}[ad α](w:World)(q:Nat):(Builtin.zeroCells (pack (ad.agg α) (ad.zc α)).cells q).toList=(List.replicate q (ad.zc α)).flatten:=by
 have hz:(pack (ad.agg α) (ad.zc α)).cells.toList=ad.zc α:=qx (α:=α) (ad.dW (fun _=>True) w)
 have eV:(ad.zc α).length=ad.sz α:=ad.len (ad.dW (α:=α) (fun _=>True) w)
 have nu:=ad.pos (α:=α)
 generalize R2:(pack (ad.agg α) (ad.zc α)).cells=z at*
 unfold Builtin.zeroCells
 have eK:z.size=ad.sz α:=by rw[←Array.length_toList,hz,eV]
 have key:∀q:Nat,(List.range (q*ad.sz α)).map (fun i=>z[i% z.size]!)=(List.replicate q (ad.zc α)).flatten:=by
  intro q
  induction q with
  |zero=>simp
  |succ q ih=>
   rw[List.replicate_succ',List.flatten_append,←ih,Nat.succ_mul,List.range_add,List.map_append]
   congr 1
   simp only[List.map_map,List.flatten_singleton]
   rw[←hz]
   apply List.ext_getElem?
   intro j
   by_cases hj:j<ad.sz α
   · have e1:(q*ad.sz α+j)% z.size=j:=by rw[eK,Nat.mul_comm,Nat.mul_add_mod,Nat.mod_eq_of_lt hj]
     have eo:j<z.size:=by omega
     simp[hj,e1,eo,getElem!_pos]
   · simp[hj,eK]
 rw[eK]
 simpa[eK] using key q
theorem OW.X9 [Rd]{α:Type}[ad α]{s x:Operand}{t tn e' k0:Nat}{o:bF}{zs:List α}{m:Int}(hu:P.underlying t=some (.slice e'))(hT:bJ P e' α)(hn:P.underlying tn=some (.int .i64))(h1:ev L s=some (.slice none 0 0))(h2:ev L x=some (.int .i64 m))(hm:EF (ad.zero:α) m=some zs):
  OW P Qx L ⟨d,.call {callee:= .builtin .append,args:= #[s,x],argTypes:= #[t,tn]},ty,pos,af,gd⟩ w (fun v' w'=>∃o',ba [] [k0] o w o' w'∧Ow e' o' k0 [] w' v' zs):=by
 unfold EF at hm
 split at hm
 case isFalse=>cases hm
 rename_i hb
 cases hm
 obtain⟨i,dR,cI,fF,jf⟩:=hT.ju
 have nu:=ad.pos (α:=α)
 have xJ:m.toNat*i.bytes≤281474976710656:=by
  have:=Nat.mul_le_mul (show m.toNat≤1073741824 by omega) fF
  omega
 have hmm:((m.toNat:Nat):Int)=m:=by omega
 have hr:=Lib.run_append_nil_zeros (P:=P) w t tn ty e' i _ .i64 .i64 hu hn dR jf m.toNat (by omega) (by omega) (by omega) xJ
 rw[hmm] at hr
 have ou:(pack (ad.agg α) (ad.zc α)).cells.toList=ad.zc α:=qx (α:=α) (ad.dW (fun _=>True) w)
 have eV:(ad.zc α).length=ad.sz α:=ad.len (ad.dW (α:=α) (fun _=>True) w)
 have eK:(pack (ad.agg α) (ad.zc α)).cells.size=ad.sz α:=by rw[←Array.length_toList,ou,eV]
 have nB:=grownCap_ge w m.toNat 0 e'
 refine OW.run fun a ha=>⟨_,_,by simp[execOp,resolve,invoke,builtin,ha _ _ h1,ha _ _ h2,hr];exact⟨rfl,rfl⟩,grow o w k0, ?_,.inr ⟨w.heap.size,grownCap w m.toNat 0 e',_,List.replicate m.toNat (ad.zc α),by simp,nD o w k0 _ (Nat.le_refl _),heap_alloc_new w.drew _, ?_, ?_, ?_, ?_, ?_⟩⟩
 · exact(ba.fresh k0 ((Below.refl _ _).drew.alloc (Nat.le_refl _) _)).weaken (by simp) (by simp)
 · simpa using nB
 · exact grownCap_le_maxLen w _ _ _ (by unfold maxLen;omega)
 · simp only[Array.size_append,size_zeroCells,eK,←Nat.add_mul]
   congr 1
   omega
 · exact bz.replicate (ad.dW _ _) _
 · rw[Array.toList_append,Oe w,List.length_replicate]
   refine List.take_left' ?_
   rw[←Oe w,Array.length_toList,size_zeroCells,eK]
theorem X8 [Rd](hP:dg P T)(hR:bR T)(hx:Cx U aj γ w sl L ob){t tn e' n:Nat}{s x:Operand}{m:Int}{zs:List (D n)}(ht:aq T.bV t=some (e',n))(rY:aq T.ty tn=some (.one (.int .i64)))(h1:ev L s=some (.slice none 0 0))(h2:ev L x=some (.int .i64 m))(hm:EF (T.zero n) m=some zs):
  OW P Qx L ⟨d,.call {callee:= .builtin .append,args:= #[s,x],argTypes:= #[t,tn]},ty,pos,af,gd⟩ w (fun v w'=>∃γ',cO U aj γ w ob ⟨.c (.one (.own aj)),[(aj,some (.sl n e' zs [] (aj+16)))],[]⟩ γ' v w'):=by
 obtain⟨hu,hT⟩:=hP.bV t e' n ht
 refine OW.mono (OW.X9 (o:=γ.o) (k0:=aj) hu hT (hP.ty _ _ rY).2 h1 h2 (by rw[hR.zero];exact hm)) ?_
 rintro v w' ⟨o',bh,hO⟩
 exact DI hx iZ (by simp) (fun h=>(h rfl).elim) bh hO
theorem fX.kc{α:Type}[ad α]{z:Nat}{t tc:TypeId}{o:bF}{k kc:Nat}{v:Value}{xs:List α}(h:fX z t tc o k kc w v xs)(hn:∀b,b<w.heap.size→o b≠kc):fX z t tc (iu o k v) 0 1 w v xs:=by
 rcases h with h|⟨g,cap,aO,aw,h1,h2,h3,h4,h5,h6,h7,h8,h9,sy⟩
 · exact .inl h
 · refine .inr ⟨g,cap,aO,aw,h1,J8 h2 (by rw[h1];exact Nat.beq_refl g),h3,h4,h5,h6,h7.mono fun _ _=>ad.mono fun b hb aQ=> ?_,h8,fun u hu p n c e=> ?_,sy⟩
   · have hb:o b=kc:=by simpa[In] using hb
     exact(hn b aQ hb).elim
   · rcases h9 u hu p n c e with h|⟨g',yf,i1,i2,i3,i4⟩
     · exact .inl h
     · exact(hn g' (Array.getElem?_eq_some_iff.1 i3).1 i2).elim
theorem acw [Rd](hP:dg P T)(hR:bR T)(hx:Cx U aj γ w sl L ob){t e' n tc q:Nat}{u1 u2:Operand}{m:Int}{zs:List (D n)}(ht:aq T.bV t=some (e',n))(hk:aq T.kd n=some (tc,q))(h1:ev L u1=some (.int .i64 m))(h2:zL u1 u2=true)(hm:ki (T.zero n) m=some zs):
  OW P Qx L ⟨d,.makeSlice t u1 u2,ty,pos,af,gd⟩ w (fun v w'=>∃γ',cO U aj γ w ob ⟨.c (.one (.own aj)),[(aj,some (.bY n e' tc q zs (aj+16) 0))],[]⟩ γ' v w'):=by
 obtain⟨hu,hT⟩:=hP.bV t e' n ht
 have hK:=hP.kd n tc q hk
 have jx:rJ (D n) m=some zs:=by
  unfold rJ
  unfold ki at hm
  rw[hR.zero]
  exact hm
 refine OW.mono (OW.acx (o:=γ.o) (k:=aj) (aj+1) (ad.sz (D q)) tc hK.zc hu hT h1 (PQ h2 h1) jx) ?_
 rintro v w' ⟨o',bh,hO⟩
 have be:∀b,b<w'.heap.size→o' b≠aj+1:=fun b hb e=>by
  by_cases aQ:b<w.heap.size
  · rw[bh.dO b aQ] at e
    exact hx.nw aQ (by omega) (by omega) e
  · have:=bh.new b (by omega) hb
    simp at this
    omega
 have hO':=fX.kc hO be
 refine⟨_,mkPost (M:=[]) (N:=[aj]) (ps:=[]) (g':=ie γ.g aj v) (v':=ed γ.v (aj+16) [⟨.sl n,zs⟩]) hx.ob bh (by simp) (by simp) (by simp) hx.bS (fun i hi=>oG hx hi) (fun i hi=>nl hx (by simp) hi) ⟨kK,(kG _ _ _).symm,hO.one⟩ ?_⟩
 intro j x hj Bj
 obtain⟨rfl,cD⟩:=jP hj
 cases cD
 refine⟨hx.bS,kK, ?_,jN (γ:=γ) (i:=0) rfl (by omega) rfl,.inl rfl⟩
 show fX _ e' tc (iu o' aj (ie γ.g aj v aj)) 0 1 w' (ie γ.g aj v aj) zs
 rw[kG]
 exact hO'
theorem Ow.Jq{α:Type}[ad α]{T:TypeId}{o:bF}{k:Nat}{K:List Nat}{w:World}{v v':Value}{j:Nat}{xs:List α}(h:Ow T o k K w v xs)(hp:HM v v' j):Ow T o k K w v' (xs.take j):=by
 obtain⟨p,m,c,h1,rfl,hj⟩:=hp
 rcases h with⟨rfl,rfl⟩|⟨gg,cap,aO,aw,rfl,h2,h3,h4,h5,h6,h7,h8⟩
 · cases h1
   have:j=0:=by omega
   subst this
   exact .inl ⟨rfl,rfl⟩
 · cases h1
   have hl:(xs.take j).length=j:=by simp;omega
   refine .inr ⟨gg,c,aO,aw.take j,by rw[hl],h2,h3,by omega,h5,h6,h7.take j, ?_⟩
   rw[uW h7.lK,←h8,List.take_take,hl]
   congr 1
   exact(Nat.min_eq_left (Nat.mul_le_mul_right _ hj)).symm
theorem Ow.ZR{α:Type}[ad α]{T:TypeId}{o:bF}{k j:Nat}{K:List Nat}{w:World}{v v':Value}{xs:List α}(h:Ow T o k K w v xs)(ht:Cz (ad.sz α) v v' j):dM (In o K) w v' (xs.drop j):=by
 obtain⟨p,m,c,h1,rfl,hj⟩:=ht
 rcases h with⟨rfl,rfl⟩|⟨gg,cap,aO,aw,rfl,h2,h3,h4,h5,h6,h7,h8⟩
 · cases h1
   have:j=0:=by omega
   subst this
   exact⟨_,_,rfl,.inl (by simp)⟩
 · cases h1
   refine⟨_,_,by rw[List.length_drop], ?_⟩
   rcases Nat.lt_or_ge j xs.length with aQ|nB
   · right
     have Bp:¬c=j:=by omega
     refine⟨⟨gg,j*ad.sz α,none⟩,aw.drop j, ?_,h7.drop j, ?_⟩
     · have dH:(⟨gg,0,none⟩:Addr).add (j*ad.sz α)=⟨gg,j*ad.sz α,none⟩:=by unfold Addr.add;split<;>simp_all
       simp[Bp,dH]
     · intro q u hq
       have dH:(⟨gg,j*ad.sz α,none⟩:Addr).add q=⟨gg,j*ad.sz α+q,none⟩:=by unfold Addr.add;split<;>simp_all
       rw[dH,cell_of_row w gg _ aO T (0,0) h3]
       rw[BE h7.lK,List.getElem?_drop,←h8,List.getElem?_take] at hq
       split at hq
       · simpa using hq
       · cases hq
   · exact .inl (List.drop_eq_nil_of_le nB)
theorem Jl(bb:OB U γ w ob){n:Nat}{a:A1 D}{v:Value}{r:List (D n)×List Nat}(h:Q.R ob (Af n a) l r)(hv:dK U γ w a v):dM (In γ.o r.2) w v r.1∧cU r.2:=by
 unfold Af at h
 split at h
 · rename_i n' xs K g
   split at h
   case isFalse=>exact h.elim
   rename_i hn
   subst hn
   obtain⟨_,rfl⟩:=h
   exact⟨hv.1.bV,hv.2.2⟩
 · obtain⟨_,rfl⟩:=h
   have hv:v= .slice none 0 0:=hv
   subst hv
   exact⟨⟨none,0,rfl,.inl rfl⟩,iZ⟩
 · obtain⟨ao,l',ho,rfl,h⟩:=h
   cases ao with
   |box=>exact h.elim
   |bY=>exact h.elim
   |ff=>exact h.elim
   |sl n' t xs K g=>
    dsimp only at h
    split at h
    case isFalse=>exact h.elim
    rename_i hn
    subst hn
    obtain⟨_,rfl⟩:=h
    obtain⟨_,rfl,_⟩:=hv
    obtain⟨_,_,h1,h2,_⟩:=bb.ob _ _ ho
    exact⟨h1.bV,h2⟩
   |mp=>exact h.elim
   |fz n' xs K=>
    dsimp only at h
    split at h
    case isFalse=>exact h.elim
    rename_i hn
    subst hn
    obtain⟨_,rfl⟩:=h
    obtain⟨_,rfl,_⟩:=hv
    obtain⟨_,_,h1,h2⟩:=bb.ob _ _ ho
    exact⟨h1.bV,h2⟩
 · obtain⟨ao,l',ho,rfl,h⟩:=h
   cases ao with
   |box=>exact h.elim
   |bY=>exact h.elim
   |ff=>exact h.elim
   |fz=>exact h.elim
   |mp=>exact h.elim
   |sl n0 t xs K g=>
    dsimp only at h
    split at h
    case isFalse=>exact h.elim
    rename_i uz
    have uz:=Nat.eq_of_beq_eq_true uz
    subst uz
    split at h
    case isFalse=>exact h.elim
    rename_i hn
    subst hn
    obtain⟨_,rfl⟩:=h
    obtain⟨_,ht⟩:=hv
    obtain⟨_,_,h1,h2,_⟩:=bb.ob _ _ ho
    exact⟨Ow.ZR h1 ht.2,h2⟩
 · obtain⟨ao,l',ho,rfl,h⟩:=h
   cases ao with
   |box=>exact h.elim
   |bY=>exact h.elim
   |ff=>exact h.elim
   |fz=>exact h.elim
   |mp=>exact h.elim
   |sl n0 t xs K g=>
    dsimp only at h
    split at h
    case isFalse=>exact h.elim
    rename_i uz
    have uz:=Nat.eq_of_beq_eq_true uz
    subst uz
    split at h
    case isFalse=>exact h.elim
    rename_i hn
    subst hn
    obtain⟨_,rfl⟩:=h
    obtain⟨_,ht⟩:=hv
    obtain⟨_,_,h1,h2,_⟩:=bb.ob _ _ ho
    exact⟨(Ow.Jq h1 ht).bV,h2⟩
 · exact h.elim
theorem dM.weaken{n:Nat}{S S':Nat→Prop}{v:Value}{xs:List (D n)}(hm:∀b,S b→S' b)(h:dM S w v xs):dM S' w v xs:=by
 obtain⟨p,cap,rfl,h⟩:=h
 refine⟨p,cap,rfl, ?_⟩
 rcases h with h|⟨a,aw,h1,h2,h3⟩
 · exact .inl h
 · exact .inr ⟨a,aw,h1,h2.mono fun _ _=>ad.mono fun b hb _=>⟨hm b hb,rfl⟩,h3⟩
theorem Hz(b p off:Nat):(⟨b,p,none⟩:Addr).add off=⟨b,p+off,none⟩:=by
 unfold Addr.add
 split<;>simp_all
theorem alh [Rd](hP:dg P T)(hR:bR T)(hx:Cx U aj γ w sl L ob){t e' n:Nat}{s x:Operand}{a b:A1 D}{va vb:Value}(ht:aq T.bV t=some (e',n))(hs:ev L s=some va)(dn:dK U γ w a va)(hb:ev L x=some vb)(Ky:dK U γ w b vb)
  (h:Q.R ob (Hw T aj n e' a b) l e):
  OW P Qx L ⟨d,.call {callee:= .builtin .append,args:= #[s,x],argTypes:= #[t,t]},ty,pos,af,gd⟩ w (fun v w'=>∃γ',cO U aj γ w ob e γ' v w'):=by
 obtain⟨hu,hT⟩:=hP.bV t e' n ht
 unfold Hw at h
 obtain⟨l1,l2,y0,_,h1,h⟩:=Q.dV h
 obtain⟨xl,E3⟩:=Jl hx.ob h1 Ky
 have kf:dM (In γ.o (pU T n y0.2)) w vb y0.1∧cU (pU T n y0.2):=by
  unfold pU
  split
  · rename_i hf
    haveI:=hR.flat hf
    exact⟨dM.flat xl,fun z hz=>by cases hz⟩
  · exact⟨xl,E3⟩
 obtain⟨ys,pz⟩:∃ys:List (D n)×List Nat,ys=(y0.1,pU T n y0.2):=⟨_,rfl⟩
 rw[←pz] at h
 have k1:dM (In γ.o ys.2) w vb ys.1:=by rw[pz];exact kf.1
 have k2:cU ys.2:=by rw[pz];exact kf.2
 clear pz kf xl E3 h1
 unfold Hw.Xx at h
 cases a with
 |own i=>
  obtain⟨ao,l',ho,rfl,h⟩:=h
  cases ao with
  |box=>exact h.elim
  |bY=>exact h.elim
  |ff=>exact h.elim
  |fz=>exact h.elim
  |mp=>exact h.elim
  |sl n' t' xs K g=>
   dsimp only at h
   split at h
   case isFalse=>exact h.elim
   rename_i hn
   subst hn
   split at h
   case isFalse=>exact h.elim
   rename_i jv
   have jv:=Nat.eq_of_beq_eq_true jv
   subst jv
   obtain⟨zs,hz,_,rfl⟩:=h
   obtain⟨hU,rfl,_⟩:=dn
   obtain⟨eL,_,m1,m2,m3⟩:=hx.ob.ob _ _ ho
   have hK:cU (ys.2++K):=fun z hz=>by
    rcases List.mem_append.1 hz with hz|hz
    · exact k2 z hz
    · exact m2 z hz
   have oC:gD (ys.2++K) [i]=true:=ye fun z hz=>by
    simp only[List.mem_singleton]
    rintro rfl
    have:=hK _ hz
    omega
   have AA:Ow t' γ.o i (ys.2++K) w (γ.g i) xs:=Ow.oc (fun _ h=>h) (fun b hb=>by unfold In at hb⊢;simp[hb]) m1
   refine OW.mono (OW.append hu hT hs hb AA (dM.weaken (fun b hb=>by unfold In at hb⊢;simp[hb]) k1) hz oC) ?_
   rintro v w' ⟨o',bh,hO⟩
   have fS:i≠aj:=fun e=>hx.fresh aj (Nat.le_refl _) (by omega) (e▸hU)
   have li:∀{j:Nat} {x:AO D},aq [(aj,some (AO.sl n' t' zs (ys.2++K) (aj+16))),(i,none)] j=some (some x)→j=aj∧x= .sl n' t' zs (ys.2++K) (aj+16):=by
    intro j x hj
    have:=cA hj
    simp only[List.mem_cons,Prod.mk.injEq,List.not_mem_nil,or_false,Option.some.injEq,reduceCtorEq,and_false] at this
    exact this
   have um:∀z,z≠i→rel [(i,aj)] z=z:=fun z hz=>by
    unfold rel
    split
    · rename_i y hy
      have:=(jP hy).1
      exact(hz this.symm).elim
    · rfl
   have AZ:rel [(i,aj)] i=aj:=by simp[rel,aq]
   refine⟨_,mkPost (M:=[i]) (N:=[i]) (ps:=[(i,aj)]) (g':=ie γ.g aj v) (v':=ed γ.v (aj+16) [⟨.sl n',zs⟩]) hx.ob bh (by simp[eL,hU,bX.wr]) (by simp) (by simp[eL,bX.wr]) hx.bS (fun i hi=>oG hx hi) (fun i hi=>nl hx (by simp) hi) ⟨kK,(kG _ _ _).symm,hO.one⟩ ?_⟩
   intro j x hj Bj
   obtain⟨rfl,rfl⟩:=li hj
   refine⟨hx.bS,kK, ?_,hK,jN (γ:=γ) (i:=0) rfl (by omega) rfl⟩
   show Ow t' _ j (ys.2++K) w' (ie γ.g j v j) zs
   rw[kG]
   refine Ow.oc (fun b hb=> ?_) (fun b hb=> ?_) hO
   · show rel [(i,j)] (o' b)=j
     rw[hb,AZ]
   · have:o' b≠i:=fun e=>by
      unfold In at hb
      have:=hK _ hb
      omega
     show rel [(i,j)] (o' b)∈_
     rw[um _ this]
     exact hb
 |pre i ne j=>
  obtain⟨ao,l',ho,rfl,h⟩:=h
  cases ao with
  |box=>exact h.elim
  |bY=>exact h.elim
  |ff=>exact h.elim
  |fz=>exact h.elim
  |mp=>exact h.elim
  |sl n' t' xs K g=>
   dsimp only at h
   split at h
   case isFalse=>exact h.elim
   rename_i hn
   subst hn
   split at h
   case isFalse=>exact h.elim
   rename_i jv
   obtain⟨zs,hz,_,rfl⟩:=h
   simp only[Bool.and_eq_true] at jv
   obtain⟨jv,be⟩:=jv
   have jv:=Nat.eq_of_beq_eq_true jv
   have be:=Nat.eq_of_beq_eq_true be
   subst jv be
   obtain⟨hU,xy⟩:=dn
   obtain⟨eL,_,m0,m2,m3⟩:=hx.ob.ob _ _ ho
   have m1:=Ow.Jq m0 xy
   have hK:cU (ys.2++K):=fun z hz=>by
    rcases List.mem_append.1 hz with hz|hz
    · exact k2 z hz
    · exact m2 z hz
   have oC:gD (ys.2++K) [i]=true:=ye fun z hz=>by
    simp only[List.mem_singleton]
    rintro rfl
    have:=hK _ hz
    omega
   have AA:Ow t' γ.o i (ys.2++K) w va (xs.take j.toNat):=Ow.oc (fun _ h=>h) (fun b hb=>by unfold In at hb⊢;simp[hb]) m1
   refine OW.mono (OW.append hu hT hs hb AA (dM.weaken (fun b hb=>by unfold In at hb⊢;simp[hb]) k1) hz oC) ?_
   rintro v w' ⟨o',bh,hO⟩
   have fS:i≠aj:=fun e=>hx.fresh aj (Nat.le_refl _) (by omega) (e▸hU)
   have li:∀{j:Nat} {x:AO D},aq [(aj,some (AO.sl n' t' zs (ys.2++K) (aj+16))),(i,none)] j=some (some x)→j=aj∧x= .sl n' t' zs (ys.2++K) (aj+16):=by
    intro j' x hj
    have:=cA hj
    simp only[List.mem_cons,Prod.mk.injEq,List.not_mem_nil,or_false,Option.some.injEq,reduceCtorEq,and_false] at this
    exact this
   have um:∀z,z≠i→rel [(i,aj)] z=z:=fun z hz=>by
    unfold rel
    split
    · rename_i y hy
      have:=(jP hy).1
      exact(hz this.symm).elim
    · rfl
   have AZ:rel [(i,aj)] i=aj:=by simp[rel,aq]
   refine⟨_,mkPost (M:=[i]) (N:=[i]) (ps:=[(i,aj)]) (g':=ie γ.g aj v) (v':=ed γ.v (aj+16) [⟨.sl n',zs⟩]) hx.ob bh (by simp[eL,hU,bX.wr]) (by simp) (by simp[eL,bX.wr]) hx.bS (fun i hi=>oG hx hi) (fun i hi=>nl hx (by simp) hi) ⟨kK,(kG _ _ _).symm,hO.one⟩ ?_⟩
   intro j' x hj Bj
   obtain⟨rfl,rfl⟩:=li hj
   refine⟨hx.bS,kK, ?_,hK,jN (γ:=γ) (i:=0) rfl (by omega) rfl⟩
   show Ow t' _ j' (ys.2++K) w' (ie γ.g j' v j') zs
   rw[kG]
   refine Ow.oc (fun b hb=> ?_) (fun b hb=> ?_) hO
   · show rel [(i,j')] (o' b)=j'
     rw[hb,AZ]
   · have:o' b≠i:=fun e=>by
      unfold In at hb
      have:=hK _ hb
      omega
     show rel [(i,j')] (o' b)∈_
     rw[um _ this]
     exact hb
 |bn=>
  obtain⟨zs,hz,_,rfl⟩:=h
  have dn:va= .slice none 0 0:=dn
  subst dn
  have oC:gD ys.2 [aj]=true:=ye fun z hz=>by
   simp only[List.mem_singleton]
   rintro rfl
   have:=k2 _ hz
   have:=hx.bS
   omega
  refine OW.mono (OW.append hu hT hs hb (Ow.nil e' γ.o aj ys.2 w) k1 hz oC) ?_
  rintro v w' ⟨o',bh,hO⟩
  have Lz:ba [] [aj] γ.o w o' w':=⟨bh.os,bh.tape,bh.output,bh.size,bh.dO,bh.new,fun b hb _=>bh.jE b hb (by
   simp only[List.mem_singleton]
   exact hx.nw hb (Nat.le_refl _) (by omega))⟩
  exact DI (fz:=[]) hx k2 (by simp) (fun h=>(h rfl).elim) Lz hO
 |ch i e1 j off ct m dd=>
  obtain⟨ao,l',ho,rfl,h⟩:=h
  cases ao with
  |box=>exact h.elim
  |sl=>exact h.elim
  |ff=>exact h.elim
  |fz=>exact h.elim
  |mp=>exact h.elim
  |bY e2 te tc q xs gx h0=>
   dsimp only at h
   split at h
   case isFalse=>exact h.elim
   rename_i hc
   have hq:=h
   clear h
   simp only[Bool.and_eq_true,Bool.not_eq_true'] at hc
   obtain⟨⟨⟨⟨⟨⟨c1,c2⟩,c3⟩,c4⟩,c5⟩,c6⟩,c7⟩:=hc
   have c1:=Nat.eq_of_beq_eq_true c1
   have c2:=Nat.eq_of_beq_eq_true c2
   have c4:=Nat.eq_of_beq_eq_true c4
   have c5:=Nat.eq_of_beq_eq_true c5
   have c6:=Nat.eq_of_beq_eq_true c6
   subst c1 c2 c4 c5 c6
   have LF:ct≠0:=fun e=>by subst e;simp at c3
   obtain⟨y,hy,hq⟩:=hq
   dsimp only at hq
   split at hq
   case h_2=>exact hq.elim
   rename_i m' d' FE
   split at hq
   case isFalse=>exact hq.elim
   rename_i jx
   subst jx
   obtain⟨zs,hz,hq⟩:=hq
   dsimp only at hq
   split at hq
   case h_2=>exact hq.elim
   rename_i y' en
   obtain⟨ql,pA,_,rfl⟩:=hq
   have hK:CD P D e1 tc m':=by
    unfold RI at c7
    split at c7
    · rename_i p hp
      simp only[Bool.and_eq_true] at c7
      have BH:=Nat.eq_of_beq_eq_true c7.1
      have u5:=Nat.eq_of_beq_eq_true c7.2
      obtain⟨p1,p2⟩:=p
      subst BH u5
      exact hP.kd _ _ _ hp
    · cases c7
   haveI:=hK.one
   haveI:=hK.flat
   obtain⟨hU,⟨_,aml⟩,_,⟨b0,len,cap,cells,hg,Bq,oF⟩,_⟩:=dn
   obtain⟨eL,_,m1,m2,m3⟩:=hx.ob.ob _ _ ho
   rcases m3 with m3|⟨_,_,aiv,m4,m5⟩
   · exact(LF m3).elim
   rw[Bq] at m4
   cases m4
   have jV:(T.lv e1)[off]? =some (.sl m'):=by
    have:((T.out e1 y).map DV.l)[off]? =some (.sl m'):=by rw[List.getElem?_map,FE];rfl
    rw[aV.out,w5] at this
    exact this
   have hF:=ac' hR jV
   have hGy:AG T e1 off m' y=d':=Ru FE
   have hSy:t_ T e1 off m' y zs=y':=by unfold t_;rw[en]
   obtain⟨aO,cb,ch⟩:=LA m1 hg
   have Sy:(⟨b0,j.toNat*ad.sz (D e1),none⟩:Addr).add off=⟨b0,j.toNat*ad.sz (D e1)+off,none⟩:=Hz _ _ _
   have hE:yT (γ.g i) (ad.sz (D e1)) j ⟨b0,j.toNat*ad.sz (D e1),none⟩:=⟨⟨b0,0,none⟩,len,cap,hg,by rw[Hz,Nat.zero_add]⟩
   have hcI:yU (iu γ.o i (γ.g i)) 0 w ((⟨b0,j.toNat*ad.sz (D e1),none⟩:Addr).add off) va:=by
    rw[Sy]
    exact⟨cb,by rw[m5 b0 len cap _ hg];exact oF⟩
   refine OW.mono (OW.ali hF hu hT hs hb m1 hE hcI hy k1 (by rw[hGy];exact hz) (by rw[hSy];exact pA) rfl) ?_
   rintro v' w' ⟨o',bh,hH⟩
   rw[Sy] at hH
   have jd:v'.oneCell'=true:=by
    obtain⟨_,_,_,_,_,_,h4,_⟩:=hH
    exact h4
   have ami:b0<w.heap.size:=(Array.getElem?_eq_some_iff.1 ch).1
   obtain⟨fq,pE⟩:∃fq:bF,fq=fun b=>if b<w.heap.size then γ.o b else i:=⟨_,rfl⟩
   have uw:∀b,b<w.heap.size→fq b=γ.o b:=fun b hb=>by rw[pE];exact if_pos hb
   have mL:∀b,w.heap.size≤b→fq b=i:=fun b hb=>by rw[pE];exact if_neg (by omega)
   have Lz:ba [i] [i] γ.o w fq w':=⟨bh.os,bh.tape,bh.output,bh.size,uw,fun b h1 h2=>by rw[mL b h1];exact List.mem_singleton.2 rfl,fun b hb hm=>bh.jE b hb fun h1=>hm (by
    have:iu γ.o i (γ.g i) b=1:=by simpa using h1
    rw[(xi this).1];exact List.mem_singleton.2 rfl)⟩
   refine⟨_,mkPost (M:=[i]) (N:=[i]) (ps:=[]) (g':=ie γ.g aj v') (v':=ed γ.v (aj+16) [⟨.sl e1,ql⟩]) hx.ob Lz (by simp[eL,hU,bX.wr]) (by simp) (by simp) hx.bS (fun i hi=>oG hx hi) (fun i hi=>nl hx (by simp) hi) ⟨.inl hU,kK,(kG _ _ _).symm,jd⟩ ?_⟩
   intro k x hk Bj
   obtain⟨rfl,cD⟩:=jP hk
   cases cD
   refine⟨eL,.inl hU,jN (γ:=γ) (i:=0) rfl (by omega) rfl,kK,b0,len,cap,(oG hx hU).trans hg, ?_⟩
   show oV _ te tc (iu fq i (ie γ.g aj v' i)) 0 1 w' (ie γ.g aj v' i) ql ⟨b0,j.toNat*ad.sz (D e1)+off,none⟩ (ie γ.g aj v' aj)
   rw[oG hx hU,kG]
   refine oV.mono (fun b hb h0=>⟨?_,rfl⟩) (fun b hb h1=>⟨?_,rfl⟩) hH
   · by_cases aQ:b<w.heap.size
     · rw[bh.dO b aQ] at h0
       obtain⟨f1,f2⟩:=xj h0
       exact J8 (by rw[uw b aQ];exact f1) f2
     · have:=bh.new b (by omega) hb
       simp at this
       omega
   · by_cases aQ:b<w.heap.size
     · rw[bh.dO b aQ] at h1
       obtain⟨f1,f2⟩:=xi h1
       exact J7 (by rw[uw b aQ];exact f1) f2
     · refine J7 (mL b (by omega)) ?_
       rw[hg]
       show Nat.beq b0 b=false
       cases LR:Nat.beq b0 b with
       |true=>
        have:=Nat.eq_of_beq_eq_true LR
        omega
       |false=>rfl
 |_=>exact(h:False).elim
theorem ac1 [Rd](hP:dg P T)(hx:Cx U aj γ w sl L ob){t e' n:Nat}{x:Operand}{a:A1 D}{va:Value}{r:Int}(ht:aq T.bV t=some (e',n))(hu:ev L x=some va)(dn:dK U γ w a va)(h:Q.R ob (J2 a) l r):
  OW P Qx L ⟨d,.call {callee:= .builtin .len,args:= #[x],argTypes:= #[t]},ty,pos,af,gd⟩ w (fun v w'=>∃γ',cO U aj γ w ob ⟨iv .i64 r (aj+16),[],[]⟩ γ' v w'):=by
 obtain⟨ic,hT⟩:=hP.bV t e' n ht
 unfold J2 at h
 split at h
 · obtain⟨_,rfl⟩:=h
   exact cm (OW.len ic hu dn.1) (cY hx rfl)
 · obtain⟨_,rfl⟩:=h
   obtain⟨_,_,_,_,p,c,rfl⟩:=dn
   exact cm (OW.tZ ic hu) (cY hx rfl)
 · obtain⟨_,rfl⟩:=h
   have dn:va= .slice none 0 0:=dn
   subst dn
   have:=OW.len (P:=P) (Q:=Qx) (L:=L) (w:=w) (d:=d) (ty:=ty) (pos:=pos) (af:=af) (g:=gd) (α:=D n) ic hu (wA (fun _=>True) w)
   exact cm this (cY hx rfl)
 · obtain⟨ao,l',ho,rfl,h⟩:=h
   cases ao with
   |box=>exact h.elim
   |ff=>exact h.elim
   |bY n' t' tc q xs g h0=>
    obtain⟨_,rfl⟩:=h
    obtain⟨_,rfl,_⟩:=dn
    obtain⟨_,_,h1,_⟩:=hx.ob.ob _ _ ho
    exact cm (OW.len ic hu h1.rv) (cY hx rfl)
   |mp=>exact h.elim
   |fz n' xs K=>
    obtain⟨_,rfl⟩:=h
    obtain⟨_,rfl,_⟩:=dn
    obtain⟨_,_,h1,_⟩:=hx.ob.ob _ _ ho
    exact cm (OW.len ic hu h1) (cY hx rfl)
   |sl n' t' xs K g=>
    obtain⟨_,rfl⟩:=h
    obtain⟨_,rfl,_⟩:=dn
    obtain⟨_,_,h1,h2,_⟩:=hx.ob.ob _ _ ho
    exact cm (OW.len ic hu h1.rv) (cY hx rfl)
 · obtain⟨ao,l',ho,rfl,h⟩:=h
   obtain⟨_,hj0,p,nn,c,e1,e2,e3⟩:=dn
   cases ao with
   |sl n' t' xs K g=>
    dsimp only at h
    split at h
    case isFalse=>exact h.elim
    rename_i hn
    have hn:=Nat.eq_of_beq_eq_true hn
    subst hn
    obtain⟨_,rfl⟩:=h
    obtain⟨_,_,h1,h2,_⟩:=hx.ob.ob _ _ ho
    obtain⟨p',vf,f1,_⟩:=n_ h1.rv
    rw[e1] at f1
    simp only[Value.slice.injEq] at f1
    obtain⟨_,rfl,_⟩:=f1
    have:=OW.tZ (P:=P) (Q:=Qx) (L:=L) (w:=w) (d:=d) (ty:=ty) (pos:=pos) (af:=af) (g:=gd) ic (e2▸hu)
    refine cm this (cY hx ?_)
    show Value.int .i64 _=Value.int .i64 _
    congr 1
    show((xs.length-_:Nat):Int)=(xs.length:Int)-_
    omega
   |_=>exact h.elim
 · exact h.elim
section
variable {α:Type} [ad α] {t e:TypeId} {o:bF} {T:TypeId} {k:Nat} {K:List Nat}
theorem OW.I1 [Rd]{S:Nat→Prop}{u:Operand}{lo hi:Option Operand}{l h:Int}{v:Value}{xs zs:List α}(hu:P.underlying t=some (.slice e))(hT:bJ P e α)(hx:ev L u=some v)(hr:Rv S w v xs)(Bb:sX L lo 0 l)(uI:sX L hi (Dp.len xs) h)(hz:dw xs l h=some zs):
  OW P Qx L ⟨d,.slice t u lo hi none,ty,pos,af,gd⟩ w (fun v' w'=>w'=w∧Rv S w v' zs∧∃p cap,v= .slice p xs.length cap∧xs.length≤cap∧v'= .slice (if cap=l.toNat then p else p.map (·.add (l.toNat*ad.sz α))) (h.toNat-l.toNat) (cap-l.toNat)∧l≤h∧h≤xs.length):=by
 obtain⟨p,cap,rfl,h1,h2,h3⟩:=n_ hr
 unfold dw at hz
 split at hz
 case isFalse=>cases hz
 rename_i hb
 cases hz
 obtain⟨b1,b2,b3⟩:=hb
 have hlen:((xs.take h.toNat).drop l.toNat).length=h.toNat-l.toNat:=by simp;omega
 refine OW.run fun a ha=>⟨.slice (if cap=l.toNat then p else p.map (·.add (l.toNat*ad.sz α))) (h.toNat-l.toNat) (cap-l.toNat),w, ?_,rfl,⟨_,rfl,_,cap-l.toNat,by rw[hlen],by rw[hlen];omega,by unfold maxLen at*;omega, ?_⟩,p,cap,rfl,h1,rfl,b2,b3⟩
 · have lV:h≤(cap:Int):=by omega
   have uH:(h.toNat:Int)=h:=by omega
   have lh:(l.toNat:Int)=l:=by omega
   rcases Bb with⟨rfl,rfl⟩|⟨yl,rfl,hl⟩<;>rcases uI with⟨rfl,rfl⟩|⟨yh,rfl,hh⟩
   · simp[execOp,ha _ _ hx,Instr.sliceAt,run_underlying hu,Instr.slice,Instr.sliceBounds,hT.sizeOf,Dp.len]
   · have b0:0≤h:=by omega
     simp[execOp,ha _ _ hx,ha _ _ hh,Instr.sliceAt,run_underlying hu,Instr.slice,Instr.sliceBounds,Instr.sliceBound,asIntOf,hT.sizeOf,b0,lV]
   · have b0:l≤(xs.length:Int):=by unfold Dp.len at b2;omega
     simp[execOp,ha _ _ hx,ha _ _ hl,Instr.sliceAt,run_underlying hu,Instr.slice,Instr.sliceBounds,Instr.sliceBound,asIntOf,hT.sizeOf,b1,b0,Dp.len]
   · have b0:0≤h:=by omega
     simp[execOp,ha _ _ hx,ha _ _ hl,ha _ _ hh,Instr.sliceAt,run_underlying hu,Instr.slice,Instr.sliceBounds,Instr.sliceBound,asIntOf,hT.sizeOf,b1,b0,lV,uH,b2]
 · by_cases he:(xs.take h.toNat).drop l.toNat=[]
   · exact .inl he
   · have aQ:l.toNat<h.toNat:=by
      rcases Nat.lt_or_ge l.toNat h.toNat with hh|hh
      · exact hh
      · exact(he (List.eq_nil_of_length_eq_zero (by omega))).elim
     rcases h3 with rfl|⟨a,aw,rfl,h4,h5,h6⟩
     · simp at he
     · right
       have dy:=h5.lK
       refine⟨a.add (l.toNat*ad.sz α),(aw.take h.toNat).drop l.toNat, ?_,by rw[HA];exact h4,(h5.take _).drop _, ?_⟩
       · rw[if_neg (by omega)];rfl
       · intro j u hj
         rw[sU]
         refine h6 _ _ ?_
         rw[BE (fun c hc=>dy c (List.mem_of_mem_take hc)),uW dy,List.getElem?_drop,List.getElem?_take] at hj
         split at hj
         · exact hj
         · cases hj
theorem OW.PG [Rd]{u:Operand}{hi:Option Operand}{h:Int}{v:Value}{xs zs:List α}(hu:P.underlying t=some (.slice e))(hT:bJ P e α)(hx:ev L u=some v)(ho:Ow T o k K w v xs)(uI:sX L hi (Dp.len xs) h)(hz:dw xs 0 h=some zs):
  OW P Qx L ⟨d,.slice t u none hi none,ty,pos,af,gd⟩ w (fun v' w'=>w'=w∧Rv (In o (k::K)) w v' zs∧HM v v' h.toNat∧zs=xs.take h.toNat):=by
 refine OW.mono (OW.I1 hu hT hx ho.rv (.inl ⟨rfl,rfl⟩) uI hz) ?_
 rintro v' w' ⟨h1,h2,p,cap,h3,h4,h5,h6,h7⟩
 refine⟨h1,h2,⟨p,_,cap,h3, ?_,by omega⟩, ?_⟩
 · rw[h5]
   have:∀a:Addr,a.add 0=a:=add_zero'
   cases p<;>simp[this]
 · unfold dw at hz
   rw[if_pos ⟨by omega,h6,h7⟩] at hz
   simpa using(Option.some.inj hz).symm
theorem Ow.abO{v v':Value}{h:Int}{xs zs:List α}(ho:Ow T o k K w v xs)(hp:HM v v' h.toNat)(hz:dw xs 0 h=some zs):Ow T o k K w v' zs:=by
 unfold dw at hz
 split at hz
 case isFalse=>cases hz
 cases hz
 simpa using Ow.Jq ho hp
end
theorem aaD [Rd](hP:dg P T)(hx:Cx U aj γ w sl L ob){fl:Bool}{t e' n:Nat}{x:Operand}{lo hi:Option Operand}{a:A1 D}{as:List (AV D)}(ht:aq T.bV t=some (e',n))(he:dt sl (x::(lo.toList++hi.toList))=some (.c (.one a)::as))(h:Q.R ob (I2 fl aj (aj+16) n lo hi a as) l e):
  OW P Qx L ⟨d,.slice t x lo hi none,ty,pos,af,gd⟩ w (fun v w'=>∃γ',cO U aj γ w ob e γ' v w'):=by
 obtain⟨ic,hT⟩:=hP.bV t e' n ht
 obtain⟨qP,pL⟩:=oL he
 obtain⟨va,hu,dn⟩:=bQ hx.sr qP
 have fK:∀{x:Option Operand} {dl:Int} {as:List (AV D)} {rest:List Operand} {r:Int×List (AV D)} {l:List Nat},dt sl (x.toList++rest)=some as→Q.R ob (sS dl x as) l r→sX L x dl r.1∧dt sl rest=some r.2:=by
  intro x dl as rest r l he h
  cases x with
  |none=>
   obtain⟨_,rfl⟩:=h
   exact⟨.inl ⟨rfl,rfl⟩,he⟩
  |some y=>
   cases as with
   |nil=>have:=pW he;simp at this
   |cons a as=>
    obtain⟨f1,f2⟩:=oL he
    unfold sS at h
    split at h
    · rename_i hh;cases hh
    · rename_i q K' g' gH hh gX
      cases gX
      obtain⟨_,rfl⟩:=h
      obtain⟨v,e1,e2⟩:=bQ hx.sr f1
      have e2:v= .int .i64 q:=e2.1
      subst e2
      exact⟨.inr ⟨y,rfl,e1⟩,f2⟩
    · exact(h:False).elim
 have plain:∀{n':Nat} {xs:List (D n')} {K:List Nat} {l:List Nat},Rv (In γ.o K) w va xs→cU K→Q.R ob (nX (aj+16) n lo hi n' xs K as) l e→
   OW P Qx L ⟨d,.slice t x lo hi none,ty,pos,af,gd⟩ w (fun v w'=>∃γ',cO U aj γ w ob e γ' v w'):=by
  intro n' xs K l k1 k3 hq
  clear h
  unfold nX at hq
  split at hq
  case isFalse=>exact(hq:False).elim
  rename_i hn
  have hn:=Nat.eq_of_beq_eq_true hn
  subst hn
  obtain⟨l1,l2,r1,_,h1,hq⟩:=Q.dV hq
  obtain⟨l3,l4,r2,_,h2,hq⟩:=Q.dV hq
  split at hq
  case h_2=>exact(hq:False).elim
  rename_i A7
  obtain⟨zs,hz,_,rfl⟩:=hq
  obtain⟨b1,b2⟩:=fK pL h1
  obtain⟨b3,b4⟩:=fK (rest:=[]) (by simpa using b2) h2
  refine OW.mono (OW.slice ic hT hu k1 b1 b3 hz) ?_
  rintro v w' ⟨rfl,hr⟩
  exact⟨_,wR hx [⟨.sl n',zs⟩] (by simp) ⟨hr,jN (γ:=γ) (i:=0) rfl (by omega) rfl,k3⟩⟩
 cases a with
 |v lf xs K g=>
  cases lf with
  |sl n'=>
   have h:Q.R ob (nX (aj+16) n lo hi n' xs K as) _ e:=h
   exact plain dn.1 dn.2.2 h
  |_=>exact(h:False).elim
 |bn=>
  have dn:va= .slice none 0 0:=dn
  subst dn
  unfold I2 at h
  dsimp only at h
  obtain⟨l1,l2,r1,_,h1,hq⟩:=Q.dV h
  obtain⟨l3,l4,r2,_,h2,hq⟩:=Q.dV hq
  split at hq
  case h_2=>exact(hq:False).elim
  rename_i A7
  obtain⟨zs,hz,_,rfl⟩:=hq
  obtain⟨b1,b2⟩:=fK pL h1
  obtain⟨b3,b4⟩:=fK (rest:=[]) (by simpa using b2) h2
  have kw:∃ys,dw ([]:List (D n)) r1.1 r2.1=some ys:=by
   have ug:=hz
   unfold dw at ug
   split at ug
   case isFalse=>cases ug
   rename_i hb
   exact⟨_,if_pos hb⟩
  obtain⟨ys,kw⟩:=kw
  refine OW.mono (OW.I1 (xs:=([]:List (D n))) ic hT hu (wA (fun _=>True) w) b1 b3 kw) ?_
  rintro v w' ⟨rfl,_,p,cap,e1,e2,e3,e4,e5⟩
  unfold dw at hz
  split at hz
  case isFalse=>cases hz
  rename_i hb
  have hv:v= .slice none 0 0:=by
   simp only[Value.slice.injEq] at e1
   obtain⟨rfl,_,rfl⟩:=e1
   have l0:r1.1.toNat=0:=by have:=hb.1;have:=hb.2.1;have:=hb.2.2;unfold Dp.len at this;simp at this;omega
   have h0:r2.1.toNat=0:=by have:=hb.2.2;unfold Dp.len at this;simp at this;omega
   rw[e3,l0,h0]
   simp
  exact⟨γ,kU hx hv⟩
 |own i=>
  obtain⟨ao,l',ho,rfl,h⟩:=h
  obtain⟨hU,rfl,_⟩:=dn
  cases ao with
  |box=>exact(h:False).elim
  |bY=>exact(h:False).elim
  |ff=>exact(h:False).elim
  |mp=>exact h.elim
  |fz n' xs K=>
   obtain⟨_,_,k1,k2⟩:=hx.ob.ob _ _ ho
   exact plain k1 k2 h
  |sl n' t' xs K g=>
   dsimp only at h
   split at h
   case h_2=>
    rename_i _ lo1
    split at h
    case h_2=>exact(h:False).elim
    split at h
    case isFalse=>exact(h:False).elim
    rename_i hn
    have hn:=Nat.eq_of_beq_eq_true hn
    subst hn
    obtain⟨l1,l2,r2,_,h2,h⟩:=Q.dV h
    split at h
    case h_2=>exact(h:False).elim
    rename_i A7
    obtain⟨zs,hz,_,rfl⟩:=h
    obtain⟨_,_,m1,_⟩:=hx.ob.ob _ _ ho
    obtain⟨b3,b4⟩:=fK (rest:=[]) (by simpa using pL) h2
    refine OW.mono (OW.I1 ic hT hu m1.rv b3 (.inl ⟨rfl,rfl⟩) hz) ?_
    rintro v w' ⟨rfl,_,p,cap,e1,e2,e3,e4,e5⟩
    have hz0:0≤r2.1:=by
     unfold dw at hz
     split at hz
     case isFalse=>cases hz
     rename_i hb
     exact hb.1
    refine⟨γ,kU hx ⟨hU,hz0,p,xs.length,cap,e1, ?_, ?_⟩⟩
    · rw[e3]
      unfold Dp.len
      simp
    · unfold Dp.len at e4
      omega
   split at h
   case isFalse=>exact(h:False).elim
   rename_i hn
   have hn:=Nat.eq_of_beq_eq_true hn
   subst hn
   obtain⟨l1,l2,r2,_,h2,h⟩:=Q.dV h
   split at h
   case h_2=>exact(h:False).elim
   rename_i A7
   obtain⟨eL,_,m1,m2,m3⟩:=hx.ob.ob _ _ ho
   obtain⟨b3,b4⟩:=fK (rest:=[]) (by simpa using pL) h2
   cases fl with
   |true=>
    obtain⟨zs,hz,_,rfl⟩:=h
    refine OW.mono (OW.PG ic hT hu m1 b3 hz) ?_
    rintro v w' ⟨rfl,_,hp,_⟩
    exact⟨γ,kU hx ⟨hU,hp⟩⟩
   |false=>
   obtain⟨zs,hz,_,rfl⟩:=h
   refine OW.mono (OW.PG ic hT hu m1 b3 hz) ?_
   rintro v w' ⟨rfl,_,hp,_⟩
   have hO:=Ow.abO m1 hp hz
   have fS:i≠aj:=fun e=>hx.fresh aj (Nat.le_refl _) (by omega) (e▸hU)
   have li:∀{j:Nat} {x:AO D},aq [(aj,some (AO.sl n' t' zs K (aj+16))),(i,none)] j=some (some x)→j=aj∧x= .sl n' t' zs K (aj+16):=by
    intro j x hj
    have:=cA hj
    simp only[List.mem_cons,Prod.mk.injEq,List.not_mem_nil,or_false,Option.some.injEq,reduceCtorEq,and_false] at this
    exact this
   have um:∀z,z≠i→rel [(i,aj)] z=z:=fun z hz=>by
    unfold rel
    split
    · rename_i y hy
      have:=(jP hy).1
      exact(hz this.symm).elim
    · rfl
   have AZ:rel [(i,aj)] i=aj:=by simp[rel,aq]
   refine⟨_,mkPost (M:=[]) (N:=[]) (ps:=[(i,aj)]) (g':=ie γ.g aj v) (v':=ed γ.v (aj+16) [⟨.sl n',zs⟩]) hx.ob (ba.refl _ _ _ _) (by simp) (by simp) (by simp[eL,bX.wr]) hx.bS (fun i hi=>oG hx hi) (fun i hi=>nl hx (by simp) hi) ⟨kK,(kG _ _ _).symm,hO.one⟩ ?_⟩
   intro j x hj Bj
   obtain⟨rfl,rfl⟩:=li hj
   refine⟨hx.bS,kK, ?_,m2,jN (γ:=γ) (i:=0) rfl (by omega) rfl⟩
   show Ow t' _ j K w' (ie γ.g j v j) zs
   rw[kG]
   refine Ow.oc (fun b hb=> ?_) (fun b hb=> ?_) hO
   · show rel [(i,j)] (γ.o b)=j
     rw[hb,AZ]
   · have:γ.o b≠i:=fun e=>by
      unfold In at hb
      have:=m2 _ hb
      omega
     show rel [(i,j)] (γ.o b)∈_
     rw[um _ this]
     exact hb
 |_=>exact(h:False).elim
theorem aim [Rd](hP:dg P T)(hR:bR T)(hx:Cx U aj γ w sl L ob){t e' n i:Nat}{x:Operand}{v:Value}{j:Int}(ht:aq T.bV t=some (e',n))(hu:ev L x=some v)(hv:dK U γ w (.tail i n j) v)
  (h:Q.R ob (.obj i fun
        | .sl n0 te xs K _=>if Nat.beq n0 n then .ret ⟨.cP [],[(i,some (.sl n0 te (mU (T.zero n0) xs j) K (aj+16)))],[]⟩ else .fail
        |_=> .fail) l e):
  OW P Qx L ⟨d,.call {callee:= .builtin .clear,args:= #[x],argTypes:= #[t]},ty,pos,af,gd⟩ w (fun v w'=>∃γ',cO U aj γ w ob e γ' v w'):=by
 obtain⟨ic,hT⟩:=hP.bV t e' n ht
 obtain⟨ao,l',ho,rfl,h⟩:=h
 cases ao with
 |box=>exact(h:False).elim
 |bY=>exact(h:False).elim
 |ff=>exact(h:False).elim
 |fz=>exact(h:False).elim
 |mp=>exact(h:False).elim
 |sl n0 te xs K g=>
  dsimp only at h
  split at h
  case isFalse=>exact(h:False).elim
  rename_i hn
  have hn:=Nat.eq_of_beq_eq_true hn
  subst hn
  obtain⟨_,rfl⟩:=h
  obtain⟨hU,_,xr⟩:=hv
  obtain⟨eL,_,m1,m2,_⟩:=hx.ob.ob _ _ ho
  have oC:gD K [i]=true:=ye fun z hz=>by
   simp only[List.mem_singleton]
   rintro rfl
   have:=m2 _ hz
   omega
  refine OW.mono (OW.aio ic hT hu m1 xr oC) ?_
  rintro v' w' ⟨rfl,bh,hO⟩
  rw[hR.zero] at hO
  refine⟨_,mkPost (M:=[i]) (N:=[]) (ps:=[]) (g':=γ.g) (v':=ed γ.v (aj+16) [⟨.sl n0,mU (T.zero n0) xs j⟩]) hx.ob bh (by simp[eL,hU,bX.wr]) (by simp) (by simp) hx.bS (fun _ _=>rfl) (fun i hi=>nl hx (by simp) hi) ⟨[],rfl,trivial⟩ ?_⟩
  intro k x hk gW
  obtain⟨rfl,cD⟩:=jP hk
  cases cD
  exact⟨eL,.inl hU,hO,m2,jN (γ:=γ) (i:=0) rfl (by omega) rfl⟩
theorem Up [Rd](hP:dg P T)(hR:bR T)(hx:Cx U aj γ w sl L ob){t e' n i:Nat}{x y:Operand}{vb v:Value}{j:Int}{ys:List (D n)×List Nat}(ht:aq T.bV t=some (e',n))(hu:ev L x=some v)(hU:U i)(j0:0≤j)
  (hv:∀{T':TypeId} {K:List Nat} {xs:List (D n)},Ow T' γ.o i K w (γ.g i) xs→Cz (ad.sz (D n)) (γ.g i) v j.toNat) (hb:ev L y=some vb) (hE:dM (In γ.o ys.2) w vb ys.1) (pB:cU ys.2) (h:Q.R ob (Gv T aj n i j ys) l e):
  OW P Qx L ⟨d,.call {callee:= .builtin .copy,args:= #[x,y],argTypes:= #[t,t]},ty,pos,af,gd⟩ w (fun v w'=>∃γ',cO U aj γ w ob e γ' v w'):=by
 obtain⟨ic,hT⟩:=hP.bV t e' n ht
 unfold Gv at h
 obtain⟨ao,l',ho,rfl,h⟩:=h
 cases ao with
 |box=>exact(h:False).elim
 |bY=>exact(h:False).elim
 |ff=>exact(h:False).elim
 |fz=>exact(h:False).elim
 |mp=>exact(h:False).elim
 |sl n0 te xs K g=>
  dsimp only at h
  split at h
  case isFalse=>exact(h:False).elim
  rename_i hn
  subst hn
  obtain⟨_,rfl⟩:=h
  obtain⟨eL,_,m1,m2,_⟩:=hx.ob.ob _ _ ho
  have hK:cU (ys.2++K):=fun z hz=>by
   rcases List.mem_append.1 hz with hz|hz
   · exact pB z hz
   · exact m2 z hz
  have oC:gD (ys.2++K) [i]=true:=ye fun z hz=>by
   simp only[List.mem_singleton]
   rintro rfl
   have:=hK _ hz
   omega
  have AA:Ow te γ.o i (ys.2++K) w (γ.g i) xs:=Ow.oc (fun _ h=>h) (fun b hb=>by unfold In at hb⊢;simp[hb]) m1
  have xr:=hv m1
  have bZ:j.toNat≤xs.length:=by
   obtain⟨p,m,c,q1,_,q3⟩:=xr
   rcases m1 with⟨q,rfl⟩|⟨gg,cap,aO,aw,q,_⟩
   · rw[q] at q1;cases q1;exact q3
   · rw[q] at q1;cases q1;exact q3
  refine OW.mono (OW.ah9 ic hT hu hb AA xr (dM.weaken (fun b hb=>by unfold In at hb⊢;simp[hb]) hE) oC) ?_
  rintro v' w' ⟨rfl,bh,hO⟩
  have jg:((min ys.1.length (xs.length-j.toNat):Nat):Int)=BV (len xs) j (len ys.1):=by
   unfold BV len
   split<;>omega
  refine⟨_,mkPost (M:=[i]) (N:=[]) (ps:=[]) (g':=γ.g) (v':=ed γ.v (aj+16) [⟨.sl n0,Gt xs j ys.1⟩]) hx.ob bh (by simp[eL,hU,bX.wr]) (by simp) (by simp) hx.bS (fun _ _=>rfl) (fun i hi=>nl hx (by simp) hi) ?_ ?_⟩
  · rw[jg]
    exact⟨rfl,EC _,iZ⟩
  · intro k x hk gW
    obtain⟨rfl,cD⟩:=jP hk
    cases cD
    exact⟨eL,.inl hU,hO,hK,jN (γ:=γ) (i:=0) rfl (by omega) rfl⟩
theorem ah8 [Rd](hP:dg P T)(hR:bR T)(hx:Cx U aj γ w sl L ob){t e' n:Nat}{s x:Operand}{a b:A1 D}{va vb:Value}(ht:aq T.bV t=some (e',n))(hs:ev L s=some va)(dn:dK U γ w a va)(hb:ev L x=some vb)(Ky:dK U γ w b vb)
  (h:Q.R ob (MT T aj n a b) l e):
  OW P Qx L ⟨d,.call {callee:= .builtin .copy,args:= #[s,x],argTypes:= #[t,t]},ty,pos,af,gd⟩ w (fun v w'=>∃γ',cO U aj γ w ob e γ' v w'):=by
 unfold MT at h
 obtain⟨l1,l2,y0,_,h1,h⟩:=Q.dV h
 obtain⟨xl,E3⟩:=Jl hx.ob h1 Ky
 have kf:dM (In γ.o (pU T n y0.2)) w vb y0.1∧cU (pU T n y0.2):=by
  unfold pU
  split
  · rename_i hf
    haveI:=hR.flat hf
    exact⟨dM.flat xl,fun z hz=>by cases hz⟩
  · exact⟨xl,E3⟩
 cases a with
 |own i=>
  obtain⟨hU,rfl,_⟩:=dn
  refine Up hP hR hx ht hs hU (Int.le_refl 0) (fun m1=> ?_) hb kf.1 kf.2 h
  rcases m1 with⟨q,rfl⟩|⟨gg,cap,aO,aw,q,_⟩
  · exact⟨_,_,_,q,by rw[q];simp,Nat.zero_le _⟩
  · refine⟨_,_,_,q, ?_,Nat.zero_le _⟩
    rw[q]
    have dH:(⟨gg,0,none⟩:Addr).add 0=⟨gg,0,none⟩:=Hz gg 0 0
    simp[dH]
 |tail i n' j=>
  dsimp only at h
  split at h
  case isFalse=>exact(h:False).elim
  rename_i hn
  have hn:=Nat.eq_of_beq_eq_true hn
  subst hn
  obtain⟨hU,j0,xr⟩:=dn
  exact Up hP hR hx ht hs hU j0 (fun _=>xr) hb kf.1 kf.2 h
 |_=>exact(h:False).elim
theorem pi [Rd](hx:Cx U aj γ w sl L ob){op:Op}{v:Value}{a:AV D}(h1:Dp.pv L op=some v)(h2:eP U γ w a v):OW P Qx L ⟨d,op,ty,pos,af,gd⟩ w (fun v w'=>∃γ',cO U aj γ w ob ⟨a,[],[]⟩ γ' v w'):=cm (OW.pv h1) (kU hx h2)
theorem Qq [Rd](hx:Cx U aj γ w sl L ob){op:Op}{v:Value}{lf:Lf}{x:lf.den D}(h1:Dp.pv L op=some v)(h2:cL (In γ.o []) w v ⟨lf,x⟩):OW P Qx L ⟨d,op,ty,pos,af,gd⟩ w (fun v w'=>∃γ',cO U aj γ w ob ⟨.c (.one (.v lf x [] (aj+16))),[],[]⟩ γ' v w'):=cm (OW.pv h1) (cY hx h2)
theorem GG(hs:SR U γ w sl L):∀{xs:List Operand} {as:List (AV D)} {cs:List (A0 D)},dt sl xs=some as→wZ.yk as=some cs→∃vs,lu L xs=some vs∧jG U γ w cs vs
 |[],as,cs,h,hc=>by
  simp only[dt,Option.some.injEq] at h
  subst h
  simp only[wZ.yk,Option.some.injEq] at hc
  subst hc
  exact⟨[],rfl,trivial⟩
 |x::r,as,cs,h,hc=>by
  cases as with
  |nil=>have:=pW h;simp at this
  |cons a as=>
   obtain⟨h1,h2⟩:=oL h
   obtain⟨v,e1,e2⟩:=bQ hs h1
   unfold wZ.yk at hc
   split at hc
   · rename_i hh;cases hh
   · rename_i i off r' gX
     cases gX
     split at hc
     · rename_i l' hl
       cases hc
       obtain⟨vs,e3,e4⟩:=GG hs h2 hl
       exact⟨v::vs,by simp[lu,e1,e3],e2,e4⟩
     · cases hc
   · rename_i n y off K r' gX
     cases gX
     split at hc
     · rename_i l' hl
       cases hc
       obtain⟨vs,e3,e4⟩:=GG hs h2 hl
       exact⟨v::vs,by simp[lu,e1,e3],e2,e4⟩
     · cases hc
   · cases hc
theorem Er{c:Array Operand}{a:AV D}(h:dt sl c.toList=some [a]):∃x,c= #[x]∧eb sl x=some a:=by
 obtain⟨l⟩:=c
 have:=pW h
 match l,this with
 |[x],_=>exact⟨x,rfl,kI h⟩
theorem As{c:Array Operand}{a b:AV D}(h:dt sl c.toList=some [a,b]):∃x y,c= #[x,y]∧eb sl x=some a∧eb sl y=some b:=by
 obtain⟨l⟩:=c
 have:=pW h
 match l,this with
 |[x,y],_=>exact⟨x,y,rfl,(nG h).1,(nG h).2⟩
theorem ab0{c:Array Operand}{a b d:AV D}(h:dt sl c.toList=some [a,b,d]):∃x y z,c= #[x,y,z]∧eb sl x=some a∧eb sl y=some b∧eb sl z=some d:=by
 obtain⟨l⟩:=c
 have:=pW h
 match l,this with
 |[x,y,z],_=>
  cases h1:eb sl x<;>cases h2:eb sl y<;>cases h3:eb sl z<;>simp[dt,h1,h2,h3] at h
  exact⟨x,y,z,rfl,by rw[h1,h.1],by rw[h2,h.2.1],by rw[h3,h.2.2]⟩
theorem ab9 [Rd](hP:dg P T)(hR:bR T)(hx:Cx U aj γ w sl L ob){op:Op}{as:List (AV D)}(he:dt sl op.operands.toList=some as)(h:Q.R ob (wZ T aj op as) l e):
  OW P Qx L ⟨d,op,ty,pos,af,gd⟩ w (fun v w'=>∃γ',cO U aj γ w ob e γ' v w'):=by
 unfold wZ at h
 split at h
 ·
  obtain⟨_,rfl⟩:=h
  obtain⟨v,h1,h2⟩:=bQ hx.sr (kI he)
  exact pi hx h1 h2
 ·
  obtain⟨_,rfl⟩:=h
  obtain⟨v,h1,h2⟩:=bQ hx.sr (kI he)
  exact pi hx h1 h2
 ·
  rename_i c a b _ _ _
  split at h
  case h_2=>exact(h:False).elim
  rename_i dd K g
  obtain⟨e1,e2,e3⟩:=T_ he
  obtain⟨v1,h1,fT⟩:=bQ hx.sr e1
  obtain⟨v2,h2,FT⟩:=bQ hx.sr e2
  obtain⟨v3,h3,xM⟩:=bQ hx.sr e3
  have agT:v1= .bool dd:=fT.1
  subst agT
  cases dd with
  |true=>
   obtain⟨_,rfl⟩:=h
   exact pi hx (by simp only[Dp.pv,h1];exact h2) FT
  |false=>
   obtain⟨_,rfl⟩:=h
   exact pi hx (by simp only[Dp.pv,h1];exact h3) xM
 ·
  obtain⟨e1,e2⟩:=nG he
  split at h
  · split at h
    case h_2=>exact(h:False).elim
    rename_i n hn
    exact ahO hP hx hn e1 e2 h
  · split at h
    case h_2=>exact(h:False).elim
    rename_i hn
    exact Ct hP hx hn e1 e2 h
  · split at h
    case h_2=>exact(h:False).elim
    rename_i q hq
    obtain⟨te,n⟩:=q
    exact acf (hP.bV _ _ _ hq).1 hx e1 e2 h
  · exact ald hx e1 e2 h
 ·
  split at h
  case h_2=>exact(h:False).elim
  obtain⟨_,rfl⟩:=h
  obtain⟨v,h1,h2⟩:=bQ hx.sr (kI he)
  have h2:=h2.1
  dsimp only[cL] at h2
  subst h2
  exact Qq hx (by simp only[Dp.pv,h1]) rfl
 ·
  split at h
  case h_2=>exact(h:False).elim
  obtain⟨_,rfl⟩:=h
  obtain⟨v,h1,h2⟩:=bQ hx.sr (kI he)
  have h2:=h2.1
  dsimp only[cL] at h2
  subst h2
  exact Qq hx (by simp only[Dp.pv,h1]) rfl
 ·
  split at h
  · obtain⟨_,rfl⟩:=h
    obtain⟨v,h1,h2⟩:=bQ hx.sr (kI he)
    obtain⟨hU,b,hg,rfl⟩:=id h2
    exact pi hx (by simp only[Dp.pv,h1,dD]) h2
  · obtain⟨_,rfl⟩:=h
    obtain⟨v,h1,h2⟩:=bQ hx.sr (kI he)
    obtain⟨pa,rfl,_⟩:=id h2
    exact pi hx (by simp only[Dp.pv,h1]) h2
  · obtain⟨_,rfl⟩:=h
    obtain⟨v,h1,h2⟩:=bQ hx.sr (kI he)
    obtain⟨_,_,_,_,b,len,cap,_,rfl⟩:=id h2
    exact pi hx (by simp only[Dp.pv,h1,dD]) h2
  · exact(h:False).elim
 ·
  split at h
  case h_2=>exact(h:False).elim
  split at h
  case h_2=>exact(h:False).elim
  rename_i i _ ll x cD
  obtain⟨_,rfl⟩:=h
  obtain⟨v,h1,us,rfl,h2⟩:=bQ hx.sr (kI he)
  have:∀{ll:List (AC D)} {us:List Value} {i:Nat} {x:AC D},gJ U γ w ll us→ll[i]? =some x→∃u,us[i]? =some u∧j6 U γ w x u:=by
   intro ll
   induction ll with
   |nil=>intro us i x _ h;simp at h
   |cons a ll ih=>
    intro us i x h hi
    cases us with
    |nil=>exact h.elim
    |cons u us=>
     cases i with
     |zero=>cases hi;exact⟨u,rfl,h.1⟩
     |succ i=>simpa using ih h.2 (by simpa using hi)
  obtain⟨u,h3,h4⟩:=this h2 cD
  exact pi hx (by simp only[Dp.pv,h1];simpa using h3) h4
 ·
  rename_i _ _ t x i a
  have JA:∀{o:Nat},JB T t i=some o→g9 P t i o:=by
   intro o ho
   unfold JB at ho
   split at ho
   · rename_i pl k9
     split at ho
     · rename_i p hp
       cases ho
       exact(hP.oJ t pl k9).2 i p.1 p.2 hp
     · cases ho
   · cases ho
  obtain⟨v,h1,h2⟩:=bQ hx.sr (kI he)
  split at h
  · rename_i o j off ho
    obtain⟨_,rfl⟩:=h
    obtain⟨hU,b,hg,rfl⟩:=h2
    have:=OW.Mn (P:=P) (Q:=Qx) (L:=L) (w:=w) (d:=d) (ty:=ty) (pos:=pos) (af:=af) (g:=gd) (JA ho) h1
    refine cm this (kU hx ⟨hU,b,hg, ?_⟩)
    unfold dD Addr.add
    split<;>simp_all
  · rename_i o n y off K ho
    obtain⟨_,rfl⟩:=h
    obtain⟨pa,rfl,h3,h4⟩:=h2
    have:=OW.Mn (P:=P) (Q:=Qx) (L:=L) (w:=w) (d:=d) (ty:=ty) (pos:=pos) (af:=af) (g:=gd) (JA ho) h1
    exact cm this (kU hx ⟨pa,by rw[sU],h3,h4⟩)
  · rename_i o j n k y off tc tj ho
    obtain⟨_,rfl⟩:=h
    obtain⟨h3,h4,h5,h6,b,len,cap,h7,rfl⟩:=h2
    have:=OW.Mn (P:=P) (Q:=Qx) (L:=L) (w:=w) (d:=d) (ty:=ty) (pos:=pos) (af:=af) (g:=gd) (JA ho) h1
    refine cm this (kU hx ⟨h3,h4,h5,h6,b,len,cap,h7, ?_⟩)
    unfold dD Addr.add
    split<;>simp_all<;>omega
  · exact(h:False).elim
 ·
  split at h
  case h_2=>exact(h:False).elim
  rename_i cj p ht
  obtain⟨v,h1,h2⟩:=bQ hx.sr (kI he)
  exact acS hP hR hx ht h1 h2 h
 ·
  split at h
  case h_2=>exact(h:False).elim
  rename_i cj p ht
  obtain⟨e1,e2⟩:=nG he
  obtain⟨v,h1,h2⟩:=bQ hx.sr e1
  obtain⟨v',h3,h4⟩:=bQ hx.sr e2
  exact aad hP hR hx ht h1 h2 h3 h4 h
 ·
  split at h
  case h_2=>exact(h:False).elim
  rename_i cs fu
  split at h
  case isFalse=>exact(h:False).elim
  rename_i hs
  obtain⟨_,rfl⟩:=h
  obtain⟨v,h1,h2⟩:=bQ hx.sr (kI he)
  exact ak' hx h1 h2 fu hs
 ·
  split at h
  case h_2=>exact(h:False).elim
  rename_i cj ht
  split at h
  case h_2=>exact(h:False).elim
  rename_i cs hz
  obtain⟨_,rfl⟩:=h
  exact alo hP hx ht hz
 ·
  split at h
  · rename_i m e' n ht
    split at h
    case isFalse=>exact(h:False).elim
    rename_i hb
    simp only[Bool.and_eq_true] at hb
    obtain⟨l1,l2,r,_,h1,h2⟩:=Q.dV h
    split at h2
    · split at h2
      case isFalse=>exact(h2:False).elim
      rename_i dG
      simp only[Bool.and_eq_true,List.isEmpty_iff] at dG
      obtain⟨_,rfl⟩:=h2
      exact akY hP hR hx ht hb.1 (Nat.eq_of_beq_eq_true hb.2) he h1 dG.1 (Nat.le_of_ble_eq_true dG.2)
    obtain⟨_,rfl⟩:=h2
    exact akX hP hR hx ht hb.1 (Nat.eq_of_beq_eq_true hb.2) he h1
  split at h
  case h_2=>exact(h:False).elim
  rename_i n pl ht hl
  split at h
  case h_2=>exact(h:False).elim
  rename_i cs fu
  obtain⟨_,rfl⟩:=h
  exact akU hP hx ht hl he fu
 ·
  split at h
  case h_4=>exact(h:False).elim
  case h_3=>
   rename_i x K' g j K2 tj ov
   split at h
   case h_2=>exact(h:False).elim
   rename_i ci
   obtain⟨c,hc,_,rfl⟩:=h
   obtain⟨e1,e2⟩:=nG he
   obtain⟨v,g1,g2⟩:=bQ hx.sr e1
   obtain⟨v',g3,g4⟩:=bQ hx.sr e2
   have g5:v'= .int .i64 j:=g4.1
   have g6:v= .string x:=g2.1
   subst g5 g6
   exact cm (OW.adO (hP.ty _ _ ci).2 g1 g3 hc) (cY hx rfl)
  case h_2=>
   rename_i m e' n cs j K' tj ht
   split at h
   · exact(h:False).elim
   rename_i LV
   obtain⟨l1,l2,x,_,h1,h⟩:=Q.dV h
   split at h
   case isFalse=>exact(h:False).elim
   rename_i hb
   simp only[Bool.and_eq_true,List.isEmpty_iff] at hb
   obtain⟨y,hy,h⟩:=h
   dsimp only at h
   split at h
   case h_2=>exact(h:False).elim
   rename_i r hr
   obtain⟨_,rfl⟩:=h
   obtain⟨e1,e2⟩:=nG he
   obtain⟨v,g1,us,rfl,g2⟩:=bQ hx.sr e1
   obtain⟨v',g3,g4⟩:=bQ hx.sr e2
   have g5:v'= .int .i64 j:=g4.1
   subst g5
   have g6:=alr hR hx.ob (by simpa using LV) h1 g2 hb.1
   exact RP hP hR hx ht (Nat.eq_of_beq_eq_true hb.2) g1 g6 g3 hy hr
  rename_i m e' n n' xs K j K' tj ht
  split at h
  case isFalse=>exact(h:False).elim
  rename_i hb
  simp only[Bool.and_eq_true] at hb
  obtain⟨hn,hm⟩:=hb
  have hn:=Nat.eq_of_beq_eq_true hn
  subst hn
  obtain⟨y,hy,h⟩:=h
  dsimp only at h
  split at h
  case h_2=>exact(h:False).elim
  rename_i r hr
  obtain⟨_,rfl⟩:=h
  obtain⟨e1,e2⟩:=nG he
  obtain⟨v,h1,h2⟩:=bQ hx.sr e1
  obtain⟨v',h3,h4⟩:=bQ hx.sr e2
  have h5:v'= .int .i64 j:=h4.1
  subst h5
  exact RP hP hR hx ht (Nat.eq_of_beq_eq_true hm) h1 h2 h3 hy hr
 ·
  split at h
  case h_2=>exact(h:False).elim
  rename_i e' n ht
  split at h
  case isFalse=>exact(h:False).elim
  rename_i hb
  simp only[Bool.and_eq_true] at hb
  obtain⟨l1,l2,r,_,h1,h2⟩:=Q.dV h
  obtain⟨_,rfl⟩:=h2
  exact akV hP hR hx ht hb.1.1 (Nat.eq_of_beq_eq_true hb.1.2) (Nat.le_of_ble_eq_true hb.2) he h1
 ·
  split at h
  case h_3=>exact(h:False).elim
  case h_2=>
   rename_i io _ _ _ b off j K tj ht
   split at h
   case h_2=>exact(h:False).elim
   rename_i m e' n q har
   split at h
   case isFalse=>exact(h:False).elim
   rename_i hq
   obtain⟨_,rfl⟩:=h
   obtain⟨e1,e2⟩:=nG he
   obtain⟨v,h1,h2⟩:=bQ hx.sr e1
   obtain⟨hU,c,hg,rfl⟩:=h2
   have hA:=hP.mi _ _ _ _ har
   have:=OW.adD (P:=P) (Q:=Qx) (L:=L) (w:=w) (d:=d) (ty:=ty) (pos:=pos) (af:=af) (g:=gd) (i:= .const (.int .i64 (Int.ofNat q))) hA.qo hA.el h1 rfl (Nat.le_of_ble_eq_true hq)
   refine cm this (kU hx ⟨hU,c,hg, ?_⟩)
   rw[hR.sz]
   unfold dD Addr.add
   split<;>simp_all
  rename_i e' n a j K tj ht
  obtain⟨e1,e2⟩:=nG he
  obtain⟨v,h1,h2⟩:=bQ hx.sr e1
  obtain⟨v',h3,h4⟩:=bQ hx.sr e2
  have h5:v'= .int .i64 j:=h4.1
  subst h5
  exact adM hP hx ht h1 h2 h3 h4.2.1 h
 ·
  split at h
  case h_2=>exact(h:False).elim
  rename_i e' n m K g ht
  split at h
  case isFalse=>exact(h:False).elim
  rename_i hs
  obtain⟨zs,hz,h⟩:=h
  obtain⟨e1,e2⟩:=nG he
  obtain⟨v,h1,h2⟩:=bQ hx.sr e1
  have h5:v= .int .i64 m:=h2.1
  subst h5
  dsimp only at h
  split at h
  · rename_i tc q hk
    obtain⟨_,rfl⟩:=h
    exact acw hP hR hx ht hk h1 hs hz
  · obtain⟨_,rfl⟩:=h
    exact acu hP hR hx ht h1 hs hz
 ·
  rename_i _ _ t x lo hi a gH
  split at h
  case h_2=>exact(h:False).elim
  rename_i e' n a ht
  exact aaD hP hx ht (by simpa[Op.operands] using he) h
 ·
  split at h
  case h_2=>exact(h:False).elim
  rename_i kt vt n ht
  obtain⟨_,rfl⟩:=h
  exact acv hx
 ·
  split at h
  case h_2=>exact(h:False).elim
  rename_i kt vt n ht
  obtain⟨e1,e2⟩:=nG he
  exact acn hP hR hx ht e1 e2 h
 ·
  split at h
  case h_2=>exact(h:False).elim
  rename_i kt vt n ht
  obtain⟨e1,e2,e3⟩:=T_ he
  exact acj hP hR hx ht e1 e2 e3 h
 ·
  split at h
  case h_4=>exact(h:False).elim
  case h_2=>
   rename_i m0 x K g xv Sh
   split at h
   case h_2=>exact(h:False).elim
   rename_i te n hq
   split at h
   case h_2=>exact(h:False).elim
   rename_i KC
   split at h
   case isFalse=>exact(h:False).elim
   rename_i jV
   obtain⟨xs,dx,_,rfl⟩:=h
   obtain⟨v,h1,h2⟩:=bQ hx.sr (kI he)
   have h5:v= .string x:=h2.1
   subst h5
   exact akR hR hx (hP.ty _ _ xv).2 (hP.bV _ _ _ hq).1 (hP.ty _ _ KC).2 jV h1 dx
  case h_3=>
   rename_i m0 a xv Sh
   split at h
   case h_2=>exact(h:False).elim
   rename_i te n hq
   split at h
   case h_2=>exact(h:False).elim
   rename_i KC
   split at h
   case isFalse=>exact(h:False).elim
   rename_i jV
   obtain⟨l1,l2,r,_,h1,h2⟩:=Q.dV h
   obtain⟨_,rfl⟩:=h2
   obtain⟨v,h3,h4⟩:=bQ hx.sr (kI he)
   exact aaa hR hx (hP.bV _ _ _ hq).1 (hP.ty _ _ KC).2 (hP.ty _ _ Sh).2 jV h3 (Jl hx.ob h1 h4).1
  rename_i k1 k2 k3 n K g hs ht
  obtain⟨v,h1,h2⟩:=bQ hx.sr (kI he)
  have h5:v= .int _ n:=h2.1
  subst h5
  have u1:P.underlying _=some (.int _):=(hP.ty _ _ hs).2
  have u2:P.underlying _=some (.int _):=(hP.ty _ _ ht).2
  split at h
  · obtain⟨_,rfl⟩:=h
    have:=OW.conv (P:=P) (Q:=Qx) (L:=L) (w:=w) (d:=d) (ty:=ty) (pos:=pos) (af:=af) (g:=gd) ⟨_,u1⟩ u2 h1
    exact cm this (cY hx rfl)
  · obtain⟨_,rfl⟩:=h
    refine cm (v:= .int k2 (k2.wrap n)) (OW.run fun a ha=>⟨_,w, ?_,rfl,rfl⟩) (cY hx rfl)
    simp[execOp,ha _ _ h1,convert,run_underlying u1,run_underlying u2,Conv.intToInt]
 ·
  rename_i f first fI
  split at h
  case isFalse=>exact(h:False).elim
  rename_i hf
  split at h
  case h_2=>exact(h:False).elim
  rename_i cs fu
  split at h
  · rename_i h0
    have h0:=Nat.eq_of_beq_eq_true h0
    have h0:first= #[]:=by simpa using h0
    subst h0
    obtain⟨_,rfl⟩:=h
    obtain⟨vs,h1,h2⟩:=GG hx.sr (by simpa[Op.operands] using he) fu
    exact pi hx (v:= .func (.func f) #[] vs.toArray) (by simp[Dp.pv,lu,h1]) ⟨vs,by unfold pT;rw[if_pos hf],h2⟩
  · split at h
    case isFalse=>exact(h:False).elim
    rename_i h0
    have h0:=Nat.eq_of_beq_eq_true h0
    have h0:fI= #[]:=by simpa using h0
    subst h0
    obtain⟨_,rfl⟩:=h
    obtain⟨vs,h1,h2⟩:=GG hx.sr (by simpa[Op.operands] using he) fu
    have hb:¬Nat.blt (f+1000000) 1000000=true:=fun hh=>by have:=Nat.le_of_ble_eq_true hh;omega
    exact pi hx (v:= .func (.func f) vs.toArray #[]) (by simp[Dp.pv,lu,h1]) ⟨vs,by unfold pT;rw[if_neg hb,Nat.add_sub_cancel],h2⟩
 ·
  rename_i b GF ts
  have pO:dt sl GF.toList=some as:=by simpa[Op.operands,Call.operands] using he
  split at h
  ·
   split at h
   case h_2=>exact(h:False).elim
   rename_i t ci
   split at h
   case h_2=>
    split at h
    case h_2=>exact(h:False).elim
    rename_i hty
    obtain⟨_,rfl⟩:=h
    obtain⟨x,rfl,uh⟩:=Er pO
    obtain⟨v,h3,h4⟩:=bQ hx.sr uh
    have h5:v= .string _:=h4.1
    subst h5
    have mI:ts= #[t]:=Array.toList_inj.1 ci
    subst mI
    exact cm (OW.ac2 (hP.ty _ _ hty).2 h3) (cY hx rfl)
   rename_i p ht
   obtain⟨e',n⟩:=p
   obtain⟨l1,l2,r,_,h1,h2⟩:=Q.dV h
   obtain⟨_,rfl⟩:=h2
   obtain⟨x,rfl,uh⟩:=Er pO
   obtain⟨v,h3,h4⟩:=bQ hx.sr uh
   have mI:ts= #[t]:=Array.toList_inj.1 ci
   subst mI
   exact ac1 hP hx ht h3 h4 h1
  ·
   obtain⟨_,rfl⟩:=h
   obtain⟨x,y,rfl,h1,h2⟩:=As pO
   obtain⟨v,h3,h4⟩:=bQ hx.sr h1
   obtain⟨v',h5,h6⟩:=bQ hx.sr h2
   have h4:=h4.1
   have h6:=h6.1
   dsimp only[cL] at h4 h6
   subst h4 h6
   exact cm (OW.min h3 h5) (cY hx rfl)
  ·
   obtain⟨_,rfl⟩:=h
   obtain⟨x,y,rfl,h1,h2⟩:=As pO
   obtain⟨v,h3,h4⟩:=bQ hx.sr h1
   obtain⟨v',h5,h6⟩:=bQ hx.sr h2
   have h4:=h4.1
   have h6:=h6.1
   dsimp only[cL] at h4 h6
   subst h4 h6
   exact cm (OW.max h3 h5) (cY hx rfl)
  ·
   obtain⟨_,rfl⟩:=h
   obtain⟨x,y,z,rfl,h1,h2,h0⟩:=ab0 pO
   obtain⟨v,h3,h4⟩:=bQ hx.sr h1
   obtain⟨v',h5,h6⟩:=bQ hx.sr h2
   obtain⟨v'',h7,h8⟩:=bQ hx.sr h0
   have h4:=h4.1
   have h6:=h6.1
   have h8:=h8.1
   dsimp only[cL] at h4 h6 h8
   subst h4 h6 h8
   exact cm (OW.acq h3 h5 h7) (cY hx rfl)
  ·
   split at h
   case h_2=>exact(h:False).elim
   rename_i t ci
   split at h
   case h_2=>exact(h:False).elim
   rename_i e' n' ht
   split at h
   case isFalse=>exact(h:False).elim
   rename_i hn
   have hn:=Nat.eq_of_beq_eq_true hn
   subst hn
   obtain⟨x,rfl,uh⟩:=Er pO
   obtain⟨v,h3,h4⟩:=bQ hx.sr uh
   have mI:ts= #[t]:=Array.toList_inj.1 ci
   subst mI
   exact aim hP hR hx ht h3 h4 h
  ·
   split at h
   case h_2=>exact(h:False).elim
   rename_i t t' ci
   split at h
   case isFalse=>exact(h:False).elim
   rename_i jv
   have jv:=Nat.eq_of_beq_eq_true jv
   subst jv
   split at h
   case h_2=>exact(h:False).elim
   rename_i e' n' ht
   obtain⟨x,y,rfl,h1,h2⟩:=As pO
   obtain⟨v,h3,h4⟩:=bQ hx.sr h1
   obtain⟨v',h5,h6⟩:=bQ hx.sr h2
   have mI:ts= #[t,t]:=Array.toList_inj.1 ci
   subst mI
   exact ah8 hP hR hx ht h3 h4 h5 h6 h
  ·
   split at h
   case h_2=>exact(h:False).elim
   rename_i t t' ci
   split at h
   case isFalse=>
    split at h
    case h_2=>exact(h:False).elim
    rename_i e' n k g K tk ht rY
    obtain⟨x,y,rfl,h1,h2⟩:=As pO
    obtain⟨v,h3,h4⟩:=bQ hx.sr h1
    obtain⟨v',h5,h6⟩:=bQ hx.sr h2
    have mI:ts= #[_,_]:=Array.toList_inj.1 ci
    subst mI
    have h6:=h6.1
    dsimp only[cL] at h6
    subst h6
    obtain⟨zs,hz,_,rfl⟩:=h
    exact X8 hP hR hx ht rY (by rw[h3];exact congrArg some h4) h5 hz
   rename_i jv
   have jv:=Nat.eq_of_beq_eq_true jv
   subst jv
   split at h
   case h_2=>exact(h:False).elim
   rename_i e' n ht
   obtain⟨x,y,rfl,h1,h2⟩:=As pO
   obtain⟨v,h3,h4⟩:=bQ hx.sr h1
   obtain⟨v',h5,h6⟩:=bQ hx.sr h2
   have mI:ts= #[t,t]:=Array.toList_inj.1 ci
   subst mI
   exact alh hP hR hx ht h3 h4 h5 h6 h
  ·
   split at h
   case h_2=>exact(h:False).elim
   rename_i t ci
   split at h
   case h_2=>exact(h:False).elim
   rename_i p ht
   obtain⟨_,rfl⟩:=h
   obtain⟨x,rfl,uh⟩:=Er pO
   obtain⟨v,h3,h4⟩:=bQ hx.sr uh
   have mI:ts= #[t]:=Array.toList_inj.1 ci
   subst mI
   have h4:v= .slice none 0 0:=h4
   subst h4
   have hu:=(hP.bV t p.1 p.2 ht).1
   refine cm (v:= .int .i64 0) (OW.run fun a ha=>⟨_,w, ?_,rfl,rfl⟩) (cY hx rfl)
   simp[execOp,resolve,invoke,builtin,Builtin.cap_,run_underlying hu,ha _ _ h3,goInt]
  · exact(h:False).elim
 · exact(h:False).elim
end
end Rx
end Go.Proofs.YtaneejpkncdodaaGreat
