import Derived.Test.YtncbfgppjfcijaaGreatRe
set_option linter.unusedVariables false
set_option linter.unusedSimpArgs false
set_option linter.unusedSectionVars false
open Bool renaming and_eq_true→aqL
open List renaming all_eq_true→aq0,getElem?_drop→arM,getElem?_eq_some_iff→aq9,getElem?_take→arh,mem_append→aqP,mem_cons→aqR,mem_map→aqX
open Nat renaming beq→aqH,eq_of_beq_eq_true→aqK,le_of_ble_eq_true→aqT,le_refl→aqM
open Option.some renaming inj→are,injEq→aq3
open Prod.mk renaming injEq→arP
namespace Go.Proofs.YtncbfgppjfcijaaGreat
open Go Go.RowKit Dp
namespace Rx
section
variable {D:Nat→Type} [∀n,ab (D n)]
variable {P:Program} {T:aV D} {Qx:Exit→Act→World→Prop} {U:Nat→Prop} {ah:Nat} {γ:Gh D} {w:World} {sl:List (Nat×AV D)} {L:List (Nat×Value)} {ob:List (Nat×Option (AO D))}
 {d:Option Tmp} {ty:TypeId} {pos:String} {af:Array Edge} {gd:Option (Nat×Bool)} {e:bT D} {l:List Nat}
theorem bX.length:∀{cs:List (A1 D)} {us:List Value},bX U γ w cs us→cs.length=us.length
 |[],[],_=>rfl
 |c::cs,u::us,h=>by simp[bX.length h.2]
 |[],_::_,h=>h.elim
 |_::_,[],h=>h.elim
theorem bX.take:∀{cs:List (A1 D)} {us:List Value},bX U γ w cs us→∀k,bX U γ w (cs.take k) (us.take k)
 |_,_,_,0=>by simp[bX]
 |[],[],_,k+1=>trivial
 |c::cs,u::us,h,k+1=>⟨h.1,bX.take h.2 k⟩
 |[],_::_,h,_=>h.elim
 |_::_,[],h,_=>h.elim
theorem bX.drop:∀{cs:List (A1 D)} {us:List Value},bX U γ w cs us→∀k,bX U γ w (cs.drop k) (us.drop k)
 |_,_,h,0=>by simpa using h
 |[],[],_,k+1=>trivial
 |c::cs,u::us,h,k+1=>by simpa using bX.drop h.2 k
 |[],_::_,h,_=>h.elim
 |_::_,[],h,_=>h.elim
theorem bX.append:∀{cs:List (A1 D)} {us:List Value} {fI:List (A1 D)} {jw:List Value},bX U γ w cs us→bX U γ w fI jw→bX U γ w (cs++fI) (us++jw)
 |[],[],_,_,_,h=>h
 |c::cs,u::us,_,_,h,h'=>⟨h.1,bX.append h.2 h'⟩
 |[],_::_,_,_,h,_=>h.elim
 |_::_,[],_,_,h,_=>h.elim
theorem dR.one:∀{a:A1 D} {u:Value},dR U γ w a u→storable a=true→u.oneCell'=true
 | .v l d K t,u,h,_=>h.1.one
 | .ptr i off,u,⟨_,b,_,h⟩,_=>by subst h;rfl
 | .el ..,u,⟨_,_,_,_,b,len,cap,_,h⟩,_=>by subst h;rfl
 | .rp ..,u,⟨pa,h,_⟩,_=>by subst h;rfl
 | .vb n xs K t b,u,h,_=>cq.one (d:=⟨.sl n,xs⟩) h.1.1
 | .own i,u,⟨_,_,h⟩,_=>h
 | .fn f fJ,u,⟨cs,h,_⟩,_=>by subst h;exact ajY _ _
 | .ch ..,u,_,h=>by cases h
 | .sY ..,u,_,h=>by cases h
 | .tail ..,u,_,h=>by cases h
 | .pre ..,u,_,h=>by cases h
 | .nU ..,u,_,h=>by cases h
 | .bi,u,h,_=>by
   have h:u= .slice none 0 0:=h
   subst h;rfl
 | .nA,u,h,_=>by
   have h:u= .pointer none:=h
   subst h;rfl
 | .xp,u,h,_=>by
   have h:u= .nilFunc:=h
   subst h;rfl
 | .undef,u,_,h=>by cases h
 | .wq,u,_,h=>by cases h
 | .qI,u,h,_=>h
theorem bX.KG:∀{cs:List (A1 D)} {us:List Value},bX U γ w cs us→cs.all storable=true→∀u∈us,u.oneCell'=true
 |[],[],_,_,u,hu=>by cases hu
 |c::cs,v::us,h,hs,u,hu=>by
  simp only[List.all_cons,aqL] at hs
  rcases aqR.1 hu with rfl|hu
  · exact h.1.one hs.1
  · exact bX.KG h.2 hs.2 u hu
 |[],_::_,h,_,_,_=>h.elim
 |_::_,[],h,_,_,_=>h.elim
theorem GR{ty:g_}{cs:List (A1 D)}{us:List Value}{off:Nat}{a:AV D}(h:bX U γ w cs us)(hc:sU ty T cs off=some a):off+ty.n T≤us.length∧eM U γ w a (pack ty.agg ((us.drop off).take (ty.n T))):=by
 unfold sU at hc
 split at hc
 case isFalse=>cases hc
 rename_i hle
 have Ud:=aqT hle
 rw[h.length] at Ud
 refine⟨Ud, ?_⟩
 have h2:=(h.drop off).take (ty.n T)
 unfold qG at hc
 cases hg:ty.agg with
 |true=>
  simp only[hg,if_true,aq3] at hc
  subst hc
  exact⟨_,rfl,h2⟩
 |false=>
  simp only[hg,Bool.false_eq_true,if_false] at hc
  split at hc
  · rename_i b hb
    cases hc
    rw[hb] at h2
    generalize (us.drop off).take (ty.n T)=jw at h2
    match jw,h2 with
    |[u],h2=>exact h2.1
  · cases hc
theorem G4{cs:List Value}{b:Nat}{t:TypeId}(h:w.heap[b]? =some (.cells cs.toArray t (0,0)))(off n:Nat):gy w ⟨b,off,none⟩ ((cs.drop off).take n):=by
 intro j u hu
 rw[arh] at hu
 split at hu
 case isFalse=>cases hu
 rw[arM] at hu
 have dL:(⟨b,off,none⟩:Addr).add j=⟨b,off+j,none⟩:=by unfold Addr.add;split<;>simp_all
 rw[dL,cell_of_row w b (off+j) cs.toArray t (0,0) h]
 simpa using hu
theorem gy.cut{pa:Addr}{cs:List Value}(h:gy w pa cs)(off n:Nat):gy w (pa.add off) ((cs.drop off).take n):=by
 intro j u hu
 rw[arh] at hu
 split at hu
 case isFalse=>cases hu
 rw[arM] at hu
 rw[tC]
 exact h _ _ hu
theorem Cg{γ':Gh D}{K:List Nat}(hK:cT K):∀{ds:List (DV D)} {us:List Value} {g:Nat},bK (In γ'.o K) w us ds→(∀i x,ds[i]? =some x→named U γ' (g+i) x)→bX U γ' w (cellsD K g ds) us
 |[],[],g,_,_=>trivial
 |⟨lf,x⟩::ds,u::us,g,h,hn=>by
  refine⟨⟨?_,hn 0 _ rfl, ?_⟩,Cg hK h.2 fun i x hi=> ?_⟩
  · cases lf with
    |sl n=>exact h.1
    |int k=>exact h.1
    |bool=>exact h.1
    |str=>exact h.1
  · cases lf with
    |sl n=>exact hK
    |int k=>exact jf
    |bool=>exact jf
    |str=>exact jf
  · have:=hn (i+1) x (by simpa using hi)
    rwa[show g+(i+1)=g+1+i from by omega] at this
 |[],_::_,_,h,_=>h.elim
 |_::_,[],_,h,_=>h.elim
theorem dM.at{n:Nat}{S:Nat→Prop}{v:Value}{xs:List (D n)}{y:D n}{j:Int}{b len cap:Nat}(h:dM S w v xs)(hv:v= .slice (some ⟨b,0,none⟩) len cap)(hj:idx xs j=some y):
  ∃cs,ab.rd S w cs y∧gy w ⟨b,j.toNat*ab.sz (D n),none⟩ cs:=by
 obtain⟨p,vM,rfl,h⟩:=h
 unfold idx at hj
 split at hj
 case isFalse=>cases hj
 rcases h with h|⟨a,aw,rfl,h1,h2⟩
 · subst h;simp at hj
 · have ha:a=⟨b,0,none⟩:=by
    have:=congrArg (fun v=>match v with|Value.slice (some a) _ _=>a|_=>(⟨0,0,none⟩:Addr)) hv
    simpa using this
   subst ha
   obtain⟨c,eu,gG⟩:=h1.get hj
   refine⟨c,gG,fun m u hu=> ?_⟩
   have:=h2 _ _ (Gt h1.lK eu hu)
   have e1:(⟨b,j.toNat*ab.sz (D n),none⟩:Addr).add m=(⟨b,0,none⟩:Addr).add (j.toNat*ab.sz (D n)+m):=by
    unfold Addr.add
    split<;>split<;>simp_all<;>omega
   rw[e1]
   exact this
theorem xh{b b' o o':Nat}(h:dJ b o=dJ b' o'):b=b'∧o=o':=by
 unfold dJ at h
 cases h
 exact⟨rfl,rfl⟩
def sP(f:Nat→Value)(i:Nat)(v:Value):Nat→Value:=fun j=>if j=i then v else f j
def wm(f:Nat→DV D)(i:Nat)(v:DV D):Nat→DV D:=fun j=>if j=i then v else f j
theorem afP [Rd](hP:dh P T)(hR:bQ T)(hx:Cx U ah γ w sl L ob){t:TypeId}{cd:g_}{x:Operand}{i n n' t' tc q off b len cap g' h0:Nat}{j:Int}{xs:List (D n')}(ht:au T.ty t=some cd)(hv:ev L x=some (dJ b (j.toNat*ab.sz (D n)+off)))
  (hU:U i) (hg:γ.g i= .slice (some ⟨b,0,none⟩) len cap) (ho:cw ob i=some (.bU n' t' tc q xs g' h0))
  (h:Q.R ob (if aqH n n'&&EY cd then .part (idx xs j) fun y=>match(T.out n' y)[off]? with
     |some x=>Lm i n' j off t' tc q xs g' h0 (ah+16) x
     |none=> .fail
    else .fail) l e):
  OW P Qx L ⟨d,.load t x,ty,pos,af,gd⟩ w (fun v w'=>∃γ',cJ U ah γ w ob e γ' v w'):=by
 have hT:=(hP.ty t cd ht).1
 have hz:=C_ T cd
 have eP:=wc T cd
 split at h
 case isFalse=>exact h.elim
 rename_i hc
 simp only[aqL] at hc
 have hn:=aqK hc.1
 subst hn
 obtain⟨y,hy,h⟩:=h
 dsimp only at h
 split at h
 case h_2=>exact h.elim
 rename_i lx Mv
 obtain⟨eJ,_,h1,h2,h3⟩:=hx.ob.ob i _ ho
 obtain⟨cs,k1,k2⟩:=dM.at h1.ow.bS hg hy
 rw[hR.rd] at k1
 obtain⟨u,k3,k4⟩:=bK.at k1 Mv
 have aK:=(aq9.1 k3).1
 have jn:cd.n T=1∧cd.agg=false:=by
  cases cd with
  |one l=>exact⟨rfl,rfl⟩
  |_=>cases hc.2
 have F7:gy w ⟨b,j.toNat*ab.sz (D n)+off,none⟩ [u]:=by
  have:=gy.cut k2 off 1
  have dL:(⟨b,j.toNat*ab.sz (D n),none⟩:Addr).add off=⟨b,j.toNat*ab.sz (D n)+off,none⟩:=by
   unfold Addr.add
   split<;>simp_all
  rw[dL] at this
  have e1:(cs.drop off).take 1=[u]:=by
   rw[List.drop_eq_getElem_cons aK]
   simp only[List.take_succ_cons,List.take_zero]
   rw[List.getElem?_eq_getElem aK] at k3
   rw[are k3]
  rwa[e1] at this
 have oO:w.cell? ⟨b,j.toNat*ab.sz (D n)+off,none⟩=some u:=by
  have:=F7 0 u rfl
  rwa[add_zero'] at this
 obtain⟨aL,c1,c2⟩:=MS h1 hg
 have MX:aL[j.toNat*ab.sz (D n)+off]? =some u:=by
  rw[cell_of_row w b _ aL t' (0,0) c2] at oO
  exact oO
 have Bx:OW P Qx L ⟨d,.load t x,ty,pos,af,gd⟩ w (fun v' w'=>v'=u∧w'=w):=by
  have:=OW.uy (P:=P) (Qx:=Qx) (L:=L) (w:=w) (d:=d) (ty:=ty) (pos:=pos) (af:=af) (g:=gd) hT hz hv F7 (by rw[eP,jn.1];rfl)
  refine OW.mono this ?_
  rintro v' w' ⟨rfl,rfl⟩
  rw[jn.2]
  exact⟨rfl,rfl⟩
 obtain⟨lf,dd⟩:=lx
 cases lf with
 |int k=>
  obtain⟨_,rfl⟩:=h
  exact b_ Bx (cQ hx k4)
 |bool=>
  obtain⟨_,rfl⟩:=h
  exact b_ Bx (cQ hx k4)
 |str=>
  obtain⟨_,rfl⟩:=h
  exact b_ Bx (cQ hx k4)
 |sl m=>
  dsimp only[Lm] at h
  split at h
  case isFalse=>exact h.elim
  rename_i Mr
  have Mr:=aqK Mr
  subst Mr
  have sy:∀(S:Nat→Prop) (w:World) (cs:List Value),ab.rd S w cs y→∃u,cs[off]? =some u∧Rv S w u (dd:List (D m)):=fun S w cs hr=>by
   rw[hR.rd] at hr
   exact bK.at hr Mv
  have kE:∃p c,u= .slice p (dd:List (D m)).length c:=by
   obtain⟨p,c,e1,_⟩:=om (k4:Rv _ w u (dd:List (D m)))
   exact⟨p,c,e1⟩
  split at h
  · rename_i vc
    have vc:=aqK vc
    obtain⟨_,rfl⟩:=h
    refine OW.mono Bx ?_
    rintro v' w' ⟨rfl,rfl⟩
    have hf:¬U (ah+17):=hx.fresh _ (by omega) (by omega)
    have F1:∀k,U k→sP γ.g (ah+17) (.agg aL) k=γ.g k:=fun k hk=>by
     have bg:k≠ah+17:=fun e=>hf (by rw[←e];exact hk)
     unfold sP
     rw[if_neg bg]
    have TO:∀k,U k→wm γ.v (ah+17) ⟨.sl n,xs⟩ k=γ.v k:=fun k hk=>by
     have bg:k≠ah+17:=fun e=>hf (by rw[←e];exact hk)
     unfold wm
     rw[if_neg bg]
    have e1:sP γ.g (ah+17) (.agg aL) (ah+17)= .agg aL:=by simp[sP]
    have e2:wm γ.v (ah+17) (⟨.sl n,xs⟩:DV D) (ah+17)=⟨.sl n,xs⟩:=by simp[wm]
    have yb:fY U ah (ah+17):= .inr ⟨by omega,by omega⟩
    refine⟨_,mkPost (M:=[]) (N:=[]) (ps:=[]) (g':=sP γ.g (ah+17) (.agg aL)) (v':=wm γ.v (ah+17) ⟨.sl n,xs⟩) hx.ob (ba.refl _ _ _ _) (by simp) (by simp) (by simp) hx.bR F1 TO ⟨.inl hU,⟨by omega,yb⟩,⟨xs,y,e2,hy,sy⟩,⟨b,len,cap,aL,by rw[←hg];exact F1 i hU,e1,MX⟩,kE⟩ ?_⟩
    intro k z hk gY
    obtain⟨rfl,kD⟩:=jZ hk
    cases kD
    refine⟨eJ,.inl hU, ?_, ?_,.inr ⟨yb,e2,aL,e1,fun b' n' c' p e=> ?_⟩⟩
    · show f_ _ _ _ (iF γ.o i (sP γ.g (ah+17) (.agg aL) i)) 0 1 w' (sP γ.g (ah+17) (.agg aL) i) xs
      rw[F1 i hU]
      exact h1
    · rcases h2 with h2|⟨h2,h4⟩
      · exact .inl h2
      · exact .inr ⟨.inl h2,by show wm γ.v (ah+17) _ g'=_;rw[TO g' h2];exact h4⟩
    · have e:sP γ.g (ah+17) (.agg aL) i= .slice (some ⟨b',0,none⟩) n' c':=e
      rw[F1 i hU,hg] at e
      cases e
      exact cell_of_row w' b p aL t' (0,0) c2
  · rename_i vc
    have vc:h0≠0:=fun e=>vc (by rw[e];rfl)
    obtain⟨_,rfl⟩:=h
    rcases h3 with h3|⟨h3,h4,cells,h5,h6⟩
    · exact(vc h3).elim
    refine b_ Bx (kV hx ⟨hU,⟨vc,h3⟩,⟨xs,y,h4,hy,sy⟩,⟨b,len,cap,cells,hg,h5, ?_⟩,kE⟩)
    rw[←h6 b len cap _ hg]
    exact oO
theorem afN [Rd](hP:dh P T)(hR:bQ T)(hx:Cx U ah γ w sl L ob){t:TypeId}{cd:g_}{x:Operand}{vp:Value}{p:A1 D}(ht:au T.ty t=some cd)(hv:ev L x=some vp)(hp:dR U γ w p vp)(h:Q.R ob (Ll T (ah+16) cd p) l e):
  OW P Qx L ⟨d,.load t x,ty,pos,af,gd⟩ w (fun v w'=>∃γ',cJ U ah γ w ob e γ' v w'):=by
 have hT:=(hP.ty t cd ht).1
 have hz:=C_ T cd
 have eP:=wc T cd
 cases p with
 |ptr i off=>
  obtain⟨hU,b,hg,rfl⟩:=hp
  obtain⟨ao,l',ho,rfl,h⟩:=h
  cases ao with
  |sl=>exact h.elim
  |bU=>exact h.elim
  |fi=>exact h.elim
  |fz=>exact h.elim
  |mp=>exact h.elim
  |box cs=>
   dsimp only at h
   split at h
   case h_2=>exact h.elim
   rename_i a ha
   obtain⟨_,rfl⟩:=h
   obtain⟨_,_,b',us,t',h1,h2,h3,h4,h5⟩:=hx.ob.ob i _ ho
   rw[hg] at h1
   obtain⟨rfl,_⟩:=xh h1
   obtain⟨h6,h7⟩:=GR h4 ha
   refine b_ (OW.uy hT hz hv (G4 h3 off (cd.n T)) ?_) (kV hx h7)
   rw[eP]
   simp
   omega
 |rp n y off K=>
  obtain⟨pa,rfl,⟨cs,h1,h2,h3⟩,hK⟩:=hp
  dsimp only[Ll] at h
  split at h
  case h_2=>exact h.elim
  rename_i a ha
  obtain⟨_,rfl⟩:=h
  have h4:=(hR.rd n _ _ _ _).1 h1
  have Mz:(T.out n y).length≤48:=by rw[EV];exact hR.oS n
  have h5:bX (fY U ah) ⟨γ.o,γ.g,ee γ.v (ah+16) (T.out n y)⟩ w (cellsD K (ah+16) (T.out n y)) cs:=
   Cg hK h4 fun i x hi=>jY rfl (by have:=(aq9.1 hi).1;omega) hi
  obtain⟨h6,h7⟩:=GR h5 ha
  refine b_ (OW.uy hT hz hv (gy.cut h3 off (cd.n T)) ?_) (xi hx _ Mz h7)
  rw[eP]
  simp
  omega
 |el i n j y off tc tj=>
  obtain⟨hU,UT,⟨ko,j9,mM⟩,L9,b,len,cap,hg,rfl⟩:=hp
  obtain⟨ao,l',ho,rfl,h⟩:=h
  cases ao with
  |box=>exact h.elim
  |fi=>exact h.elim
  |fz=>exact h.elim
  |mp=>exact h.elim
  |bU n' t' rG q xs g' h0=>exact afP hP hR hx ht hv hU hg ho h
  |sl n' t' xs K g'=>
   dsimp only at h
   obtain⟨_,_,h1,h2,h3⟩:=hx.ob.ob i _ ho
   have aiv:=h1.bS
   have key:∀{y':D n'} {a:AV D},ab.sz (D n)=ab.sz (D n')→idx xs j=some y'→sU cd T (cellsD K (ah+16) (T.out n' y')) off=some a→e=⟨a,[],[]⟩→
     OW P Qx L ⟨d,.load t x,ty,pos,af,gd⟩ w (fun v w'=>∃γ',cJ U ah γ w ob e γ' v w'):=by
    rintro y' a dy er ha rfl
    obtain⟨cs,h4,h5⟩:=dM.at aiv hg er
    have h6:=(hR.rd n' _ _ _ _).1 h4
    have Mz:(T.out n' y').length≤48:=by rw[EV];exact hR.oS n'
    have h7:bX (fY U ah) ⟨γ.o,γ.g,ee γ.v (ah+16) (T.out n' y')⟩ w (cellsD K (ah+16) (T.out n' y')) cs:=
     Cg h2 h6 fun i x hi=>jY rfl (by have:=(aq9.1 hi).1;omega) hi
    obtain⟨h8,h9⟩:=GR h7 ha
    have hc:=gy.cut h5 off (cd.n T)
    have dL:(⟨b,j.toNat*ab.sz (D n'),none⟩:Addr).add off=⟨b,j.toNat*ab.sz (D n)+off,none⟩:=by
     rw[dy]
     unfold Addr.add
     split<;>simp_all
    rw[dL] at hc
    refine b_ (OW.uy hT hz hv hc ?_) (xi hx _ Mz h9)
    rw[eP]
    simp
    omega
   split at h
   · rename_i ML
     have ML:=aqK ML
     subst ML
     split at h
     case h_2=>exact h.elim
     rename_i a ha
     obtain⟨_,rfl⟩:=h
     rcases h3 with h3|⟨_,h3⟩
     · exact(UT.1 h3).elim
     · rw[j9] at h3
       cases h3
       exact key rfl mM ha rfl
   · split at h
     · rename_i hn
       have hn:=aqK hn
       subst hn
       obtain⟨y',er,h⟩:=h
       dsimp only at h
       split at h
       case h_2=>exact h.elim
       rename_i a ha
       obtain⟨_,rfl⟩:=h
       exact key rfl er ha rfl
     · exact h.elim
 |_=>exact h.elim
theorem Ow.oo{n:Nat}{t:TypeId}{o o':bL}{k k':Nat}{K K':List Nat}{v:Value}{xs:List (D n)}(hk:∀b,o b=k→o' b=k')(hK:∀b,In o K b→In o' K' b)(h:Ow t o k K w v xs):Ow t o' k' K' w v xs:=by
 rcases h with h|⟨g,cap,aL,aw,e1,e2,e3,e4,e5,e6,e7,e8⟩
 · exact .inl h
 · exact .inr ⟨g,cap,aL,aw,e1,hk _ e2,e3,e4,e5,e6,e7.mono fun _ _=>ab.mono fun b hb _=>⟨hK b hb,rfl⟩,e8⟩
def kj(fz:List Nat):List (Nat×Nat):=fz.map fun i=>(i,1)
theorem AD{fz:List Nat}{x:Nat}:(x∈fz→rel (kj fz) x=1)∧(x∉fz→rel (kj fz) x=x):=by
 unfold rel
 constructor
 · intro h
   split
   · rename_i y hy
     have:=cz hy
     simp only[kj,aqX] at this
     obtain⟨_,_,h2⟩:=this
     cases h2
     rfl
   · rename_i hn
     exact(sf hn 1 (by simp only[kj,aqX];exact⟨x,h,rfl⟩)).elim
 · intro h
   split
   · rename_i y hy
     have:=cz hy
     simp only[kj,aqX] at this
     obtain⟨z,hz,h2⟩:=this
     cases h2
     exact(h hz).elim
   · rfl
theorem cq.weaken{S S':Nat→Prop}{v:Value}{x:DV D}(hm:∀b,S b→S' b)(h:cq S w v x):cq S' w v x:=h.mono fun b hb _=>⟨hm b hb,rfl⟩
theorem bK.weaken{S S':Nat→Prop}{vs:List Value}{xs:List (DV D)}(hm:∀b,S b→S' b)(h:bK S w vs xs):bK S' w vs xs:=h.mono fun b hb _=>⟨hm b hb,rfl⟩
theorem O7{j:Nat}{ao:AO D}{d:DV D}{K:List Nat}(h:OR U γ w j ao)(e:vV ao=some (d,K)):cq (In γ.o (j::K)) w (γ.g j) d∧cT K:=by
 cases ao with
 |sl n t xs K' g=>
  simp only[vV,aq3,arP] at e
  obtain⟨rfl,rfl⟩:=e
  exact⟨h.1.rv,h.2.1⟩
 |bU n t tc q xs g ht=>
  simp only[vV,aq3,arP] at e
  obtain⟨rfl,rfl⟩:=e
  refine⟨Rv.weaken (fun b hb=> ?_) h.1.rv,jf⟩
  unfold In at hb⊢
  simp only[aqR,List.not_mem_nil,or_false] at hb⊢
  rcases hb with hb|hb
  · exact(xA hb).1
  · exact(xz hb).1
 |box=>cases e
 |fi=>cases e
 |fz=>cases e
 |mp=>cases e
theorem ZC{j:Nat}{ao:AO D}{d:DV D}{K:List Nat}(h:OR U γ w j ao)(e:HV ao=some (d,K)):cq (In γ.o K) w (γ.g j) d∧cT K:=by
 cases ao with
 |fz n xs K'=>
  simp only[HV,aq3,arP] at e
  obtain⟨rfl,rfl⟩:=e
  exact h
 |_=>cases e
theorem xg(bb:OB U γ w ob):∀{as:List (A1 D)} {ls:List Lf} {us:List Value} {l:List Nat} {r:List (DV D)×List Nat×List Nat},Q.R ob (py ls as) l r→bX U γ w as us→
  bK (In γ.o (r.2.2++r.2.1)) w us r.1∧cT r.2.1∧(∀i∈r.2.2,1000≤i∧U i)∧(r.2.2≠[]→1∈r.2.1)
 |[],ls,us,l,r,h,hv=>by
  simp only[py] at h
  obtain⟨_,rfl⟩:=h
  cases us with
  |nil=>exact⟨trivial,jf,by simp,fun h=>(h rfl).elim⟩
  |cons _ _=>exact hv.elim
 |a::as,ls,us,l,r,h,hv=>by
  cases us with
  |nil=>exact hv.elim
  |cons u us=>
  cases ls with
  |nil=>simp only[py] at h;exact h.elim
  |cons lf ls=>
   simp only[py] at h
   cases a with
   |v l' x K g=>
    obtain⟨l1,l2,r',_,h1,h2⟩:=Q.dZ h
    obtain⟨_,rfl⟩:=h2
    obtain⟨i1,i2,i3,i4⟩:=xg bb h1 hv.2
    obtain⟨j1,_,j3⟩:=hv.1
    refine⟨⟨j1.weaken fun b hb=> ?_,i1.weaken fun b hb=> ?_⟩, ?_,i3,fun h=> ?_⟩
    · simp only[In,aqP] at hb⊢;exact .inr (.inl hb)
    · simp only[In,aqP] at hb⊢;rcases hb with hb|hb;exact .inl hb;exact .inr (.inr hb)
    · intro x hx;rcases aqP.1 hx with hx|hx;exact j3 x hx;exact i2 x hx
    · exact aqP.2 (.inr (i4 h))
   |bi=>
    dsimp only at h
    split at h
    · rename_i n
      obtain⟨l1,l2,r',_,h1,h2⟩:=Q.dZ h
      obtain⟨_,rfl⟩:=h2
      obtain⟨i1,i2,i3,i4⟩:=xg bb h1 hv.2
      have hu:u= .slice none 0 0:=hv.1
      subst hu
      exact⟨⟨wY _ _,i1⟩,i2,i3,i4⟩
    · exact h.elim
   |own j=>
    obtain⟨ao,l',ho,rfl,h⟩:=h
    dsimp only at h
    split at h
    · rename_i dv K vh
      obtain⟨l1,l2,r',_,h1,h2⟩:=Q.dZ h
      obtain⟨_,rfl⟩:=h2
      obtain⟨i1,i2,i3,i4⟩:=xg bb h1 hv.2
      obtain⟨_,_,k0⟩:=bb.ob j _ ho
      obtain⟨j1,j3⟩:=ZC k0 vh
      obtain⟨_,rfl,_⟩:=hv.1
      refine⟨⟨j1.weaken fun b hb=> ?_,i1.weaken fun b hb=> ?_⟩, ?_,i3,fun h=> ?_⟩
      · simp only[In,aqP] at hb⊢;exact .inr (.inl hb)
      · simp only[In,aqP] at hb⊢;rcases hb with hb|hb;exact .inl hb;exact .inr (.inr hb)
      · intro x hx;rcases aqP.1 hx with hx|hx;exact j3 x hx;exact i2 x hx
      · exact aqP.2 (.inr (i4 h))
    split at h
    case h_2=>exact h.elim
    rename_i dv K vh
    obtain⟨l1,l2,r',_,h1,h2⟩:=Q.dZ h
    obtain⟨_,rfl⟩:=h2
    obtain⟨i1,i2,i3,i4⟩:=xg bb h1 hv.2
    obtain⟨k1,k2,k0⟩:=bb.ob j _ ho
    obtain⟨k3,k4⟩:=O7 k0 vh
    obtain⟨_,rfl,_⟩:=hv.1
    refine⟨⟨?_,i1.weaken fun b hb=> ?_⟩, ?_, ?_,fun _=>by simp⟩
    · refine cq.weaken (fun b hb=> ?_) k3
      unfold In at hb⊢
      rcases aqR.1 hb with hb|hb<;>simp[hb]
    · unfold In at hb⊢
      rcases aqP.1 hb with hb|hb<;>simp[hb]
    · intro x hx
      simp only[List.cons_append,aqR,aqP] at hx
      rcases hx with rfl|hx|hx
      · omega
      · exact k4 x hx
      · exact i2 x hx
    · intro i hi
      simp only[aqR] at hi
      rcases hi with rfl|hi
      · exact⟨k1,k2⟩
      · exact i3 i hi
   |_=>exact h.elim
theorem Nu{fz K:List Nat}{o:bL}(hK:cT K)(h1:fz≠[]→1∈K)(hf:∀i∈fz,1000≤i):∀b,In o (fz++K) b→In (fun b=>rel (kj fz) (o b)) K b:=by
 intro b hb
 simp only[In,aqP] at hb⊢
 by_cases h:o b∈fz
 · rw[AD.1 h]
   exact h1 (List.ne_nil_of_mem h)
 · rw[AD.2 h]
   exact hb.resolve_left h
theorem bX.Q6{cs jw:List (A1 D)}{us vs:List Value}{off:Nat}{fI:List (A1 D)}(h:bX U γ w cs us)(h':bX U γ w jw vs)(hc:wB cs jw off=some fI):
  off+vs.length≤us.length∧jw.all storable=true∧fI=cs.take off++jw++cs.drop (off+jw.length)∧bX U γ w fI (us.take off++vs++us.drop (off+vs.length)):=by
 unfold wB at hc
 split at hc
 case isFalse=>cases hc
 rename_i hb
 simp only[aqL] at hb
 have hle:=aqT hb.1
 cases hc
 rw[h.length,h'.length] at hle
 refine⟨hle,hb.2,rfl, ?_⟩
 rw[h'.length]
 exact((h.take off).append h').append (h.drop _)
theorem apg{cs jw:List (A1 D)}{off:Nat}(h:cs.all storable=true)(h':jw.all storable=true)(k:Nat):(cs.take off++jw++cs.drop k).all storable=true:=by
 simp only[List.all_append,aqL]
 refine⟨⟨?_,h'⟩, ?_⟩
 · exact aq0.2 fun x hx=>aq0.1 h x (List.mem_of_mem_take hx)
 · exact aq0.2 fun x hx=>aq0.1 h x (List.mem_of_mem_drop hx)
theorem N_{a:AV D}{us:List (A1 D)}{v:Value}(h:cellsOf a=some us)(hv:eM U γ w a v):∃vs,bX U γ w us vs∧((∃u,vs=[u]∧v=u∧∃b,a= .c (.one b))∨v= .agg vs.toArray∧∃b,a= .c (.agg b)):=by
 unfold cellsOf at h
 split at h
 · cases h
   exact⟨[v],⟨hv,trivial⟩,.inl ⟨v,rfl,rfl,_,rfl⟩⟩
 · cases h
   obtain⟨vs,rfl,h2⟩:=hv
   exact⟨vs,h2,.inr ⟨rfl,_,rfl⟩⟩
 · cases h
theorem N9{a:AV D}{us:List (A1 D)}{v:Value}(h:cellsOf a=some us)(hv:eM U γ w a v)(hs:us.all storable=true):∃vs,bX U γ w us vs∧v.cells=vs.toArray∧∀u∈vs,u.oneCell'=true:=by
 obtain⟨vs,h1,h2⟩:=N_ h hv
 refine⟨vs,h1, ?_,h1.KG hs⟩
 rcases h2 with⟨u,rfl,rfl,_⟩|⟨rfl,_⟩
 · exact G3 (h1.KG hs v (by simp))
 · rfl
end
end Rx
end Go.Proofs.YtncbfgppjfcijaaGreat
namespace Go.Proofs.YtncbfgppjfcijaaGreat
open Go Go.RowKit Dp
namespace Rx
section
variable {D:Nat→Type} [∀n,ab (D n)]
variable {P:Program} {T:aV D} {Qx:Exit→Act→World→Prop} {U:Nat→Prop} {ah:Nat} {γ:Gh D} {w:World} {sl:List (Nat×AV D)} {L:List (Nat×Value)} {ob:List (Nat×Option (AO D))}
 {d:Option Tmp} {ty:TypeId} {pos:String} {af:Array Edge} {gd:Option (Nat×Bool)} {e:bT D} {l:List Nat}
theorem dK:∀{l:List Nat} {x:Nat},bp l x=true↔x∈l
 |[],x=>by simp[bp]
 |y::r,x=>by
  simp only[bp,aqR]
  cases hb:aqH y x with
  |true=>
   have:=aqK hb
   simp[this]
  |false=>
   have bg:¬x=y:=fun e=>by subst e;simp at hb
   simp only[cond_false,bg,false_or]
   exact dK
theorem kz{l:List Nat}{x:Nat}(h:bp l x=false):x∉l:=fun hm=>by
 rw[dK.2 hm] at h
 cases h
theorem yD{K M:List Nat}(h:∀x∈K,x∉M):gJ K M=true:=by
 unfold gJ
 rw[aq0]
 intro x hx
 rw[aq0]
 intro y hy
 have bg:x≠y:=fun e=>h x hx (e▸hy)
 cases hb:aqH x y with
 |true=>exact(bg (aqK hb)).elim
 |false=>rfl
theorem acY [Rd](hP:dh P T)(hR:bQ T)(hx:Cx U ah γ w sl L ob){t:TypeId}{cd:g_}{x u:Operand}{va:Value}{a:AV D}{i n n' t' tc q off pA b len cap s gx:Nat}{j j':Int}{xs:List (D n')}(ht:au T.ty t=some cd)(hv:ev L x=some (dJ b (j.toNat*ab.sz (D n)+off)))
  (hU:U i) (hg:γ.g i= .slice (some ⟨b,0,none⟩) len cap) (hu:ev L u=some va) (dn:eM U γ w a va) (ho:cw ob i=some (.fi n' t' tc q xs j' pA s gx))
  (h:Q.R ob (match a with
    | .c (.one (.sY i' s'))=>if aqH i i'&&aqH s s'&&aqH n n'&&aqH off pA&&EY cd then .part (sR j j') fun _=> .ret ⟨.c (.one .undef),[(i,some (.bU n' t' tc q xs gx 0))],[]⟩ else .fail
    |_=> .fail) l e):
  OW P Qx L ⟨d,.store t x u,ty,pos,af,gd⟩ w (fun v w'=>∃γ',cJ U ah γ w ob e γ' v w'):=by
 have hT:=(hP.ty t cd ht).1
 have eP:=wc T cd
 split at h
 case h_2=>exact(h:False).elim
 rename_i i' s'
 split at h
 case isFalse=>exact(h:False).elim
 rename_i hc
 simp only[aqL] at hc
 obtain⟨⟨⟨⟨c1,c2⟩,c3⟩,c4⟩,c5⟩:=hc
 have c1:=aqK c1
 have c2:=aqK c2
 have c3:=aqK c3
 have c4:=aqK c4
 subst c1 c2 c3 c4
 obtain⟨y,hy,h⟩:=h
 have hjj:j=j':=by
  unfold sR at hy
  split at hy
  · assumption
  · cases hy
 subst hjj
 obtain⟨_,rfl⟩:=h
 have jn:cd.n T=1:=by
  cases cd with
  |one l=>rfl
  |_=>cases c5
 obtain⟨eJ,_,h1,h2,b',apN,vM,h3,h4⟩:=hx.ob.ob i _ ho
 rw[hg] at h3
 cases h3
 obtain⟨_,_,dn,h1c⟩:=(dn:U i∧U s∧va=γ.g s∧va.oneCell'=true)
 subst dn
 obtain⟨gg,p,aL,e1,e2,e3,e4,e5,e6⟩:=h4
 cases e1
 have bD:=run_storeCells_at P b (j.toNat*ab.sz (D n)+off) t' [γ.g s] 0 aL w e3 (by simp;omega) (by intro u hu;simp at hu;subst hu;exact e4)
 have hb:=(xA e2).1
 have bh:ba [i] [] γ.o w γ.o (w.setRow b (nu aL (j.toNat*ab.sz (D n)+off) (γ.g s))):=ba.row _ hb
 have cf:=G3 e4
 refine OW.Eu fun a ha=>⟨w.setRow b (nu aL (j.toNat*ab.sz (D n)+off) (γ.g s)), ?_, ?_⟩
 · have ahb:(storeCells ⟨b,j.toNat*ab.sz (D n)+off,none⟩ [γ.g s]).run P w= .ok () (w.setRow b (nu aL (j.toNat*ab.sz (D n)+off) (γ.g s))):=bD
   have dy:(γ.g s).cells.size=1:=by rw[cf];rfl
   simp only[dJ] at hv
   simp[execOp,ha _ _ hv,ha _ _ hu,Instr.storeAt,Instr.sureAddr,storeVar,hT.sizeOf,dy,eP,jn,cf,ahb]
 refine⟨_,mkPost (M:=[i]) (N:=[]) (ps:=[]) (g':=γ.g) (v':=γ.v) hx.ob bh (by simp[eJ,hU,bT.wr]) (by simp) (by simp) hx.bR (fun _ _=>rfl) (fun _ _=>rfl) rfl ?_⟩
 intro k z hk gY
 obtain⟨rfl,hz⟩:=jZ hk
 cases hz
 refine⟨eJ,.inl hU,e6, ?_,.inl rfl⟩
 rcases h1 with h1|⟨h1,h5⟩
 · exact .inl h1
 · exact .inr ⟨.inl h1,h5⟩
theorem acW [Rd](hP:dh P T)(hR:bQ T)(hx:Cx U ah γ w sl L ob){t:TypeId}{cd:g_}{x u:Operand}{vp va:Value}{p:A1 D}{a:AV D}(ht:au T.ty t=some cd)(hv:ev L x=some vp)(hp:dR U γ w p vp)
  (hu:ev L u=some va) (dn:eM U γ w a va) (h:Q.R ob (Q2 T (ah+16) cd a p) l e):
  OW P Qx L ⟨d,.store t x u,ty,pos,af,gd⟩ w (fun v w'=>∃γ',cJ U ah γ w ob e γ' v w'):=by
 have hT:=(hP.ty t cd ht).1
 have eP:=wc T cd
 cases p with
 |ptr i off=>
  obtain⟨hU,b,hg,rfl⟩:=hp
  obtain⟨ao,l',ho,rfl,h⟩:=h
  cases ao with
  |sl=>exact h.elim
  |bU=>exact h.elim
  |fi=>exact h.elim
  |fz=>exact h.elim
  |mp=>exact h.elim
  |box cs=>
   dsimp only at h
   split at h
   case h_2=>exact h.elim
   rename_i us L5
   split at h
   case isFalse=>exact h.elim
   rename_i hlen
   split at h
   case h_2=>exact h.elim
   rename_i fI F8
   obtain⟨_,rfl⟩:=h
   obtain⟨eJ,_,b',I',t',h1,h2,h3,h4,h5⟩:=hx.ob.ob i _ ho
   rw[hg] at h1
   obtain⟨rfl,_⟩:=xh h1
   have bD:us.all storable=true:=by
    unfold wB at F8
    split at F8
    · rename_i hb;simp only[aqL] at hb;exact hb.2
    · cases F8
   obtain⟨vs,k1,k2,k3⟩:=N9 L5 dn bD
   obtain⟨m1,_,m3,m4⟩:=h4.Q6 k1 F8
   have Mw:=aqK hlen
   refine OW.mono (OW.acX (c:=i) hT hv hu h3 h2 k2 k3 (by rw[eP,←Mw,k1.length]) m1) ?_
   rintro v w' ⟨rfl,bh,ah9⟩
   have hM:∀x∈[i],1000≤x:=by simp[eJ]
   have hk:fA U (fY U ah) γ w ⟨fun b=>rel [] (γ.o b),γ.g,γ.v⟩ w':=SA bh hM (by simp) (fun _ _=>rfl) (fun _ _=>rfl)
   refine⟨_,mkPost (M:=[i]) (N:=[]) (ps:=[]) (g':=γ.g) (v':=γ.v) hx.ob bh (by simp[eJ,hU,bT.wr]) (by simp) (by simp) hx.bR (fun _ _=>rfl) (fun _ _=>rfl) rfl ?_⟩
   intro j x hj gY
   obtain⟨rfl,cA⟩:=jZ hj
   cases cA
   refine⟨eJ,.inl hU,b,_,t',hg,h2,ah9,m4.cj hk, ?_⟩
   rw[m3]
   exact apg h5 bD _
 |el i n j y off tc tj=>
  obtain⟨hU,UT,⟨ko,j9,mM⟩,L9,b,len,cap,hg,rfl⟩:=hp
  obtain⟨ao,l',ho,rfl,h⟩:=h
  cases ao with
  |box=>exact h.elim
  |bU=>exact h.elim
  |fz=>exact h.elim
  |mp=>exact h.elim
  |fi n' t' rG q xs j' pA s gx=>exact acY hP hR hx ht hv hU hg hu dn ho h
  |sl n' t' xs K g'=>
   dsimp only at h
   split at h
   case h_2=>exact h.elim
   rename_i us L5
   split at h
   case isFalse=>exact h.elim
   rename_i qZ
   simp only[aqL] at qZ
   obtain⟨⟨hlen,Br⟩,hle⟩:=qZ
   have hlen:=aqK hlen
   have Br:=aqK Br
   subst Br
   have hle:=aqT hle
   obtain⟨l1,l2,r,_,hr,h⟩:=Q.dZ h
   obtain⟨y',er,h⟩:=h
   dsimp only at h
   split at h
   case h_2=>exact h.elim
   rename_i z hz
   split at h
   case isTrue=>exact h.elim
   rename_i fk
   obtain⟨zs,eI,_,rfl⟩:=h
   obtain⟨eJ,_,h1,h2,h3⟩:=hx.ob.ob i _ ho
   obtain⟨vs,k1,k2⟩:=N_ L5 dn
   obtain⟨r1,r2,r3,r4⟩:=xg hx.ob hr k1
   obtain⟨ds,K1,fz⟩:=r
   dsimp only at*
   have Un:i∉fz:=kz (by simpa using fk)
   have LZ:vs.length=us.length:=k1.length.symm
   have qY:vs.length=ds.length:=r1.length
   have jn:∀u∈vs,u.oneCell'=true:=by
    have:∀{vs:List Value} {ds:List (DV D)},bK (In γ.o (fz++K1)) w vs ds→∀u∈vs,u.oneCell'=true:=by
     intro vs
     induction vs with
     |nil=>intro ds _ u hu;cases hu
     |cons v vs ih=>
      intro ds h u hu
      cases ds with
      |nil=>exact h.elim
      |cons d ds=>
       rcases aqR.1 hu with rfl|hu
       · exact h.1.one
       · exact ih h.2 u hu
    exact this r1
   have hvc:va.cells=vs.toArray:=by
    rcases k2 with⟨u,rfl,rfl,_⟩|⟨rfl,_⟩
    · exact G3 (jn va (by simp))
    · rfl
   have FN:=hR.gi hz
   have MO:∀i∈fz,1000≤i:=fun i hi=>(r3 i hi).1
   have iY:Ow t' γ.o i (fz++K1++K) w (γ.g i) xs:=Ow.oo (fun _ h=>h) (fun b hb=>by unfold In at hb⊢;simp[hb]) h1
   have hEP:zk (γ.g i) (ab.sz (D n)) j ((⟨b,0,none⟩:Addr).add (j.toNat*ab.sz (D n))):=⟨_,len,cap,hg,rfl⟩
   have oK:gJ (fz++K1++K) [i]=true:=yD fun x hx=>by
    simp only[List.mem_singleton]
    rintro rfl
    simp only[aqP] at hx
    rcases hx with(hx|hx)|hx
    · exact Un hx
    · have:=r2 _ hx;omega
    · have:=h2 _ hx;omega
   obtain⟨w',fb,bh,gl⟩:=Ow.put (P:=P) (off:=off) (c':=vs) (y':=z) hEP iY er jn (by rw[hR.sz,LZ];exact hle) (fun cs fm=>by
    rw[hR.rd] at fm⊢
    rw[FN,qY]
    refine((fm.take off).append ?_).append (fm.drop _)
    exact r1.weaken fun b hb=>by unfold In at hb⊢;rw[aqP];exact .inl hb) oK
   have agN:zs=xs.set j.toNat z:=by
    unfold cm at eI
    split at eI
    · cases eI;rfl
    · cases eI
   subst agN
   have dL:((⟨b,0,none⟩:Addr).add (j.toNat*ab.sz (D n))).add off=⟨b,j.toNat*ab.sz (D n)+off,none⟩:=by
    rw[tC]
    unfold Addr.add
    split<;>simp_all
   rw[dL] at fb
   have hM:∀x∈[i],1000≤x:=by simp[eJ]
   have mS:∀p∈kj fz,1000≤p.1:=fun p hp=>by
    simp only[kj,aqX] at hp
    obtain⟨q,hq,rfl⟩:=hp
    exact MO q hq
   refine OW.Eu fun a ha=>⟨w', ?_, ?_⟩
   · simp only[dJ] at hv
     simp[execOp,ha _ _ hv,ha _ _ hu,Instr.storeAt,Instr.sureAddr,storeVar,hT.sizeOf,hvc,eP,←hlen,LZ,fb]
   refine⟨_,mkPost (M:=[i]) (N:=[]) (ps:=kj fz) (g':=γ.g) (v':=ee γ.v (ah+16) [⟨.sl n,xs.set j.toNat z⟩]) hx.ob bh (by simp[eJ,hU,bT.wr]) (by simp) ?_ hx.bR (fun _ _=>rfl) (fun i hi=>nz hx (by simp) hi) rfl ?_⟩
   · intro p hp
     refine⟨mS p hp, ?_, ?_⟩<;>simp only[kj,aqX] at hp<;>obtain⟨q,hq,rfl⟩:=hp
     · intro _;simp[bT.wr,hq]
     · exact .inl rfl
   · intro k x hk gY
     obtain⟨rfl,cA⟩:=jZ hk
     cases cA
     refine⟨eJ,.inl hU,Ow.oo (fun b hb=> ?_) (fun b hb=> ?_) gl,fun x hx=> ?_,jY (γ:=γ) (i:=0) rfl (by omega) rfl⟩
     · show rel (kj fz) (γ.o b)=i
       rw[hb,AD.2 Un]
     · by_cases hK:γ.o b∈K
       · show rel (kj fz) (γ.o b)∈_
         rw[AD.2 fun hf=>by
          have:=MO _ hf
          have:=h2 _ hK
          omega]
         simp[hK]
       · have h5:In γ.o (fz++K1) b:=by
          unfold In at hb⊢
          simp only[aqP] at hb⊢
          rcases hb with hb|hb
          · exact hb
          · exact(hK hb).elim
         have h6:=Nu r2 r4 MO b h5
         unfold In at h6⊢
         simp only[aqP]
         exact .inl h6
     · rcases aqP.1 hx with hx|hx
       · exact r2 _ hx
       · exact h2 _ hx
 |_=>exact h.elim
theorem Cx.nw(hx:Cx U ah γ w sl L ob){b:Nat}(hb:b<w.heap.size){k:Nat}(h1:ah≤k)(h2:k<ah+64):γ.o b≠k:=fun e=>hx.fresh k h1 h2 (e▸hx.ob.cl b hb)
def ij(f:Nat→Value)(i:Nat)(v:Value):Nat→Value:=fun j=>if j=i then v else f j
theorem kI(f:Nat→Value)(i:Nat)(v:Value):ij f i v i=v:=by simp[ij]
theorem oP(hx:Cx U ah γ w sl L ob){v:Value}{i:Nat}(h:U i):ij γ.g ah v i=γ.g i:=by
 have:i≠ah:=fun e=>hx.fresh ah (aqM _) (by omega) (e▸h)
 simp[ij,this]
theorem kM:fY U ah ah:= .inr ⟨aqM _,by omega⟩
theorem Zt(hx:Cx U ah γ w sl L ob){cs:List (A1 D)}{us:List Value}{b:Nat}{t:TypeId}{w':World}(hv:bX U γ w cs us)(hs:cs.all storable=true)(hb:w.heap.size≤b)(bh:ba [] [ah] γ.o w (grow γ.o w ah) w')(hc:w'.heap[b]? =some (.cells us.toArray t (0,0))):
  ∃γ',cJ U ah γ w ob ⟨.c (.one (.ptr ah 0)),[(ah,some (.box cs))],[]⟩ γ' (dJ b 0) w':=by
 have hk:fA U (fY U ah) γ w ⟨fun b=>rel [] (grow γ.o w ah b),ij γ.g ah (dJ b 0),γ.v⟩ w':=SA bh (by simp) (by simp) (fun i hi=>oP hx hi) (fun _ _=>rfl)
 refine⟨_,mkPost (M:=[]) (N:=[ah]) (ps:=[]) (g':=ij γ.g ah (dJ b 0)) (v':=γ.v) hx.ob bh (by simp) (by simp) (by simp) hx.bR (fun i hi=>oP hx hi) (fun _ _=>rfl) ⟨kM,b,kI _ _ _,rfl⟩ ?_⟩
 intro j x hj gY
 obtain⟨rfl,cA⟩:=jZ hj
 cases cA
 exact⟨hx.bR,kM,b,us,t,kI _ _ _,nM γ.o w ah b hb,hc,hv.cj hk,hs⟩
theorem IE{γ:Gh D}(bg:∀n,In γ.o [] n→False):∀ls:List Lf,bX U γ w (ql.vK ls:List (A1 D)) (qk ls)
 |[]=>trivial
 |l::r=>⟨by cases l<;>first|rfl|exact⟨rfl,E7 _,jf⟩,IE bg r⟩
theorem PM:∀ls:List Lf,(ql.vK ls:List (A1 D)).all storable=true
 |[]=>rfl
 |l::r=>by
  simp only[ql.vK,List.all_cons,aqL]
  exact⟨by cases l<;>rfl,PM r⟩
theorem aau{cd:g_}{cs:List (A1 D)}(h:ql T cd=some cs):bX U γ w cs (we T cd)∧cs.all storable=true:=by
 unfold ql at h
 split at h<;>first
  |(cases h;exact⟨⟨⟨rfl,E7 _,jf⟩,trivial⟩,rfl⟩)
  |(cases h;exact⟨⟨rfl,trivial⟩,rfl⟩)
  |(cases h;exact⟨IE (by simp[In]) _,PM _⟩)
  |cases h
theorem aav{T:aV D}{cd:g_}(h:cd.agg=false):∃u,we T cd=[u]∧u.oneCell'=true:=by
 cases cd with
 |one l=>cases l<;>exact⟨_,rfl,rfl⟩
 |st n=>cases h
 |ptr=>exact⟨_,rfl,rfl⟩
 |fn=>exact⟨_,rfl,rfl⟩
theorem ape [Rd](hP:dh P T)(hx:Cx U ah γ w sl L ob){t:TypeId}{cd:g_}{cs:List (A1 D)}(ht:au T.ty t=some cd)(hz:ql T cd=some cs):
  OW P Qx L ⟨d,.alloc t,ty,pos,af,gd⟩ w (fun v w'=>∃γ',cJ U ah γ w ob ⟨.c (.one (.ptr ah 0)),[(ah,some (.box cs))],[]⟩ γ' v w'):=by
 have hT:=(hP.ty t cd ht).1
 obtain⟨h1,h2⟩:=aau (U:=U) (γ:=γ) (w:=w) hz
 refine OW.mono (OW.apf (o:=γ.o) ah hT (fun h=>aav h)) ?_
 rintro v w' ⟨b,rfl,hb,bh,hc⟩
 exact Zt hx h1 h2 hb bh hc
theorem ao1 [Rd](hx:Cx U ah γ w sl L ob){t:TypeId}{u:Operand}{a:AV D}{va:Value}{cs:List (A1 D)}(hu:ev L u=some va)(dn:eM U γ w a va)(hc:cellsOf a=some cs)(hs:cs.all storable=true):
  OW P Qx L ⟨d,.box t u,ty,pos,af,gd⟩ w (fun v w'=>∃γ',cJ U ah γ w ob ⟨.c (.one (.ptr ah 0)),[(ah,some (.box cs))],[]⟩ γ' v w'):=by
 obtain⟨vs,h1,h2,h3⟩:=N9 hc dn hs
 refine OW.mono (OW.ao2 (o:=γ.o) ah vs hu h2) ?_
 rintro v w' ⟨b,rfl,hb,bh,hc⟩
 exact Zt hx h1 hs hb bh hc
end
end Rx
end Go.Proofs.YtncbfgppjfcijaaGreat
