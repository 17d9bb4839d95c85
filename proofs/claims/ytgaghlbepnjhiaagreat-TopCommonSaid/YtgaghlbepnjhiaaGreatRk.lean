import Derived.Test.YtgaghlbepnjhiaaGreatRg
import Derived.MapKept
import Derived.ChangeKeysEq
set_option linter.all false
open Bool renaming and_eq_true->bt,false->ae,false_eq_true->aC,true->ab
open Go renaming MapEntry->gP,Program->cT,TypeId->aX,Value->ai,World->ax
open List renaming all_eq_true->dX,drop_drop->mT,drop_eq_getElem_cons->J5,flatten_cons->nE,length_cons->jd,map_cons->gC,mem_cons->cj,mem_cons_of_mem->eR,mem_map->dk,mem_of_getElem?->o8,mem_singleton->cY,pairwise_cons->pY,replicate->cR,take_append_drop->od
open Nat renaming eq_of_beq_eq_true->bA
open Option renaming some->aa
open Option.some renaming injEq->fK
open PUnit renaming unit->F0
namespace Go.Proofs.YtgaghlbepnjhiaaGreat
open Go Go.RowKit Dp
namespace Rx
section
variable {D:Nat->Type} [∀n,ad (D n)]
variable {P:cT} {T:bc D} {Qx:Exit->Act->ax->Prop} {U:Nat->Prop} {ar:Nat} {γ:Gh D} {w:ax} {sl:List (Nat×AV D)} {L:List (Nat×ai)} {ob:List (Nat×Option (AO D))}
 {d:Option Tmp} {ty:aX} {pos:String} {af:Array Edge} {gd:Option (Nat×Bool)} {e:de D} {l:List Nat}
def ash [Rd](hx:Cx U ar γ w sl L ob){t:aX}{n:Nat}:
  OW P Qx L ⟨d,.makeMap t none,ty,pos,af,gd⟩ w (λv w'=>∃γ',dW U ar γ w ob ⟨.c (.one (.own ar)),[(ar,aa (.mp n []))],[]⟩ γ' v w'):=by
 have b8:=bJ.alloc γ.o w (.map #[] 0) ar
 refine OW.run λa ha=>⟨.map (aa w.heap.size),w.alloc (.map #[] 0),?_,?_⟩
 ·simp[execOp,Instr.makeMap,newObj];rfl
 ·refine⟨_,mkPost (M:=[]) (N:=[ar]) (ps:=[]) (g':=kX γ.g ar (.map (aa w.heap.size))) (v':=γ.v) hx.ob b8 (by simp) (by simp) (by simp) hx.cO (λi hi=>ur hx hi) (λ_ _=>rfl) ⟨oT,(oO _ _ _).symm,rfl⟩ ?_⟩;intro j x hj ky;obtain⟨rfl,d_⟩:=nN hj;cases d_;exact⟨hx.cO,oT,w.heap.size, #[],0,oO _ _ _,sT γ.o w ar _ (Nat.le_refl _),heap_alloc_new w _,by simp,trivial,by simp,by simp⟩
def uG.push{es:List gP}{clock:Nat}{k v:ai}(h:uG es clock):uG (es++[⟨k,v,clock⟩]) (clock+1):=by
 refine⟨λe he=>?_,?_⟩
 ·rcases List.mem_append.1 he with h1|h1
  ·exact Nat.lt_succ_of_lt (h.1 e h1)
  ·rw[cY.1 h1];exact Nat.lt_succ_self _
 ·rw[List.map_append,List.nodup_append];refine⟨h.2,by simp,λa ha b hb=>?_⟩;obtain⟨e,he,rfl⟩:=dk.1 ha;simp only[gC,List.map_nil,cY]at hb;subst hb;exact Nat.ne_of_lt (h.1 e he)
def acy{α β:Type}{g:α->β}{f:α->α}(hf:∀x,g (f x)=g x):∀(l:List α) (j:Nat),(l.modify j f).map g=l.map g
 |[],_=>by simp
 |a::l,0=>by simp[hf]
 |a::l,j+1=>by simp[acy hf l j]
def uG.modify{es:List gP}{clock j:Nat}{f:gP->gP}(hf:∀e,(f e).born=e.born)(h:uG es clock):uG (es.modify j f) clock:=by have hm:=acy (g:=λe:gP=>e.born) hf es j;refine⟨λe he=>?_,by rw[hm];exact h.2⟩;have:e.born∈(es.modify j f).map (λe=>e.born):=dk.2 ⟨e,he,rfl⟩;rw[hm]at this;obtain⟨e',h1,h2⟩:=dk.1 this;rw[<-h2];exact h.1 e' h1
def ar9{us vs:List ai}(hl:us.length=vs.length)(h:gG us=gG vs):us=vs:=by
 match us,vs,hl with
 |[],[],_=>rfl
 |[u],[v],_=>simpa[gG]using h
 |u::u'::us,v::v'::vs,_=>simpa[gG]using h
def WC(hR:cK T){n:Nat}{S:Nat->Prop}:∀{aJ:List (List ai)} {xs:List (D n)},cA (ad.rd S w) aJ xs->cz S w aJ.flatten (xs.flatMap (T.out n))
 |[],[],_=>trivial
 |c::aJ,x::xs,h=>by rw[nE,List.flatMap_cons];exact cz.append ((hR.rd _ _ _ _ _).1 h.1) (WC hR h.2)
 |[],_::_,h=>h.elim
 |_::_,[],h=>h.elim
def acZ(hR:cK T){k:AV D}{v:ai}{ks:List (DV D)}{g:Bool}(h:M3 T k=aa (ks,g))(hv:gW U γ w k v):∃vs,cz (λ_=>True) w vs ks∧(g=ab∧v= .agg vs.toArray∨g=ae∧vs=[v]):=by
 unfold M3 at h;split at h
 ·cases h;obtain⟨⟨aJ,h1,h2⟩,_⟩:=hv;exact⟨aJ.flatten,(WC hR h2).weaken λ_ _=>trivial,.inl ⟨rfl,h1⟩⟩
 ·cases h;exact⟨[v],⟨hv.1.weaken λ_ _=>trivial,trivial⟩,.inr ⟨rfl,rfl⟩⟩
 ·split at h
  case h_2=>cases h
  rename_i x hx;cases h;obtain⟨us,rfl,h2⟩:=hv;exact⟨us,Oy hx h2,.inl ⟨rfl,rfl⟩⟩
 ·cases h
def acY{n:Nat}{ks:List (DV D)}{g:Bool}(h:M2 T n ks g=ab){vs:List ai}{v:ai}(hl:cz (λ_=>True) w vs ks)(hv:g=ab∧v= .agg vs.toArray∨g=ae∧vs=[v]):ks.map DV.l=(T.lv n).dropLast∧v=gG vs:=by
 unfold M2 at h;simp only[bt,alM]at h;obtain⟨h1,h2⟩:=h;refine⟨h1,?_⟩;rcases hv with⟨rfl,rfl⟩|⟨rfl,rfl⟩
 ·have hlen:=hl.length;match ks,vs,hlen,h2 with
  |[],[],_,_=>rfl
  |[_],[_],_,h2=>cases h2
  |_::_::_,_::_::_,_,_=>rfl
 ·rfl
def ac0{S S':Nat->Prop}{w':ax}:∀{us vs:List ai} {xs ks:List (DV D)} {u:ai},cz S w (us++[u]) xs->cz S' w' vs ks->ks.map DV.l=(xs.map DV.l).dropLast->(xs.map DV.l).all jE=ab->(jW xs ks=ab↔us=vs)
 |[],[],[x],[],u,h,_,_,_=>by simp[jW]
 |us,vs,[],ks,u,h,_,_,_=>by have:=h.length;simp at this
 |us,vs,[x],y::ks,u,h,_,hk,_=>by simp at hk
 |us,v::vs,[x],[],u,h,h',_,_=>h'.elim
 |us,vs,x::x'::xs,[],u,h,h',hk,_=>by simp at hk
 |[],vs,x::x'::xs,y::ks,u,h,h',hk,hf=>by have:=h.length;simp at this
 |a::us,[],x::x'::xs,y::ks,u,h,h',hk,hf=>h'.elim
 |a::us,v::vs,x::x'::xs,y::ks,u,h,h',hk,hf=>by
  simp only[gC,List.dropLast_cons_cons,List.cons.injEq]at hk;simp only[gC,List.all_cons,bt]at hf;have e1:=afI (u:=a) (v:=v) h.1 h'.1 hk.1.symm hf.1;have ih:=ac0 (us:=us) (vs:=vs) (xs:=x'::xs) (ks:=ks) h.2 h'.2 (by simpa using hk.2) (by simp[hf.2.1,hf.2.2]);cases ks with
  |nil=>
   have HM:vs=[]:=by
    cases vs with
    |nil=>rfl
    |cons _ _=>exact h'.2.elim
   have pF:xs=[]:=by
    have:=hk.2;cases xs with
    |nil=>rfl
    |cons _ _=>simp at this
   subst HM pF;have Ng:us=[]:=by have:=h.2.length;simp at this;exact this
   subst Ng;simp only[jW,e1];simp
  |cons y' ks=>simp only[jW,PR,bt,e1];simp only[jW]at ih;rw[ih];simp
 |a::us,[],[x],[],u,h,_,_,_=>by have:=h.length;simp at this
section
variable {α:Type} {R:gP->α->Prop} {K:ai} {f:α->Bool}
def ja.length:∀{es:List gP} {xs:List α},ja R es xs->es.length=xs.length
 |[],[],_=>rfl
 |_::_,_::_,h=>by simp[ja.length h.2]
 |[],_::_,h=>h.elim
 |_::_,[],h=>h.elim
def ja.append:∀{es sY:List gP} {xs wA:List α},ja R es xs->ja R sY wA->ja R (es++sY) (xs++wA)
 |[],_,[],_,_,h'=>h'
 |_::_,_,_::_,_,h,h'=>⟨h.1,ja.append h.2 h'⟩
 |[],_,_::_,_,h,_=>h.elim
 |_::_,_,[],_,h,_=>h.elim
def ja.key:∀{es:List gP} {xs:List α},ja R es xs->∀e∈es,∃x,R e x
 |e::es,x::xs,h,e',he=>by
  rcases cj.1 he with rfl|he
  ·exact⟨x,h.1⟩
  ·exact ja.key h.2 e' he
 |[],[],_,e,he=>by cases he
 |[],_::_,h,_,_=>h.elim
 |_::_,[],h,_,_=>h.elim
def V'(hf:∀e x,R e x->(f x=ab↔e.key=K)):∀{es:List gP} {xs:List α},ja R es xs->(∀e∈es,e.key≠K)->xs.find? f=none∧xs.any f=ae
 |[],[],_,_=>⟨rfl,rfl⟩
 |e::es,x::xs,h,hn=>by
  obtain⟨i1,i2⟩:=V' hf h.2 λe he=>hn e (eR _ he);have h1:f x=ae:=by
   cases hx:f x with
   |false=>rfl
   |true=>exact(hn e (by simp) ((hf e x h.1).1 hx)).elim
  simp[h1,i1,i2]
 |[],_::_,h,_=>h.elim
 |_::_,[],h,_=>h.elim
def Wa(hf:∀e x,R e x->(f x=ab↔e.key=K)):∀{es:List gP} {xs:List α},ja R es xs->es.Pairwise (λa b=>a.key≠b.key)->∀{j:Nat} {e0:gP},es[j]? =aa e0->e0.key=K->∃x,xs.find? f=aa x∧R e0 x∧xs.any f=ab
 |[],[],_,_,j,e0,hj,_=>by simp at hj
 |e::es,x::xs,h,hp,0,e0,hj,hk=>by cases hj;have h1:=(hf e x h.1).2 hk;exact⟨x,by simp[h1],h.1,by simp[h1]⟩
 |e::es,x::xs,h,hp,j+1,e0,hj,hk=>by
  obtain⟨p1,p2⟩:=pY.1 hp;have nT:es[j]? =aa e0:=by simpa using hj
  obtain⟨y,i1,i2,i3⟩:=Wa hf h.2 p2 nT hk;have h1:f x=ae:=by
   cases hx:f x with
   |false=>rfl
   |true=>exact(p1 e0 (o8 nT) (((hf e x h.1).1 hx).trans hk.symm)).elim
  exact⟨y,by simp[h1,i1],i2,by simp[i3]⟩
 |[],_::_,h,_,_,_,_,_=>h.elim
 |_::_,[],h,_,_,_,_,_=>h.elim
def acx(hf:∀e x,R e x->(f x=ab↔e.key=K)){z:α}:∀{es:List gP} {xs:List α},ja R es xs->(∀e∈es,e.key≠K)->(xs.map λx=>if f x=ab then z else x)=xs
 |[],[],_,_=>rfl
 |e::es,x::xs,h,hn=>by
  have i1:=acx hf (z:=z) h.2 λe he=>hn e (eR _ he);have h1:f x=ae:=by
   cases hx:f x with
   |false=>rfl
   |true=>exact(hn e (by simp) ((hf e x h.1).1 hx)).elim
  rw[gC,i1,h1];rfl
 |[],_::_,h,_=>h.elim
 |_::_,[],h,_=>h.elim
def afD(hf:∀e x,R e x->(f x=ab↔e.key=K)){z:α}{g:gP->gP}:∀{es:List gP} {xs:List α},ja R es xs->es.Pairwise (λa b=>a.key≠b.key)->∀{j:Nat} {e0:gP},es[j]? =aa e0->e0.key=K->R (g e0) z->(g e0).key=e0.key->
  ja R (es.modify j g) (xs.map λx=>if f x=ab then z else x)∧(es.modify j g).map (·.key)=es.map (·.key)
 |[],[],_,_,j,e0,hj,_,_,_=>by simp at hj
 |e::es,x::xs,h,hp,0,e0,hj,hk,hz,hg=>by
  cases hj;obtain⟨p1,p2⟩:=pY.1 hp;have h1:=(hf e x h.1).2 hk;have h2:=acx hf (z:=z) h.2 λe' nk=>by rw[<-hk];exact(p1 e' nk).symm
  rw[gC,h2,aI h1];exact⟨⟨hz,h.2⟩,by simp[hg]⟩
 |e::es,x::xs,h,hp,j+1,e0,hj,hk,hz,hg=>by
  obtain⟨p1,p2⟩:=pY.1 hp;have nT:es[j]? =aa e0:=by simpa using hj
  obtain⟨i1,i2⟩:=afD hf (z:=z) h.2 p2 nT hk hz hg;have h1:f x=ae:=by
   cases hx:f x with
   |false=>rfl
   |true=>exact(p1 e0 (o8 nT) (((hf e x h.1).1 hx).trans hk.symm)).elim
  rw[gC,h1];exact⟨⟨h.1,i1⟩,by simp[i2]⟩
 |[],_::_,h,_,_,_,_,_,_,_=>h.elim
 |_::_,[],h,_,_,_,_,_,_,_=>h.elim
end
def DH(T:bc D)(n:Nat)(x:D n):(T.out n x).map DV.l=T.lv n:=DK _ _
def acW{S:Nat->Prop}{lf:Lf}:∀{us:List ai} {xs:List (DV D)} {u:ai},cz S w (us++[u]) xs->yD (xs.map DV.l)=aa lf->dI S w u ⟨lf,yC lf xs⟩
 |us,[],u,h,_=>by have:=h.length;simp at this
 |[],[x],u,h,hl=>by obtain⟨l,x⟩:=x;simp only[gC,List.map_nil,yD,fK]at hl;subst hl;simp only[yC,dif_pos];exact h.1
 |a::us,[x],u,h,_=>by have:=h.length;simp at this
 |[],x::y::xs,u,h,_=>by have:=h.length;simp at this
 |a::us,x::y::xs,u,h,hl=>by have h2:cz S w (us++[u]) (y::xs):=h.2;have:=acW (us:=us) (xs:=y::xs) h2 (by simpa[yD]using hl);simpa[yC]using this
def alV{S:Nat->Prop}{lf:Lf}(hf:jE lf=ab):dI (D:=D) S w (pack ae (wl [lf])) ⟨lf,zG lf⟩:=by
 cases lf with
 |sl n=>cases hf
 |_=>rfl
def acX:∀{ls:List Lf} {lf:Lf},yD ls=aa lf->lf∈ls
 |[],lf,h=>by cases h
 |[l],lf,h=>by cases h;simp
 |l::m::r,lf,h=>by have:=acX (ls:=m::r) (by simpa[yD]using h);exact eR _ this
def acn(hR:cK T){t kt vt n:Nat}(hM:JS P T t kt vt n){o:cE}{i:Nat}{v:ai}{xs:List (D n)}(h:rX o i w v xs){ks:List (DV D)}{vs:List ai}(hl:cz (λ_=>True) w vs ks)(hk:ks.map DV.l=(T.lv n).dropLast):
  ii (T.lv n).dropLast vs∧∃r es clock,v= .map (aa r)∧o r=i∧w.heap[r]? =aa (.map es clock)∧es.toList.Pairwise (λa b=>a.key≠b.key)∧
   ja (λe x=>∃us:List ai,e.key=gG us∧ad.rd (λ_=>False) w (us++[e.val]) x) es.toList xs∧
   (∀(e:gP) (x:D n),(∃us:List ai,e.key=gG us∧ad.rd (λ_=>False) w (us++[e.val]) x)->(jW (T.out n x) ks=ab↔e.key=gG vs))∧
   ((Instr.findKey kt (gG vs) es.toList).run P w= .ok none w∧(∀e∈es.toList,e.key≠gG vs)∨∃j e,(Instr.findKey kt (gG vs) es.toList).run P w= .ok (aa (j,e.val)) w∧es.toList[j]? =aa e∧e.key=gG vs)∧uG es.toList clock:=by
 have eL:((T.lv n).dropLast).all jE=ab:=by rw[dX];intro l hl;exact dX.1 hM.flat l (by rw[List.dropLast_eq_take]at hl;exact List.mem_of_mem_take hl)
 have qF:ii (T.lv n).dropLast vs:=by rw[<-hk];exact JW hl (by rw[hk];exact eL)
 refine⟨qF,?_⟩
 obtain⟨r,es,clock,h1,h2,h3,h4,h5,hbn⟩:=h
 have hR':∀(e:gP) (x:D n),(∃us:List ai,e.key=gG us∧ad.rd (λ_=>False) w (us++[e.val]) x)->(jW (T.out n x) ks=ab↔e.key=gG vs)∧∃us,ii (T.lv n).dropLast us∧e.key=gG us:=by
  rintro e x ⟨us,k1,k2⟩;rw[hR.rd]at k2;have e1:=ac0 (us:=us) (vs:=vs) (ks:=ks) k2 hl (by rw[DH,hk]) (by rw[DH];exact hM.flat);have e2:us.length=vs.length:=by have a1:=k2.length;have a2:=hl.length;have a3:=iF List.length hk;have a4:=iF List.length (DH T n x);simp at a1 a3 a4;omega
  refine⟨e1.trans ⟨λh=>by rw[k1,h],λh=>ar9 e2 (k1.symm.trans h)⟩,us,?_,k1⟩;have a5:cz (λ_=>False) w us (T.out n x).dropLast:=by
   have:=k2.take us.length;rw[List.take_left]at this;have a1:=k2.length;have e3:(T.out n x).take us.length=(T.out n x).dropLast:=by rw[List.dropLast_eq_take];congr 1;simp at a1;omega
   rwa[e3]at this
  have a6:(T.out n x).dropLast.map DV.l=(T.lv n).dropLast:=by rw[<-DH T n x,List.map_dropLast]
  have:=JW a5 (by rw[a6];exact eL);rwa[a6]at this
 refine⟨r,es,clock,h1,h2,h3,h4,h5,λe x he=>(hR' e x he).1,?_,hbn⟩
 exact hM.key.find w vs qF es.toList λe he=>by obtain⟨x,hx⟩:=h5.key e he;exact(hR' e x hx).2
def ar' [Rd](hP:ef P T)(hR:cK T)(hx:Cx U ar γ w sl L ob){t:aX}{kt vt n:Nat}{m x:Operand}{ok:Bool}{a k:AV D}(ht:aF T.qo t=aa (kt,vt,n))(ha:eY sl m=aa a)(hb:eY sl x=aa k)(h:Q.R ob (Tt T n (ar+16) ok a k) l e):
  OW P Qx L ⟨d,.lookup t m x ok,ty,pos,af,gd⟩ w (λv w'=>∃γ',dW U ar γ w ob e γ' v w'):=by
 have hM:=hP.qo t kt vt n ht
 obtain⟨va,h1,h2⟩:=cG hx.sr ha
 obtain⟨vk,h3,h4⟩:=cG hx.sr hb
 unfold Tt at h
 split at h
 case h_2=>cases h
 rename_i i ks kg ji
 obtain⟨ao,l',ho,rfl,h⟩:=h
 cases ao with
 |box=>exact h.elim
 |sl=>exact h.elim
 |df=>exact h.elim
 |iH=>exact h.elim
 |fz=>exact h.elim
 |mp n' xs=>
  dsimp only at h
  split at h
  case isFalse=>exact h.elim
  rename_i hc
  simp only[bt]at hc
  have hn:=bA hc.1
  subst hn
  split at h
  case h_2=>exact h.elim
  rename_i lf Bg
  obtain⟨vs,k1,k2⟩:=acZ hR ji h4
  obtain⟨k3,rfl⟩:=acY hc.2 k1 k2
  obtain⟨_,_,HY⟩:=hx.ob.ob i _ ho
  obtain⟨qF,r,es,clock,m1,m2,m3,m4,m5,m6,m7,m8⟩:=acn hR hM HY k1 k3
  obtain⟨_,rfl,_⟩:=h2
  rw[m1]at h1
  obtain⟨vl,v1,v2⟩:=hM.val
  rw[Bg]at v1
  cases v1
  have avH:jE lf=ab:=dX.1 hM.flat lf (acX Bg)
  have jO:∀ok,∃u,(Instr.lookup t (.map (aa r)) (gG vs) ok).run P w= .ok (cond ok (.tuple #[u,.bool (sG (λx=>jW (T.out n x) ks) xs)]) u) w∧dI (In γ.o []) w u ⟨lf,ry (λx=>jW (T.out n x) ks) (λx=>yC lf (T.out n x)) (zG lf) xs⟩:=by
   intro ok;unfold ry sG;rcases m7 with⟨f1,f2⟩|⟨j,e0,f1,f2,f3⟩
   ·have uc:=V' (f:=λx=>jW (T.out n x) ks) m6 m5 f2;refine⟨pack ae (wl [lf]),?_,?_⟩
    ·cases ok<;>simp[Instr.lookup,run_underlying hM.u0,MapKept.run_getObj_map m3,hM.key.check _ _ _ qF,f1,v2.zero,Result.andThen,uc.2]
    ·rw[uc.1];exact alV avH
   ·obtain⟨y,g1,⟨us,g2,g3⟩,g4⟩:=Wa (f:=λx=>jW (T.out n x) ks) m6 m5 m4 f2 f3;refine⟨e0.val,?_,?_⟩
    ·cases ok<;>simp[Instr.lookup,run_underlying hM.u0,MapKept.run_getObj_map m3,hM.key.check _ _ _ qF,f1,Result.andThen,g4]
    ·rw[g1];rw[hR.rd]at g3;exact(acW g3 (by rw[DH];exact Bg)).weaken λ_ h=>h.elim
  obtain⟨u,u1,u2⟩:=jO ok
  cases ok with
  |false=>
   obtain⟨_,rfl⟩:=h
   refine du (v:=u) (OW.run λc hc=>⟨_,w,?_,rfl,rfl⟩) (er hx u2)
   simp[execOp,hc _ _ h1,hc _ _ h3,u1]
  |true=>
   obtain⟨_,rfl⟩:=h
   refine du (v:= .tuple #[u,.bool (sG (λx=>jW (T.out n x) ks) xs)]) (OW.run λc hc=>⟨_,w,?_,rfl,rfl⟩) (Au hx [⟨lf,ry (λx=>jW (T.out n x) ks) (λx=>yC lf (T.out n x)) (zG lf) xs⟩,⟨.bool,sG (λx=>jW (T.out n x) ks) xs⟩] (by simp) ⟨[u,.bool (sG (λx=>jW (T.out n x) ks) xs)],rfl,⟨u2,mD (γ:=γ) (i:=0) rfl (by omega) rfl,lz⟩,⟨rfl,mD (γ:=γ) (i:=1) rfl (by omega) rfl,lz⟩,trivial⟩)
   simp[execOp,hc _ _ h1,hc _ _ h3,u1]
def ack [Rd](hP:ef P T)(hR:cK T)(hx:Cx U ar γ w sl L ob){t:aX}{kt vt n:Nat}{m x u:Operand}{op:Op}(UK:op= .mapUpdate t m x u∨op= .insert t m x u){a k b:AV D}(ht:aF T.qo t=aa (kt,vt,n))(ha:eY sl m=aa a)(hb:eY sl x=aa k)(hu:eY sl u=aa b)(h:Q.R ob (MG T n a k b) l e):
  OW P Qx L ⟨d,op,ty,pos,af,gd⟩ w (λv w'=>∃γ',dW U ar γ w ob e γ' v w'):=by
 have hM:=hP.qo t kt vt n ht
 obtain⟨va,h1,h2⟩:=cG hx.sr ha
 obtain⟨vk,h3,h4⟩:=cG hx.sr hb
 obtain⟨vu,h5,h6⟩:=cG hx.sr hu
 unfold MG at h
 split at h
 case h_2=>cases h
 rename_i i ks kg lf dd K g ji
 obtain⟨ao,l',ho,rfl,h⟩:=h
 cases ao with
 |box=>exact h.elim
 |sl=>exact h.elim
 |df=>exact h.elim
 |iH=>exact h.elim
 |fz=>exact h.elim
 |mp n' xs=>
  dsimp only at h
  split at h
  case isFalse=>exact h.elim
  rename_i hc
  simp only[bt]at hc
  have hn:=bA hc.1
  subst hn
  split at h
  case h_2=>exact h.elim
  rename_i z hz
  obtain⟨_,rfl⟩:=h
  obtain⟨vs,k1,k2⟩:=acZ hR ji h4
  obtain⟨k3,rfl⟩:=acY hc.2 k1 k2
  obtain⟨fF,U_,HY⟩:=hx.ob.ob i _ ho
  obtain⟨qF,r,es,clock,m1,m2,m3,m4,m5,m6,m7,m8⟩:=acn hR hM HY k1 k3
  obtain⟨_,rfl,_⟩:=h2
  rw[m1]at h1
  have Nr:=hR.jf hz
  have eL:(T.out n z).map DV.l=T.lv n:=DH T n z
  have hzr:ad.rd (λ_=>False) w (vs++[vu]) z:=by
   rw[hR.rd,Nr];have gU:(ks++[⟨lf,dd⟩]:List (DV D)).map DV.l=T.lv n:=by rw[<-Nr];exact eL
   have key:∀{vs:List ai} {ks:List (DV D)},cz (λ_=>True) w vs ks->(ks.map DV.l).all jE=ab->cz (λ_=>False) w vs ks:=by
    intro vs;induction vs with
    |nil=>intro ks h _;cases ks with|nil=>trivial|cons _ _=>exact h.elim
    |cons v vs ih=>
     intro ks h hf;cases ks with
     |nil=>exact h.elim
     |cons y ks=>
      simp only[gC,List.all_cons,bt]at hf;refine⟨?_,ih h.2 hf.2⟩;obtain⟨l,y⟩:=y;cases l with
      |sl n=>cases hf.1
      |_=>exact h.1
   exact key (cz.append k1 ⟨h6.1.weaken λ_ _=>trivial,trivial⟩) (by rw[gU];exact hM.flat)
  have l_:r<w.heap.size:=(Array.getElem?_eq_some_iff.1 m3).1
  have jO:∃sY BR,(Instr.mapUpdate t (.map (aa r)) (gG vs) vu).run P w= .ok () {w with heap:=w.heap.setIfInBounds r (.map sY BR)}∧sY.toList.Pairwise (λa b=>a.key≠b.key)∧
    ja (λe x=>∃us:List ai,e.key=gG us∧ad.rd (λ_=>False) w (us++[e.val]) x) sY.toList (tP (λx=>jW (T.out n x) ks) z xs)∧uG sY.toList BR:=by
   rcases m7 with⟨f1,f2⟩|⟨j,e0,f1,f2,f3⟩
   ·have uc:=V' (f:=λx=>jW (T.out n x) ks) m6 m5 f2;refine⟨es.push ⟨gG vs,vu,clock⟩,clock+1,?_,?_,?_,?_⟩
    ·simp[Instr.mapUpdate,run_underlying hM.u0,MapKept.run_getObj_map m3,hM.key.check _ _ _ qF,f1,MapKept.run_setObj_map _ m3,Result.andThen]
    ·rw[Array.toList_push,List.pairwise_append];refine⟨m4,by simp,λe he e' nk=>?_⟩;simp only[cY]at nk;subst nk;exact f2 e he
    ·unfold tP;rw[aK (by simp[uc.2]),Array.toList_push];exact m5.append ⟨⟨vs,rfl,hzr⟩,trivial⟩
    ·rw[Array.toList_push];exact uG.push m8
   ·obtain⟨y,g1,_,g3⟩:=Wa (f:=λx=>jW (T.out n x) ks) m6 m5 m4 f2 f3;have hj:es[j]? =aa e0:=by simpa using f2
    obtain⟨s1,s2⟩:=afD (f:=λx=>jW (T.out n x) ks) (z:=z) (g:=λe=>{e with key:=gG vs,val:=vu}) m6 m5 m4 f2 f3 ⟨vs,rfl,hzr⟩ f3.symm;refine⟨es.modify j λe=>{e with key:=gG vs,val:=vu},clock,?_,?_,?_,?_⟩
    ·simp[Instr.mapUpdate,run_underlying hM.u0,MapKept.run_getObj_map m3,hM.key.check _ _ _ qF,f1,hj,f3,hM.key.stays _ _ qF,MapKept.run_setObj_map _ m3,Result.andThen]
    ·rw[Array.toList_modify];have p1:=List.pairwise_map.2 m4;rw[<-s2]at p1;exact List.pairwise_map.1 p1
    ·unfold tP;rw[aI g3,Array.toList_modify];exact s1
    ·rw[Array.toList_modify];exact uG.modify (λ_=>rfl) m8
  obtain⟨sY,BR,u1,u2,u3,u4⟩:=jO
  obtain⟨Uw,Uv⟩:=MapKept.heap_set (w:=w) (r:=r) (o':= .map sY BR) m3
  have b8:bJ [i] [] γ.o w γ.o {w with heap:=w.heap.setIfInBounds r (.map sY BR)}:=by
   refine⟨rfl,rfl,rfl,by simp,λ_ _=>rfl,λb h1 h2=>?_,λb hb hm=>?_⟩
   ·simp at h2;omega
   ·refine Uv b λe=>hm ?_;subst e;simp[m2]
  refine OW.LP λc hc=>⟨{w with heap:=w.heap.setIfInBounds r (.map sY BR)},?_,?_⟩
  rotate_left
  ·refine⟨_,mkPost (M:=[i]) (N:=[]) (ps:=[]) (g':=γ.g) (v':=γ.v) hx.ob b8 (by simp[fF,U_,de.wr]) (by simp) (by simp) hx.cO (λ_ _=>rfl) (λ_ _=>rfl) rfl ?_⟩;intro q z' hq ky;obtain⟨rfl,oH⟩:=nN hq;cases oH;exact⟨fF,.inl U_,r,sY,BR,m1,m2,Uw,u2,u3.mono λe x ⟨us,a1,a2⟩=>⟨us,a1,ad.mono (λb hb _=>hb.elim) a2⟩,u4⟩
  ·rcases UK with rfl|rfl<;>simp[execOp,hc _ _ h1,hc _ _ h3,hc _ _ h5,u1]
end
section
variable {P:cT}
def mQ.plain{kt:aX}{l:Lf}{d:TypeDesc}(hd:P.underlying kt=aa d)(hk:∀v,ii [l] [v]->MapKept.IsKey d v):mQ P kt [l]:=by
 have one:∀{us:List ai},ii [l] us->∃v,us=[v]∧MapKept.IsKey d v:=λ{us} h=>by
  match us,h with
  |[v],h=>exact⟨v,rfl,hk v h⟩
  |[],h=>exact h.elim
  |_::_::_,h=>exact h.2.elim
 refine⟨λw em ks h=>?_,λw ks h es qG=>?_,λw ks h=>?_⟩
 ·obtain⟨v,rfl,h1⟩:=one h;exact MapKept.run_checkKey hd h1 em 9999
 ·obtain⟨v,rfl,h1⟩:=one h;have ji:∀y∈es,MapKept.IsKey d y.key:=λy hy=>by obtain⟨us,h2,h3⟩:=qG y hy;obtain⟨u,rfl,h4⟩:=one h2;rw[h3];exact h4
  rcases MapKept.findNow_spec h1 es 0 ji with⟨g1,g2⟩|⟨j,e0,g1,g2,g3⟩
  ·exact .inl ⟨MapKept.run_findKey hd g1,g2⟩
  ·exact .inr ⟨j,e0,by have:=MapKept.run_findKey (P:=P) (w:=w) hd g1;rw[Nat.zero_add]at this;exact this,g2,g3⟩
 ·obtain⟨v,rfl,h1⟩:=one h;exact MapKept.run_keyThatStays h1
def mQ.int{kt:aX}{k:IntKind}(hd:P.underlying kt=aa (.int k)):mQ P kt [.int k]:=mQ.plain hd λv ⟨⟨a,h⟩,_⟩=>by subst h;rfl
def mQ.str{kt:aX}(hd:P.underlying kt=aa .string):mQ P kt [.str]:=mQ.plain hd λv ⟨⟨a,h⟩,_⟩=>by subst h;trivial
def ii.len:∀{ls:List Lf} {us:List ai},ii ls us->us.length=ls.length
 |[],[],_=>rfl
 |_::_,_::_,h=>by simp[ii.len h.2]
 |[],_::_,h=>h.elim
 |_::_,[],h=>h.elim
def ii.split:∀{l1 l2:List Lf} {us:List ai},ii (l1++l2) us->ii l1 (us.take l1.length)∧ii l2 (us.drop l1.length)
 |[],l2,us,h=>⟨by simp[ii],by simpa using h⟩
 |l::l1,l2,u::us,h=>by obtain⟨h1,h2⟩:=ii.split (l1:=l1) h.2;exact⟨by rw[jd,List.take_succ_cons];exact⟨h.1,h1⟩,by rw[jd,List.drop_succ_cons];exact h2⟩
 |_::_,_,[],h=>h.elim
def gN.int{t:aX}{k:IntKind}(h:P.underlying t=aa (.int k)):gN P t ae [.int k] 1:=by
 intro d w us vs h1 h2;match us,vs,h1,h2 with
 |[u],[v],h1,h2=>obtain⟨⟨a,rfl⟩,_⟩:=h1;obtain⟨⟨b,rfl⟩,_⟩:=h2;have:=run_equalIn_int (P:=P) w d t k k a b h;exact⟨a==b,by simpa[pack]using this,by simp⟩
 |[],_,h1,_=>exact h1.elim
 |_::_::_,_,h1,_=>exact h1.2.elim
 |[_],[],_,h2=>exact h2.elim
 |[_],_::_::_,_,h2=>exact h2.2.elim
def gN.bool{t:aX}(h:P.underlying t=aa .bool):gN P t ae [.bool] 1:=by
 intro d w us vs h1 h2;match us,vs,h1,h2 with
 |[u],[v],h1,h2=>obtain⟨⟨a,rfl⟩,_⟩:=h1;obtain⟨⟨b,rfl⟩,_⟩:=h2;have:=run_equalIn_bool' (P:=P) w d t a b h;exact⟨a==b,by simpa[pack]using this,by simp⟩
 |[],_,h1,_=>exact h1.elim
 |_::_::_,_,h1,_=>exact h1.2.elim
 |[_],[],_,h2=>exact h2.elim
 |[_],_::_::_,_,h2=>exact h2.2.elim
def gN.str{t:aX}(h:P.underlying t=aa .string):gN P t ae [.str] 1:=by
 intro d w us vs h1 h2;match us,vs,h1,h2 with
 |[u],[v],h1,h2=>
  obtain⟨⟨a,rfl⟩,_⟩:=h1;obtain⟨⟨b,rfl⟩,_⟩:=h2;have:=run_equalIn_string (P:=P) w d t a b h;rw[<-beq_toListBytes]at this;refine⟨a==b,by simpa[pack]using this,?_⟩;have:∀p q:ByteArray,(p==q)=ab↔p=q:=λ⟨a⟩ ⟨b⟩=>by show(a==b)=ab↔_;simp
  rw[this];simp
 |[],_,h1,_=>exact h1.elim
 |_::_::_,_,h1,_=>exact h1.2.elim
 |[_],[],_,h2=>exact h2.elim
 |[_],_::_::_,_,h2=>exact h2.2.elim
def gN.up{t:aX}{g:Bool}{ls:List Lf}{k k':Nat}(h:gN P t g ls k)(hk:k<=k'):gN P t g ls k':=λd w us vs h1 h2=>by have:=h (d+(k'-k)) w us vs h1 h2;rwa[show d+(k'-k)+k=d+k' by omega]at this
def DG{t:aX}{g:Bool}{z us:List ai}{off:Nat}(hT:bj P t g z)(hz:g=ae->z.length=1)(h:off+z.length<=us.length)(w:ax):(part t us.toArray off).run P w= .ok (pack g ((us.drop off).take z.length)) w:=by
 unfold part;rw[Sem.run_bind,hT.isAgg];simp only[Result.andThen_ok];cases g with
 |true=>simp only[aH,Sem.run_bind,hT.sizeOf,Result.andThen_ok,Sem.run_pure,pack];congr 2;apply Array.toList_inj.1;simp[List.take_drop]
 |false=>
  have h1:=hz rfl;rw[h1]at h⊢;have aS:off<us.length:=by omega
  simp only[aC,aB];have:us.toArray[off]? =aa us[off]:=by simp[aS]
  rw[this];simp only[Sem.run_pure,pack,aC,aB];rw[J5 aS];rfl
def YR(P:cT)(k:Nat):Nat->List Field->List Lf->Prop
 |off,[],ls=>ls=[]
 |off,f::fs,ls=>f.name≠ "_" ∧f.offset=off∧∃g l1 l2 z,ls=l1++l2∧bj P f.type g z∧z.length=l1.length∧(g=ae->l1.length=1)∧gN P f.type g l1 k∧YR P k (off+l1.length) fs l2
def afB{k d:Nat}{xs ys:List ai}{w:ax}:∀{fs:List Field} {off:Nat} {ls:List Lf},YR P k off fs ls->ii ls (xs.drop off)->ii ls (ys.drop off)->off<=xs.length->off<=ys.length->∃r:Bool,(Op.eqFields (d+k) xs.toArray ys.toArray fs).run P w= .ok r w∧(r=ab↔xs.drop off=ys.drop off)
 |[],off,ls,h,hx,hy,_,_=>by
  have h:ls=[]:=h;subst h;have e1:xs.drop off=[]:=by
   generalize xs.drop off=a at hx;cases a with
   |nil=>rfl
   |cons _ _=>exact hx.elim
  have e2:ys.drop off=[]:=by
   generalize ys.drop off=a at hy;cases a with
   |nil=>rfl
   |cons _ _=>exact hy.elim
  rw[e1,e2];exact⟨ab,by simp[Op.eqFields],by simp⟩
 |f::fs,off,ls,h,hx,hy,hox,Nq=>by
  obtain⟨h1,rfl,g,l1,l2,z,rfl,h2,h3,h4,h5,h6⟩:=h;have lx:=hx.len;have ly:=hy.len;simp at lx ly;obtain⟨x1,x2⟩:=hx.split;obtain⟨y1,y2⟩:=hy.split;rw[mT]at x2 y2;have hz:g=ae->z.length=1:=λhg=>by rw[h3];exact h4 hg
  have hle:f.offset+l1.length<=xs.length:=by omega
  ·have p1:=DG (us:=xs) (off:=f.offset) h2 hz (by omega) w;have p2:=DG (us:=ys) (off:=f.offset) h2 hz (by omega) w;rw[h3]at p1 p2;obtain⟨r3,p3,q3⟩:=h5 d w _ _ x1 y1;obtain⟨ri,ih,qi⟩:=afB (d:=d) (w:=w) h6 x2 y2 (by omega) (by omega);simp only[Op.eqFields,ne_eq,h1,not_false_eq_true,aH,Sem.run_bind,p1,p2,p3,Result.andThen_ok];have ex:xs.drop f.offset=(xs.drop f.offset).take l1.length++xs.drop (f.offset+l1.length):=by rw[<-mT,od]
   have ey:ys.drop f.offset=(ys.drop f.offset).take l1.length++ys.drop (f.offset+l1.length):=by rw[<-mT,od]
   cases r3 with
   |true=>have he:=q3.1 rfl;refine⟨ri,by simpa using ih,qi.trans ⟨λe=>by rw[ex,ey,he,e],λe=>by rw[<-mT,<-mT,e]⟩⟩
   |false=>refine⟨ae,by simp,by simp;intro e;have:=q3.2 (by rw[e]);cases this⟩
def gN.struct{t:aX}{fs:Array Field}{ls:List Lf}{k:Nat}(h:P.underlying t=aa (.struct fs))(hp:P.stoodInHeld t=ae)(hF:YR P k 0 fs.toList ls):gN P t ab ls (k+1):=by
 intro d w us vs h1 h2;have hfo:P.fieldsOf t=fs:=by simp[cT.fieldsOf,h]
 have e1:=run_equalIn_struct (P:=P) w (d+k) t us.toArray vs.toArray (by rw[hfo];exact h) hp;obtain⟨r,e2,e3⟩:=afB (P:=P) (d:=d) (w:=w) hF (xs:=us) (ys:=vs) (by simpa using h1) (by simpa using h2) (by simp) (by simp);rw[hfo,e2]at e1;exact⟨r,e1,by simpa using e3⟩
def afA{t:aX}{g:Bool}{l1:List Lf}{k d:Nat}{z xs ys:List ai}{w:ax}(h2:bj P t g z)(h3:z.length=l1.length)(h4:g=ae->l1.length=1)(h5:gN P t g l1 k){i:TypeInfo}(hi:P.cellsOf t=l1.length):
  ∀{n s:Nat},ii (cR n l1).flatten (xs.drop (s*l1.length))->ii (cR n l1).flatten (ys.drop (s*l1.length))->s*l1.length<=xs.length->s*l1.length<=ys.length->∃r:Bool,(Op.eqItems (d+k) t (P.cellsOf t) xs.toArray ys.toArray (List.range' s n)).run P w= .ok r w∧(r=ab↔xs.drop (s*l1.length)=ys.drop (s*l1.length))
 |0,s,hx,hy,_,_=>by
  have e1:xs.drop (s*l1.length)=[]:=by
   generalize xs.drop (s*l1.length)=a at hx;cases a with
   |nil=>rfl
   |cons _ _=>exact hx.elim
  have e2:ys.drop (s*l1.length)=[]:=by
   generalize ys.drop (s*l1.length)=a at hy;cases a with
   |nil=>rfl
   |cons _ _=>exact hy.elim
  rw[e1,e2];exact⟨ab,by simp[Op.eqItems],by simp⟩
 |n+1,s,hx,hy,US,hly=>by
  rw[List.replicate_succ,nE]at hx hy;have lx:=hx.len;have ly:=hy.len;simp at lx ly;obtain⟨x1,x2⟩:=hx.split;obtain⟨y1,y2⟩:=hy.split;rw[mT]at x2 y2;have hs:(s+1)*l1.length=s*l1.length+l1.length:=by rw[Nat.succ_mul]
  have hz:g=ae->z.length=1:=λhg=>by rw[h3];exact h4 hg
  have p1:=DG (us:=xs) (off:=s*l1.length) h2 hz (by omega) w;have p2:=DG (us:=ys) (off:=s*l1.length) h2 hz (by omega) w;rw[h3]at p1 p2;obtain⟨r3,p3,q3⟩:=h5 d w _ _ x1 y1;obtain⟨ri,ih,qi⟩:=afA (d:=d) (xs:=xs) (ys:=ys) (w:=w) h2 h3 h4 h5 (i:=i) hi (n:=n) (s:=s+1) (by rw[hs];exact x2) (by rw[hs];exact y2) (by omega) (by omega);rw[hi]at ih⊢;rw[List.range'_succ];simp only[Op.eqItems,Sem.run_bind,p1,p2,p3,Result.andThen_ok];have ex:xs.drop (s*l1.length)=(xs.drop (s*l1.length)).take l1.length++xs.drop ((s+1)*l1.length):=by rw[hs,<-mT,od]
  have ey:ys.drop (s*l1.length)=(ys.drop (s*l1.length)).take l1.length++ys.drop ((s+1)*l1.length):=by rw[hs,<-mT,od]
  cases r3 with
  |true=>have he:=q3.1 rfl;refine⟨ri,by simpa using ih,qi.trans ⟨λe=>by rw[ex,ey,he,e],λe=>by rw[hs,<-mT,<-mT,e]⟩⟩
  |false=>refine⟨ae,by simp,by simp;intro e;have:=q3.2 (by rw[e]);cases this⟩
def gN.array{t e:aX}{m k:Nat}{g:Bool}{l1 ls:List Lf}{z:List ai}(h:P.underlying t=aa (.array m e))(h2:bj P e g z)(h3:z.length=l1.length)(h4:g=ae->l1.length=1)(h5:gN P e g l1 k)(hl:ls=(cR m l1).flatten):gN P t ab ls (k+1):=by
 intro d w us vs c1 c2;obtain⟨i,fP,eb,_⟩:=h2.m_;subst hl;have e1:=run_equalIn_array (P:=P) w (d+k) us.toArray vs.toArray h fP;have hc:P.cellsOf e=l1.length:=by simp[cT.cellsOf,fP,eb,h3]
 obtain⟨r,e2,e3⟩:=afA (d:=d) (xs:=us) (ys:=vs) (w:=w) h2 h3 h4 h5 (i:=i) hc (n:=m) (s:=0) (by simpa using c1) (by simpa using c2) (by simp) (by simp);rw[List.range_eq_range',e2]at e1;exact⟨r,e1,by simpa using e3⟩
def ii.ints{k:IntKind}:∀{m:Nat} {us:List ai},ii (cR m (.int k)) us->∃xs:List Int,us=xs.map (ai.int k)∧xs.length=m
 |0,[],_=>⟨[],rfl,rfl⟩
 |0,_::_,h=>h.elim
 |m+1,[],h=>h.elim
 |m+1,u::us,h=>by obtain⟨⟨a,rfl⟩,h2⟩:=(h:(∃a,u= .int k a)∧ii (cR m (.int k)) us);obtain⟨xs,rfl,h3⟩:=ii.ints h2;exact⟨a::xs,rfl,by simp[h3]⟩
def acr{us:List ai}(h:us.length≠1):gG us= .agg us.toArray:=by
 match us,h with
 |[],_=>rfl
 |[_],h=>exact(h rfl).elim
 |_::_::_,_=>rfl
def mQ.agg{kt:aX}{m:Nat}{k:IntKind}{d:TypeDesc}(hd:P.underlying kt=aa d)(auX:∀a b,Instr.sameNow d (.agg a) b=none)(hm:m≠1)(hE:gN P kt ab (cR m (.int k)) 2)
  (Vx:∀(w:ax) (em:Bool) (xs:List Int),xs.length=m->(Instr.checkKey em 10000 kt (.agg (xs.map (ai.int k)).toArray)).run P w= .ok () w):mQ P kt (cR m (.int k)):=by
 have hk:∀{us:List ai},ii (cR m (.int k)) us->gG us= .agg us.toArray:=λ{us} hu=>acr (by rw[hu.len,List.length_replicate];exact hm)
 refine⟨λw em ks hc=>?_,λw ks hc es qG=>?_,λw ks hc=>?_⟩
 ·rw[hk hc];obtain⟨xs,rfl,D2⟩:=hc.ints;exact Vx w em xs D2
 ·rw[hk hc];have aeG:∀e'∈es,∃us,ii (cR m (.int k)) us∧e'.key= .agg us.toArray:=λe' nk=>by obtain⟨us,h1,h2⟩:=qG e' nk;exact⟨us,h1,by rw[h2,hk h1]⟩
  have jj:∀e'∈es,∃r:Bool,(Op.equal kt (.agg ks.toArray) e'.key).run P w= .ok r w∧(r=ab↔e'.key= .agg ks.toArray):=λe' nk=>by obtain⟨us,h1,h2⟩:=aeG e' nk;obtain⟨r,e1,e2⟩:=hE 9998 w ks us hc h1;rw[h2];simp only[pack,aH]at e1;exact⟨r,e1,e2.trans ⟨λh=>by rw[h],λh=>by simpa using h.symm⟩⟩
  have awi:∀(l:List gP) (i:Nat),(∀e'∈l,e'∈es)->((Instr.findAsking kt (.agg ks.toArray) l i).run P w= .ok none w∧∀e'∈l,e'.key≠.agg ks.toArray)∨∃j e',(Instr.findAsking kt (.agg ks.toArray) l i).run P w= .ok (aa (i+j,e'.val)) w∧l[j]? =aa e'∧e'.key= .agg ks.toArray:=by
   intro l;induction l with
   |nil=>intro i _;exact .inl ⟨rfl,by simp⟩
   |cons e' l ih=>
    intro i hl;obtain⟨r,h1,np⟩:=jj e' (hl e' (by simp));unfold Instr.findAsking;simp only[Sem.run_bind,h1,Result.andThen_ok];cases r with
    |true=>exact .inr ⟨0,e',by simp,rfl,np.1 rfl⟩
    |false=>
     have da:e'.key≠.agg ks.toArray:=λh=>by have:=np.2 h;cases this
     rcases ih (i+1) (λx hx=>hl x (eR _ hx))with⟨g1,g2⟩|⟨j,e2,g1,g2,g3⟩
     ·refine .inl ⟨by simp[g1],λx hx=>?_⟩;rcases cj.1 hx with rfl|hx
      ·exact da
      ·exact g2 x hx
     ·refine .inr ⟨j+1,e2,?_,by simpa using g2,g3⟩;simp only[aC,aB];rw[g1];congr 3;omega
  have hfk:(Instr.findKey kt (.agg ks.toArray) es).run P w=(Instr.findAsking kt (.agg ks.toArray) es).run P w:=by
   unfold Instr.findKey;simp only[Sem.run_bind,run_underlying hd,Result.andThen_ok];cases es with
   |nil=>rfl
   |cons e' es=>obtain⟨us,_,h2⟩:=aeG e' (by simp);simp[Instr.findNow,auX]
  rw[hfk];rcases awi es 0 (λ_ h=>h)with⟨g1,g2⟩|⟨j,e2,g1,g2,g3⟩
  ·exact .inl ⟨g1,g2⟩
  ·exact .inr ⟨j,e2,by simpa using g1,g2,g3⟩
 ·rw[hk hc];obtain⟨xs,rfl,D2⟩:=hc.ints;have:Instr.sameBits 10000 (.agg (xs.map (ai.int k)).toArray) (.agg (xs.map (ai.int k)).toArray)=ab:=by
   simp only[Instr.sameBits,BEq.rfl,Bool.true_and];rw[dX];rintro⟨x,y⟩ HG;simp only[List.zip_map,dk]at HG;have hz:∀(l:List Int) (p:Int×Int),p∈l.zip l->p.1=p.2:=by
    intro l;induction l with
    |nil=>intro p hp;simp at hp
    |cons a l ih=>
     intro p hp;simp only[List.zip_cons_cons,cj]at hp;rcases hp with rfl|hp
     ·rfl
     ·exact ih p hp
   obtain⟨p,hp,h2⟩:=HG;have h3:=hz xs p hp;cases h2;simp[Instr.sameBits,h3]
  simp[Instr.keyThatStays,this]
def mQ.tt{kt e:aX}{m:Nat}{k:IntKind}{z:List ai}(h:P.underlying kt=aa (.array m e))(hm:m≠1)(he:P.underlying e=aa (.int k))(hT:bj P e ae z)(hz:z.length=1):mQ P kt (cR m (.int k)):=by
 have hE:gN P kt ab (cR m (.int k)) 2:=gN.array (l1:=[.int k]) h hT (by simpa using hz) (λ_=>rfl) (gN.int he) (by
  clear h hm;induction m with
  |zero=>rfl
  |succ m ih=>rw[List.replicate_succ,List.replicate_succ,nE,<-ih];rfl)
 refine mQ.agg h (λ_ _=>rfl) hm hE λw em xs D2=>?_;unfold Instr.checkKey;simp only[Sem.run_bind,run_underlying h,Result.andThen_ok];simp only[Std.Legacy.Range.forIn_eq_forIn_range',Std.Legacy.Range.size,Nat.sub_zero,Nat.add_one_sub_one,Nat.div_one];have key:∀{n s:Nat},s+n=m->(forIn (List.range' s n) F0 (λi (r:PUnit)=>do
   let v<-part e (xs.map (ai.int k)).toArray (i*(<-sizeOf e))
   Instr.checkKey em 9999 e v
   pure (ForInStep.yield F0)):Sem PUnit).run P w= .ok F0 w:=by
  intro n
  induction n with
  |zero=>intro s _;simp
  |succ n ih=>
   intro s hs
   have p1:=DG (us:=xs.map (ai.int k)) (off:=s) hT (λ_=>hz) (by simp;omega) w
   have aS:s<xs.length:=by omega
   have p2:pack ae (((xs.map (ai.int k)).drop s).take z.length)= .int k xs[s]:=by rw[hz,J5 (by simpa using aS)];simp[pack]
   rw[p2]at p1
   have p3:=MapKept.run_checkKey (P:=P) (w:=w) (k:= .int k xs[s]) he rfl em 9998
   have p4:=hT.sizeOf w
   rw[hz]at p4
   rw[List.range'_succ,List.forIn_cons]
   simp only[Sem.run_bind,p4,Result.andThen_ok,Nat.mul_one,p1,p3,Sem.run_pure]
   exact ih (by omega)
 have:=key (n:=m) (s:=0) (by omega);rw[this];rfl
def YS(P:cT)(k:IntKind):Nat->List Field->Prop
 |_,[]=>True
 |off,f::fs=>f.name≠ "_" ∧f.offset=off∧P.underlying f.type=aa (.int k)∧(∃z,bj P f.type ae z∧z.length=1)∧YS P k (off+1) fs
def mQ.struct{kt:aX}{fs:Array Field}{m:Nat}{k:IntKind}(h:P.underlying kt=aa (.struct fs))(hl:fs.toList.length=m)(hm:m≠1)(hE:gN P kt ab (cR m (.int k)) 2)(hF:YS P k 0 fs.toList):mQ P kt (cR m (.int k)):=by
 refine mQ.agg h (λ_ _=>rfl) hm hE λw em xs D2=>?_;unfold Instr.checkKey;simp only[Sem.run_bind,run_underlying h,Result.andThen_ok];rw[<-Array.forIn_toList];have key:∀(l:List Field) (off:Nat),YS P k off l->off+l.length=xs.length->(forIn l F0 (λf (r:PUnit)=>
   if f.name≠ "_" then(do
    let v<-part f.type (xs.map (ai.int k)).toArray f.offset
    Instr.checkKey em 9999 f.type v
    pure (ForInStep.yield F0))else pure (ForInStep.yield F0)):Sem PUnit).run P w= .ok F0 w:=by
  intro l
  induction l with
  |nil=>intro off _ _;simp
  |cons f l ih=>
   intro off ⟨h1,h2,h3,⟨z,h4,h5⟩,h6⟩ ho
   subst h2
   simp only[jd]at ho
   have p1:=DG (us:=xs.map (ai.int k)) (off:=f.offset) h4 (λ_=>h5) (by simp;omega) w
   have aS:f.offset<xs.length:=by omega
   have p2:pack ae (((xs.map (ai.int k)).drop f.offset).take z.length)= .int k xs[f.offset]:=by rw[h5,J5 (by simpa using aS)];simp[pack]
   rw[p2]at p1
   have p3:=MapKept.run_checkKey (P:=P) (w:=w) (k:= .int k xs[f.offset]) h3 rfl em 9998
   rw[List.forIn_cons]
   simp only[aI h1,Sem.run_bind,p1,p3,Result.andThen_ok,Sem.run_pure]
   exact ih _ h6 (by omega)
 rw[key fs.toList 0 hF (by omega)];rfl
