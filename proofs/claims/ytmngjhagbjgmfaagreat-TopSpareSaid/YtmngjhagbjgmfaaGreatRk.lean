import Derived.Test.YtmngjhagbjgmfaaGreatRg
import Derived.MapKept
import Derived.ChangeKeysEq
set_option linter.all false
open Bool renaming and_eq_true->bq,false->ai,false_eq_true->aD,true->ab
open Go renaming MapEntry->gI,Program->cP,TypeId->aX,Value->ah,World->ax
open List renaming all_eq_true->dR,drop_drop->qY,length_cons->jO,map_cons->gu,mem_cons->cr,mem_cons_of_mem->eV,mem_map->dC,mem_of_getElem?->oT,mem_singleton->dZ,pairwise_cons->qV,replicate->cR,take_append_drop->pO
open Nat renaming eq_of_beq_eq_true->bA
open Option renaming some->aa
open Option.some renaming injEq->fC
namespace Go.Proofs.YtmngjhagbjgmfaaGreat
open Go Go.RowKit Dp
namespace Rx
section
variable {D:Nat->Type} [∀n,ad (D n)]
variable {P:cP} {T:bb D} {Qx:Exit->Act->ax->Prop} {U:Nat->Prop} {aq:Nat} {γ:Gh D} {w:ax} {sl:List (Nat×AV D)} {L:List (Nat×ah)} {ob:List (Nat×Option (AO D))}
 {d:Option Tmp} {ty:aX} {pos:String} {af:Array Edge} {gd:Option (Nat×Bool)} {e:cW D} {l:List Nat}
def aq0 [Rd](hx:Cx U aq γ w sl L ob){t:aX}{n:Nat}:
  OW P Qx L ⟨d,.makeMap t none,ty,pos,af,gd⟩ w (λv w'=>∃γ',dP U aq γ w ob ⟨.c (.one (.own aq)),[(aq,aa (.mp n []))],[]⟩ γ' v w'):=by
 have b6:=bO.alloc γ.o w (.map #[] 0) aq
 refine OW.run λa ha=>⟨.map (aa w.heap.size),w.alloc (.map #[] 0),?_,?_⟩
 ·simp[execOp,Instr.makeMap,newObj];rfl
 ·refine⟨_,mkPost (M:=[]) (N:=[aq]) (ps:=[]) (g':=kS γ.g aq (.map (aa w.heap.size))) (v':=γ.v) hx.ob b6 (by simp) (by simp) (by simp) hx.cI (λi hi=>ul hx hi) (λ_ _=>rfl) ⟨oL,(oF _ _ _).symm,rfl⟩ ?_⟩;intro j x hj kl;obtain⟨rfl,dX⟩:=nC hj;cases dX;exact⟨hx.cI,oL,w.heap.size, #[],0,oF _ _ _,sN γ.o w aq _ (Nat.le_refl _),heap_alloc_new w _,by simp,trivial,by simp,by simp⟩
def uB.push{es:List gI}{clock:Nat}{k v:ah}(h:uB es clock):uB (es++[⟨k,v,clock⟩]) (clock+1):=by
 refine⟨λe he=>?_,?_⟩
 ·rcases List.mem_append.1 he with h1|h1
  ·exact Nat.lt_succ_of_lt (h.1 e h1)
  ·rw[dZ.1 h1];exact Nat.lt_succ_self _
 ·rw[List.map_append,List.nodup_append];refine⟨h.2,by simp,λa ha b hb=>?_⟩;obtain⟨e,he,rfl⟩:=dC.1 ha;simp only[gu,List.map_nil,dZ]at hb;subst hb;exact Nat.ne_of_lt (h.1 e he)
def abB{α β:Type}{g:α->β}{f:α->α}(hf:∀x,g (f x)=g x):∀(l:List α) (j:Nat),(l.modify j f).map g=l.map g
 |[],_=>by simp
 |a::l,0=>by simp[hf]
 |a::l,j+1=>by simp[abB hf l j]
def uB.modify{es:List gI}{clock j:Nat}{f:gI->gI}(hf:∀e,(f e).born=e.born)(h:uB es clock):uB (es.modify j f) clock:=by have hm:=abB (g:=λe:gI=>e.born) hf es j;refine⟨λe he=>?_,by rw[hm];exact h.2⟩;have:e.born∈(es.modify j f).map (λe=>e.born):=dC.2 ⟨e,he,rfl⟩;rw[hm]at this;obtain⟨e',h1,h2⟩:=dC.1 this;rw[<-h2];exact h.1 e' h1
def aqS{us vs:List ah}(hl:us.length=vs.length)(h:gm us=gm vs):us=vs:=by
 match us,vs,hl with
 |[],[],_=>rfl
 |[u],[v],_=>simpa[gm]using h
 |u::u'::us,v::v'::vs,_=>simpa[gm]using h
def VH(hR:cE T){n:Nat}{S:Nat->Prop}:∀{aJ:List (List ah)} {xs:List (D n)},cn (ad.rd S w) aJ xs->cm S w aJ.flatten (xs.flatMap (T.out n))
 |[],[],_=>trivial
 |c::aJ,x::xs,h=>by rw[List.flatten_cons,List.flatMap_cons];exact cm.append ((hR.rd _ _ _ _ _).1 h.1) (VH hR h.2)
 |[],_::_,h=>h.elim
 |_::_,[],h=>h.elim
def ab2(hR:cE T){k:AV D}{v:ah}{ks:List (DV D)}{g:Bool}(h:Mi T k=aa (ks,g))(hv:gF U γ w k v):∃vs,cm (λ_=>True) w vs ks∧(g=ab∧v= .agg vs.toArray∨g=ai∧vs=[v]):=by
 unfold Mi at h;split at h
 ·cases h;obtain⟨⟨aJ,h1,h2⟩,_⟩:=hv;exact⟨aJ.flatten,(VH hR h2).weaken λ_ _=>trivial,.inl ⟨rfl,h1⟩⟩
 ·cases h;exact⟨[v],⟨hv.1.weaken λ_ _=>trivial,trivial⟩,.inr ⟨rfl,rfl⟩⟩
 ·split at h
  case h_2=>cases h
  rename_i x hx;cases h;obtain⟨us,rfl,h2⟩:=hv;exact⟨us,NE hx h2,.inl ⟨rfl,rfl⟩⟩
 ·cases h
def ab1{n:Nat}{ks:List (DV D)}{g:Bool}(h:Mh T n ks g=ab){vs:List ah}{v:ah}(hl:cm (λ_=>True) w vs ks)(hv:g=ab∧v= .agg vs.toArray∨g=ai∧vs=[v]):ks.map DV.l=(T.lv n).dropLast∧v=gm vs:=by
 unfold Mh at h;simp only[bq,akA]at h;obtain⟨h1,h2⟩:=h;refine⟨h1,?_⟩;rcases hv with⟨rfl,rfl⟩|⟨rfl,rfl⟩
 ·have hlen:=hl.length;match ks,vs,hlen,h2 with
  |[],[],_,_=>rfl
  |[_],[_],_,h2=>cases h2
  |_::_::_,_::_::_,_,_=>rfl
 ·rfl
def ab3{S S':Nat->Prop}{w':ax}:∀{us vs:List ah} {xs ks:List (DV D)} {u:ah},cm S w (us++[u]) xs->cm S' w' vs ks->ks.map DV.l=(xs.map DV.l).dropLast->(xs.map DV.l).all jG=ab->(jS xs ks=ab↔us=vs)
 |[],[],[x],[],u,h,_,_,_=>by simp[jS]
 |us,vs,[],ks,u,h,_,_,_=>by have:=h.length;simp at this
 |us,vs,[x],y::ks,u,h,_,hk,_=>by simp at hk
 |us,v::vs,[x],[],u,h,h',_,_=>h'.elim
 |us,vs,x::x'::xs,[],u,h,h',hk,_=>by simp at hk
 |[],vs,x::x'::xs,y::ks,u,h,h',hk,hf=>by have:=h.length;simp at this
 |a::us,[],x::x'::xs,y::ks,u,h,h',hk,hf=>h'.elim
 |a::us,v::vs,x::x'::xs,y::ks,u,h,h',hk,hf=>by
  simp only[gu,List.dropLast_cons_cons,List.cons.injEq]at hk;simp only[gu,List.all_cons,bq]at hf;have e1:=aeO (u:=a) (v:=v) h.1 h'.1 hk.1.symm hf.1;have ih:=ab3 (us:=us) (vs:=vs) (xs:=x'::xs) (ks:=ks) h.2 h'.2 (by simpa using hk.2) (by simp[hf.2.1,hf.2.2]);cases ks with
  |nil=>
   have Hc:vs=[]:=by
    cases vs with
    |nil=>rfl
    |cons _ _=>exact h'.2.elim
   have pu:xs=[]:=by
    have:=hk.2;cases xs with
    |nil=>rfl
    |cons _ _=>simp at this
   subst Hc pu;have Mv:us=[]:=by have:=h.2.length;simp at this;exact this
   subst Mv;simp only[jS,e1];simp
  |cons y' ks=>simp only[jS,OZ,bq,e1];simp only[jS]at ih;rw[ih];simp
 |a::us,[],[x],[],u,h,_,_,_=>by have:=h.length;simp at this
section
variable {α:Type} {R:gI->α->Prop} {K:ah} {f:α->Bool}
def jL.append:∀{es sS:List gI} {xs wm:List α},jL R es xs->jL R sS wm->jL R (es++sS) (xs++wm)
 |[],_,[],_,_,h'=>h'
 |_::_,_,_::_,_,h,h'=>⟨h.1,jL.append h.2 h'⟩
 |[],_,_::_,_,h,_=>h.elim
 |_::_,_,[],_,h,_=>h.elim
def jL.key:∀{es:List gI} {xs:List α},jL R es xs->∀e∈es,∃x,R e x
 |e::es,x::xs,h,e',he=>by
  rcases cr.1 he with rfl|he
  ·exact⟨x,h.1⟩
  ·exact jL.key h.2 e' he
 |[],[],_,e,he=>by cases he
 |[],_::_,h,_,_=>h.elim
 |_::_,[],h,_,_=>h.elim
def Vj(hf:∀e x,R e x->(f x=ab↔e.key=K)):∀{es:List gI} {xs:List α},jL R es xs->(∀e∈es,e.key≠K)->xs.find? f=none∧xs.any f=ai
 |[],[],_,_=>⟨rfl,rfl⟩
 |e::es,x::xs,h,hn=>by
  obtain⟨i1,i2⟩:=Vj hf h.2 λe he=>hn e (eV _ he);have h1:f x=ai:=by
   cases hx:f x with
   |false=>rfl
   |true=>exact(hn e (by simp) ((hf e x h.1).1 hx)).elim
  simp[h1,i1,i2]
 |[],_::_,h,_=>h.elim
 |_::_,[],h,_=>h.elim
def Vk(hf:∀e x,R e x->(f x=ab↔e.key=K)):∀{es:List gI} {xs:List α},jL R es xs->es.Pairwise (λa b=>a.key≠b.key)->∀{j:Nat} {e0:gI},es[j]? =aa e0->e0.key=K->∃x,xs.find? f=aa x∧R e0 x∧xs.any f=ab
 |[],[],_,_,j,e0,hj,_=>by simp at hj
 |e::es,x::xs,h,hp,0,e0,hj,hk=>by cases hj;have h1:=(hf e x h.1).2 hk;exact⟨x,by simp[h1],h.1,by simp[h1]⟩
 |e::es,x::xs,h,hp,j+1,e0,hj,hk=>by
  obtain⟨p1,p2⟩:=qV.1 hp;have nK:es[j]? =aa e0:=by simpa using hj
  obtain⟨y,i1,i2,i3⟩:=Vk hf h.2 p2 nK hk;have h1:f x=ai:=by
   cases hx:f x with
   |false=>rfl
   |true=>exact(p1 e0 (oT nK) (((hf e x h.1).1 hx).trans hk.symm)).elim
  exact⟨y,by simp[h1,i1],i2,by simp[i3]⟩
 |[],_::_,h,_,_,_,_,_=>h.elim
 |_::_,[],h,_,_,_,_,_=>h.elim
def abA(hf:∀e x,R e x->(f x=ab↔e.key=K)){z:α}:∀{es:List gI} {xs:List α},jL R es xs->(∀e∈es,e.key≠K)->(xs.map λx=>if f x=ab then z else x)=xs
 |[],[],_,_=>rfl
 |e::es,x::xs,h,hn=>by
  have i1:=abA hf (z:=z) h.2 λe he=>hn e (eV _ he);have h1:f x=ai:=by
   cases hx:f x with
   |false=>rfl
   |true=>exact(hn e (by simp) ((hf e x h.1).1 hx)).elim
  rw[gu,i1,h1];rfl
 |[],_::_,h,_=>h.elim
 |_::_,[],h,_=>h.elim
def aeJ(hf:∀e x,R e x->(f x=ab↔e.key=K)){z:α}{g:gI->gI}:∀{es:List gI} {xs:List α},jL R es xs->es.Pairwise (λa b=>a.key≠b.key)->∀{j:Nat} {e0:gI},es[j]? =aa e0->e0.key=K->R (g e0) z->(g e0).key=e0.key->
  jL R (es.modify j g) (xs.map λx=>if f x=ab then z else x)∧(es.modify j g).map (·.key)=es.map (·.key)
 |[],[],_,_,j,e0,hj,_,_,_=>by simp at hj
 |e::es,x::xs,h,hp,0,e0,hj,hk,hz,hg=>by
  cases hj;obtain⟨p1,p2⟩:=qV.1 hp;have h1:=(hf e x h.1).2 hk;have h2:=abA hf (z:=z) h.2 λe' mZ=>by rw[<-hk];exact(p1 e' mZ).symm
  rw[gu,h2,aG h1];exact⟨⟨hz,h.2⟩,by simp[hg]⟩
 |e::es,x::xs,h,hp,j+1,e0,hj,hk,hz,hg=>by
  obtain⟨p1,p2⟩:=qV.1 hp;have nK:es[j]? =aa e0:=by simpa using hj
  obtain⟨i1,i2⟩:=aeJ hf (z:=z) h.2 p2 nK hk hz hg;have h1:f x=ai:=by
   cases hx:f x with
   |false=>rfl
   |true=>exact(p1 e0 (oT nK) (((hf e x h.1).1 hx).trans hk.symm)).elim
  rw[gu,h1];exact⟨⟨h.1,i1⟩,by simp[i2]⟩
 |[],_::_,h,_,_,_,_,_,_,_=>h.elim
 |_::_,[],h,_,_,_,_,_,_,_=>h.elim
end
def C9(T:bb D)(n:Nat)(x:D n):(T.out n x).map DV.l=T.lv n:=Db _ _
def abZ{S:Nat->Prop}{lf:Lf}:∀{us:List ah} {xs:List (DV D)} {u:ah},cm S w (us++[u]) xs->yg (xs.map DV.l)=aa lf->dA S w u ⟨lf,yf lf xs⟩
 |us,[],u,h,_=>by have:=h.length;simp at this
 |[],[x],u,h,hl=>by obtain⟨l,x⟩:=x;simp only[gu,List.map_nil,yg,fC]at hl;subst hl;simp only[yf,dif_pos];exact h.1
 |a::us,[x],u,h,_=>by have:=h.length;simp at this
 |[],x::y::xs,u,h,_=>by have:=h.length;simp at this
 |a::us,x::y::xs,u,h,hl=>by have h2:cm S w (us++[u]) (y::xs):=h.2;have:=abZ (us:=us) (xs:=y::xs) h2 (by simpa[yg]using hl);simpa[yf]using this
def akJ{S:Nat->Prop}{lf:Lf}(hf:jG lf=ab):dA (D:=D) S w (pack ai (v_ [lf])) ⟨lf,zk lf⟩:=by
 cases lf with
 |sl n=>cases hf
 |_=>rfl
def ab0:∀{ls:List Lf} {lf:Lf},yg ls=aa lf->lf∈ls
 |[],lf,h=>by cases h
 |[l],lf,h=>by cases h;simp
 |l::m::r,lf,h=>by have:=ab0 (ls:=m::r) (by simpa[yg]using h);exact eV _ this
def abq(hR:cE T){t kt vt n:Nat}(hM:PG P T t kt vt n){o:cA}{i:Nat}{v:ah}{xs:List (D n)}(h:rR o i w v xs){ks:List (DV D)}{vs:List ah}(hl:cm (λ_=>True) w vs ks)(hk:ks.map DV.l=(T.lv n).dropLast):
  iO (T.lv n).dropLast vs∧∃r es clock,v= .map (aa r)∧o r=i∧w.heap[r]? =aa (.map es clock)∧es.toList.Pairwise (λa b=>a.key≠b.key)∧
   jL (λe x=>∃us:List ah,e.key=gm us∧ad.rd (λ_=>False) w (us++[e.val]) x) es.toList xs∧
   (∀(e:gI) (x:D n),(∃us:List ah,e.key=gm us∧ad.rd (λ_=>False) w (us++[e.val]) x)->(jS (T.out n x) ks=ab↔e.key=gm vs))∧
   ((Instr.findKey kt (gm vs) es.toList).run P w= .ok none w∧(∀e∈es.toList,e.key≠gm vs)∨∃j e,(Instr.findKey kt (gm vs) es.toList).run P w= .ok (aa (j,e.val)) w∧es.toList[j]? =aa e∧e.key=gm vs)∧uB es.toList clock:=by
 have eH:((T.lv n).dropLast).all jG=ab:=by rw[dR];intro l hl;exact dR.1 hM.flat l (by rw[List.dropLast_eq_take]at hl;exact List.mem_of_mem_take hl)
 have qo:iO (T.lv n).dropLast vs:=by rw[<-hk];exact Jf hl (by rw[hk];exact eH)
 refine⟨qo,?_⟩
 obtain⟨r,es,clock,h1,h2,h3,h4,h5,hbn⟩:=h
 have hR':∀(e:gI) (x:D n),(∃us:List ah,e.key=gm us∧ad.rd (λ_=>False) w (us++[e.val]) x)->(jS (T.out n x) ks=ab↔e.key=gm vs)∧∃us,iO (T.lv n).dropLast us∧e.key=gm us:=by
  rintro e x ⟨us,k1,k2⟩;rw[hR.rd]at k2;have e1:=ab3 (us:=us) (vs:=vs) (ks:=ks) k2 hl (by rw[C9,hk]) (by rw[C9];exact hM.flat);have e2:us.length=vs.length:=by have a1:=k2.length;have a2:=hl.length;have a3:=ik List.length hk;have a4:=ik List.length (C9 T n x);simp at a1 a3 a4;omega
  refine⟨e1.trans ⟨λh=>by rw[k1,h],λh=>aqS e2 (k1.symm.trans h)⟩,us,?_,k1⟩;have a5:cm (λ_=>False) w us (T.out n x).dropLast:=by
   have:=k2.take us.length;rw[List.take_left]at this;have a1:=k2.length;have e3:(T.out n x).take us.length=(T.out n x).dropLast:=by rw[List.dropLast_eq_take];congr 1;simp at a1;omega
   rwa[e3]at this
  have a6:(T.out n x).dropLast.map DV.l=(T.lv n).dropLast:=by rw[<-C9 T n x,List.map_dropLast]
  have:=Jf a5 (by rw[a6];exact eH);rwa[a6]at this
 refine⟨r,es,clock,h1,h2,h3,h4,h5,λe x he=>(hR' e x he).1,?_,hbn⟩
 exact hM.key.find w vs qo es.toList λe he=>by obtain⟨x,hx⟩:=h5.key e he;exact(hR' e x hx).2
def aqU [Rd](hP:dQ P T)(hR:cE T)(hx:Cx U aq γ w sl L ob){t:aX}{kt vt n:Nat}{m x:Operand}{ok:Bool}{a k:AV D}(ht:aE T.qc t=aa (kt,vt,n))(ha:eQ sl m=aa a)(hb:eQ sl x=aa k)(h:Q.R ob (Sy T n (aq+16) ok a k) l e):
  OW P Qx L ⟨d,.lookup t m x ok,ty,pos,af,gd⟩ w (λv w'=>∃γ',dP U aq γ w ob e γ' v w'):=by
 have hM:=hP.qc t kt vt n ht
 obtain⟨va,h1,h2⟩:=cz hx.sr ha
 obtain⟨vk,h3,h4⟩:=cz hx.sr hb
 unfold Sy at h
 split at h
 case h_2=>cases h
 rename_i i ks kg jD
 obtain⟨ao,l',ho,rfl,h⟩:=h
 cases ao with
 |box=>exact h.elim
 |sl=>exact h.elim
 |cX=>exact h.elim
 |im=>exact h.elim
 |fz=>exact h.elim
 |mp n' xs=>
  dsimp only at h
  split at h
  case isFalse=>exact h.elim
  rename_i hc
  simp only[bq]at hc
  have hn:=bA hc.1
  subst hn
  split at h
  case h_2=>exact h.elim
  rename_i lf AW
  obtain⟨vs,k1,k2⟩:=ab2 hR jD h4
  obtain⟨k3,rfl⟩:=ab1 hc.2 k1 k2
  obtain⟨_,_,Hp⟩:=hx.ob.ob i _ ho
  obtain⟨qo,r,es,clock,m1,m2,m3,m4,m5,m6,m7,m8⟩:=abq hR hM Hp k1 k3
  obtain⟨_,rfl,_⟩:=h2
  rw[m1]at h1
  obtain⟨vl,v1,v2⟩:=hM.val
  rw[AW]at v1
  cases v1
  have auq:jG lf=ab:=dR.1 hM.flat lf (ab0 AW)
  have jE:∀ok,∃u,(Instr.lookup t (.map (aa r)) (gm vs) ok).run P w= .ok (cond ok (.tuple #[u,.bool (Df (λx=>jS (T.out n x) ks) xs)]) u) w∧dA (In γ.o []) w u ⟨lf,yb (λx=>jS (T.out n x) ks) (λx=>yf lf (T.out n x)) (zk lf) xs⟩:=by
   intro ok;unfold yb Df;rcases m7 with⟨f1,f2⟩|⟨j,e0,f1,f2,f3⟩
   ·have ua:=Vj (f:=λx=>jS (T.out n x) ks) m6 m5 f2;refine⟨pack ai (v_ [lf]),?_,?_⟩
    ·cases ok<;>simp[Instr.lookup,run_underlying hM.uS,MapKept.run_getObj_map m3,hM.key.check _ _ _ qo,f1,v2.zero,Result.andThen,ua.2]
    ·rw[ua.1];exact akJ auq
   ·obtain⟨y,g1,⟨us,g2,g3⟩,g4⟩:=Vk (f:=λx=>jS (T.out n x) ks) m6 m5 m4 f2 f3;refine⟨e0.val,?_,?_⟩
    ·cases ok<;>simp[Instr.lookup,run_underlying hM.uS,MapKept.run_getObj_map m3,hM.key.check _ _ _ qo,f1,Result.andThen,g4]
    ·rw[g1];rw[hR.rd]at g3;exact(abZ g3 (by rw[C9];exact AW)).weaken λ_ h=>h.elim
  obtain⟨u,u1,u2⟩:=jE ok
  cases ok with
  |false=>
   obtain⟨_,rfl⟩:=h
   refine dj (v:=u) (OW.run λc hc=>⟨_,w,?_,rfl,rfl⟩) (ei hx u2)
   simp[execOp,hc _ _ h1,hc _ _ h3,u1]
  |true=>
   obtain⟨_,rfl⟩:=h
   refine dj (v:= .tuple #[u,.bool (Df (λx=>jS (T.out n x) ks) xs)]) (OW.run λc hc=>⟨_,w,?_,rfl,rfl⟩) (zZ hx [⟨lf,yb (λx=>jS (T.out n x) ks) (λx=>yf lf (T.out n x)) (zk lf) xs⟩,⟨.bool,Df (λx=>jS (T.out n x) ks) xs⟩] (by simp) ⟨[u,.bool (Df (λx=>jS (T.out n x) ks) xs)],rfl,⟨u2,mr (γ:=γ) (i:=0) rfl (by omega) rfl,lj⟩,⟨rfl,mr (γ:=γ) (i:=1) rfl (by omega) rfl,lj⟩,trivial⟩)
   simp[execOp,hc _ _ h1,hc _ _ h3,u1]
def abp [Rd](hP:dQ P T)(hR:cE T)(hx:Cx U aq γ w sl L ob){t:aX}{kt vt n:Nat}{m x u:Operand}{op:Op}(TT:op= .mapUpdate t m x u∨op= .insert t m x u){a k b:AV D}(ht:aE T.qc t=aa (kt,vt,n))(ha:eQ sl m=aa a)(hb:eQ sl x=aa k)(hu:eQ sl u=aa b)(h:Q.R ob (LQ T n a k b) l e):
  OW P Qx L ⟨d,op,ty,pos,af,gd⟩ w (λv w'=>∃γ',dP U aq γ w ob e γ' v w'):=by
 have hM:=hP.qc t kt vt n ht
 obtain⟨va,h1,h2⟩:=cz hx.sr ha
 obtain⟨vk,h3,h4⟩:=cz hx.sr hb
 obtain⟨vu,h5,h6⟩:=cz hx.sr hu
 unfold LQ at h
 split at h
 case h_2=>cases h
 rename_i i ks kg lf dd K g jD
 obtain⟨ao,l',ho,rfl,h⟩:=h
 cases ao with
 |box=>exact h.elim
 |sl=>exact h.elim
 |cX=>exact h.elim
 |im=>exact h.elim
 |fz=>exact h.elim
 |mp n' xs=>
  dsimp only at h
  split at h
  case isFalse=>exact h.elim
  rename_i hc
  simp only[bq]at hc
  have hn:=bA hc.1
  subst hn
  split at h
  case h_2=>exact h.elim
  rename_i z hz
  obtain⟨_,rfl⟩:=h
  obtain⟨vs,k1,k2⟩:=ab2 hR jD h4
  obtain⟨k3,rfl⟩:=ab1 hc.2 k1 k2
  obtain⟨fy,Ud,Hp⟩:=hx.ob.ob i _ ho
  obtain⟨qo,r,es,clock,m1,m2,m3,m4,m5,m6,m7,m8⟩:=abq hR hM Hp k1 k3
  obtain⟨_,rfl,_⟩:=h2
  rw[m1]at h1
  have MH:=hR.iU hz
  have eH:(T.out n z).map DV.l=T.lv n:=C9 T n z
  have hzr:ad.rd (λ_=>False) w (vs++[vu]) z:=by
   rw[hR.rd,MH];have gD:(ks++[⟨lf,dd⟩]:List (DV D)).map DV.l=T.lv n:=by rw[<-MH];exact eH
   have key:∀{vs:List ah} {ks:List (DV D)},cm (λ_=>True) w vs ks->(ks.map DV.l).all jG=ab->cm (λ_=>False) w vs ks:=by
    intro vs;induction vs with
    |nil=>intro ks h _;cases ks with|nil=>trivial|cons _ _=>exact h.elim
    |cons v vs ih=>
     intro ks h hf;cases ks with
     |nil=>exact h.elim
     |cons y ks=>
      simp only[gu,List.all_cons,bq]at hf;refine⟨?_,ih h.2 hf.2⟩;obtain⟨l,y⟩:=y;cases l with
      |sl n=>cases hf.1
      |_=>exact h.1
   exact key (cm.append k1 ⟨h6.1.weaken λ_ _=>trivial,trivial⟩) (by rw[gD];exact hM.flat)
  have lY:r<w.heap.size:=(Array.getElem?_eq_some_iff.1 m3).1
  have jE:∃sS Bv,(Instr.mapUpdate t (.map (aa r)) (gm vs) vu).run P w= .ok () {w with heap:=w.heap.setIfInBounds r (.map sS Bv)}∧sS.toList.Pairwise (λa b=>a.key≠b.key)∧
    jL (λe x=>∃us:List ah,e.key=gm us∧ad.rd (λ_=>False) w (us++[e.val]) x) sS.toList (Ac (λx=>jS (T.out n x) ks) z xs)∧uB sS.toList Bv:=by
   rcases m7 with⟨f1,f2⟩|⟨j,e0,f1,f2,f3⟩
   ·have ua:=Vj (f:=λx=>jS (T.out n x) ks) m6 m5 f2;refine⟨es.push ⟨gm vs,vu,clock⟩,clock+1,?_,?_,?_,?_⟩
    ·simp[Instr.mapUpdate,run_underlying hM.uS,MapKept.run_getObj_map m3,hM.key.check _ _ _ qo,f1,MapKept.run_setObj_map _ m3,Result.andThen]
    ·rw[Array.toList_push,List.pairwise_append];refine⟨m4,by simp,λe he e' mZ=>?_⟩;simp only[dZ]at mZ;subst mZ;exact f2 e he
    ·unfold Ac;rw[aK (by simp[ua.2]),Array.toList_push];exact m5.append ⟨⟨vs,rfl,hzr⟩,trivial⟩
    ·rw[Array.toList_push];exact uB.push m8
   ·obtain⟨y,g1,_,g3⟩:=Vk (f:=λx=>jS (T.out n x) ks) m6 m5 m4 f2 f3;have hj:es[j]? =aa e0:=by simpa using f2
    obtain⟨s1,s2⟩:=aeJ (f:=λx=>jS (T.out n x) ks) (z:=z) (g:=λe=>{e with key:=gm vs,val:=vu}) m6 m5 m4 f2 f3 ⟨vs,rfl,hzr⟩ f3.symm;refine⟨es.modify j λe=>{e with key:=gm vs,val:=vu},clock,?_,?_,?_,?_⟩
    ·simp[Instr.mapUpdate,run_underlying hM.uS,MapKept.run_getObj_map m3,hM.key.check _ _ _ qo,f1,hj,f3,hM.key.stays _ _ qo,MapKept.run_setObj_map _ m3,Result.andThen]
    ·rw[Array.toList_modify];have p1:=List.pairwise_map.2 m4;rw[<-s2]at p1;exact List.pairwise_map.1 p1
    ·unfold Ac;rw[aG g3,Array.toList_modify];exact s1
    ·rw[Array.toList_modify];exact uB.modify (λ_=>rfl) m8
  obtain⟨sS,Bv,u1,u2,u3,u4⟩:=jE
  obtain⟨TG,TF⟩:=MapKept.heap_set (w:=w) (r:=r) (o':= .map sS Bv) m3
  have b6:bO [i] [] γ.o w γ.o {w with heap:=w.heap.setIfInBounds r (.map sS Bv)}:=by
   refine⟨rfl,rfl,rfl,by simp,λ_ _=>rfl,λb h1 h2=>?_,λb hb hm=>?_⟩
   ·simp at h2;omega
   ·refine TF b λe=>hm ?_;subst e;simp[m2]
  refine OW.KS λc hc=>⟨{w with heap:=w.heap.setIfInBounds r (.map sS Bv)},?_,?_⟩
  rotate_left
  ·refine⟨_,mkPost (M:=[i]) (N:=[]) (ps:=[]) (g':=γ.g) (v':=γ.v) hx.ob b6 (by simp[fy,Ud,cW.wr]) (by simp) (by simp) hx.cI (λ_ _=>rfl) (λ_ _=>rfl) rfl ?_⟩;intro q z' hq kl;obtain⟨rfl,oA⟩:=nC hq;cases oA;exact⟨fy,.inl Ud,r,sS,Bv,m1,m2,TG,u2,u3.mono λe x ⟨us,a1,a2⟩=>⟨us,a1,ad.mono (λb hb _=>hb.elim) a2⟩,u4⟩
  ·rcases TT with rfl|rfl<;>simp[execOp,hc _ _ h1,hc _ _ h3,hc _ _ h5,u1]
end
section
variable {P:cP}
def iO.len:∀{ls:List Lf} {us:List ah},iO ls us->us.length=ls.length
 |[],[],_=>rfl
 |_::_,_::_,h=>by simp[iO.len h.2]
 |[],_::_,h=>h.elim
 |_::_,[],h=>h.elim
def iO.split:∀{l1 l2:List Lf} {us:List ah},iO (l1++l2) us->iO l1 (us.take l1.length)∧iO l2 (us.drop l1.length)
 |[],l2,us,h=>⟨by simp[iO],by simpa using h⟩
 |l::l1,l2,u::us,h=>by obtain⟨h1,h2⟩:=iO.split (l1:=l1) h.2;exact⟨by rw[jO,List.take_succ_cons];exact⟨h.1,h1⟩,by rw[jO,List.drop_succ_cons];exact h2⟩
 |_::_,_,[],h=>h.elim
def lI.int{t:aX}{k:IntKind}(h:P.underlying t=aa (.int k)):lI P t ai [.int k] 1:=by
 intro d w us vs h1 h2;match us,vs,h1,h2 with
 |[u],[v],h1,h2=>obtain⟨⟨a,rfl⟩,_⟩:=h1;obtain⟨⟨b,rfl⟩,_⟩:=h2;have:=run_equalIn_int (P:=P) w d t k k a b h;exact⟨a==b,by simpa[pack]using this,by simp⟩
 |[],_,h1,_=>exact h1.elim
 |_::_::_,_,h1,_=>exact h1.2.elim
 |[_],[],_,h2=>exact h2.elim
 |[_],_::_::_,_,h2=>exact h2.2.elim
def lI.up{t:aX}{g:Bool}{ls:List Lf}{k k':Nat}(h:lI P t g ls k)(hk:k<=k'):lI P t g ls k':=λd w us vs h1 h2=>by have:=h (d+(k'-k)) w us vs h1 h2;rwa[show d+(k'-k)+k=d+k' by omega]at this
def R7{t:aX}{g:Bool}{z us:List ah}{off:Nat}(hT:bp P t g z)(hz:g=ai->z.length=1)(h:off+z.length<=us.length)(w:ax):(part t us.toArray off).run P w= .ok (pack g ((us.drop off).take z.length)) w:=by
 unfold part;rw[Sem.run_bind,hT.isAgg];simp only[Result.andThen_ok];cases g with
 |true=>simp only[aH,Sem.run_bind,hT.sizeOf,Result.andThen_ok,Sem.run_pure,pack];congr 2;apply Array.toList_inj.1;simp[List.take_drop]
 |false=>
  have h1:=hz rfl;rw[h1]at h⊢;have aU:off<us.length:=by omega
  simp only[aD,aC];have:us.toArray[off]? =aa us[off]:=by simp[aU]
  rw[this];simp only[Sem.run_pure,pack,aD,aC];rw[List.drop_eq_getElem_cons aU];rfl
def XZ(P:cP)(k:Nat):Nat->List Field->List Lf->Prop
 |off,[],ls=>ls=[]
 |off,f::fs,ls=>f.name≠ "_" ∧f.offset=off∧∃g l1 l2 z,ls=l1++l2∧bp P f.type g z∧z.length=l1.length∧(g=ai->l1.length=1)∧lI P f.type g l1 k∧XZ P k (off+l1.length) fs l2
def aeH{k d:Nat}{xs ys:List ah}{w:ax}:∀{fs:List Field} {off:Nat} {ls:List Lf},XZ P k off fs ls->iO ls (xs.drop off)->iO ls (ys.drop off)->off<=xs.length->off<=ys.length->∃r:Bool,(Op.eqFields (d+k) xs.toArray ys.toArray fs).run P w= .ok r w∧(r=ab↔xs.drop off=ys.drop off)
 |[],off,ls,h,hx,hy,_,_=>by
  have h:ls=[]:=h;subst h;have e1:xs.drop off=[]:=by
   generalize xs.drop off=a at hx;cases a with
   |nil=>rfl
   |cons _ _=>exact hx.elim
  have e2:ys.drop off=[]:=by
   generalize ys.drop off=a at hy;cases a with
   |nil=>rfl
   |cons _ _=>exact hy.elim
  rw[e1,e2];exact⟨ab,by simp[Op.eqFields],by simp⟩
 |f::fs,off,ls,h,hx,hy,hox,MG=>by
  obtain⟨h1,rfl,g,l1,l2,z,rfl,h2,h3,h4,h5,h6⟩:=h;have lx:=hx.len;have ly:=hy.len;simp at lx ly;obtain⟨x1,x2⟩:=hx.split;obtain⟨y1,y2⟩:=hy.split;rw[qY]at x2 y2;have hz:g=ai->z.length=1:=λhg=>by rw[h3];exact h4 hg
  have hle:f.offset+l1.length<=xs.length:=by omega
  ·have p1:=R7 (us:=xs) (off:=f.offset) h2 hz (by omega) w;have p2:=R7 (us:=ys) (off:=f.offset) h2 hz (by omega) w;rw[h3]at p1 p2;obtain⟨r3,p3,q3⟩:=h5 d w _ _ x1 y1;obtain⟨ri,ih,qi⟩:=aeH (d:=d) (w:=w) h6 x2 y2 (by omega) (by omega);simp only[Op.eqFields,ne_eq,h1,not_false_eq_true,aH,Sem.run_bind,p1,p2,p3,Result.andThen_ok];have ex:xs.drop f.offset=(xs.drop f.offset).take l1.length++xs.drop (f.offset+l1.length):=by rw[<-qY,pO]
   have ey:ys.drop f.offset=(ys.drop f.offset).take l1.length++ys.drop (f.offset+l1.length):=by rw[<-qY,pO]
   cases r3 with
   |true=>have he:=q3.1 rfl;refine⟨ri,by simpa using ih,qi.trans ⟨λe=>by rw[ex,ey,he,e],λe=>by rw[<-qY,<-qY,e]⟩⟩
   |false=>refine⟨ai,by simp,by simp;intro e;have:=q3.2 (by rw[e]);cases this⟩
def lI.struct{t:aX}{fs:Array Field}{ls:List Lf}{k:Nat}(h:P.underlying t=aa (.struct fs))(hp:P.stoodInHeld t=ai)(hF:XZ P k 0 fs.toList ls):lI P t ab ls (k+1):=by
 intro d w us vs h1 h2;have hfo:P.fieldsOf t=fs:=by simp[cP.fieldsOf,h]
 have e1:=run_equalIn_struct (P:=P) w (d+k) t us.toArray vs.toArray (by rw[hfo];exact h) hp;obtain⟨r,e2,e3⟩:=aeH (P:=P) (d:=d) (w:=w) hF (xs:=us) (ys:=vs) (by simpa using h1) (by simpa using h2) (by simp) (by simp);rw[hfo,e2]at e1;exact⟨r,e1,by simpa using e3⟩
def iO.ints{k:IntKind}:∀{m:Nat} {us:List ah},iO (cR m (.int k)) us->∃xs:List Int,us=xs.map (ah.int k)∧xs.length=m
 |0,[],_=>⟨[],rfl,rfl⟩
 |0,_::_,h=>h.elim
 |m+1,[],h=>h.elim
 |m+1,u::us,h=>by obtain⟨⟨a,rfl⟩,h2⟩:=(h:(∃a,u= .int k a)∧iO (cR m (.int k)) us);obtain⟨xs,rfl,h3⟩:=iO.ints h2;exact⟨a::xs,rfl,by simp[h3]⟩
def abv{us:List ah}(h:us.length≠1):gm us= .agg us.toArray:=by
 match us,h with
 |[],_=>rfl
 |[_],h=>exact(h rfl).elim
 |_::_::_,_=>rfl
def BU.agg{kt:aX}{m:Nat}{k:IntKind}{d:TypeDesc}(hd:P.underlying kt=aa d)(atE:∀a b,Instr.sameNow d (.agg a) b=none)(hm:m≠1)(hE:lI P kt ab (cR m (.int k)) 2)
  (UB:∀(w:ax) (em:Bool) (xs:List Int),xs.length=m->(Instr.checkKey em 10000 kt (.agg (xs.map (ah.int k)).toArray)).run P w= .ok () w):BU P kt (cR m (.int k)):=by
 have hk:∀{us:List ah},iO (cR m (.int k)) us->gm us= .agg us.toArray:=λ{us} hu=>abv (by rw[hu.len,List.length_replicate];exact hm)
 refine⟨λw em ks hc=>?_,λw ks hc es sI=>?_,λw ks hc=>?_⟩
 ·rw[hk hc];obtain⟨xs,rfl,G_⟩:=hc.ints;exact UB w em xs G_
 ·rw[hk hc];have adL:∀e'∈es,∃us,iO (cR m (.int k)) us∧e'.key= .agg us.toArray:=λe' mZ=>by obtain⟨us,h1,h2⟩:=sI e' mZ;exact⟨us,h1,by rw[h2,hk h1]⟩
  have iX:∀e'∈es,∃r:Bool,(Op.equal kt (.agg ks.toArray) e'.key).run P w= .ok r w∧(r=ab↔e'.key= .agg ks.toArray):=λe' mZ=>by obtain⟨us,h1,h2⟩:=adL e' mZ;obtain⟨r,e1,e2⟩:=hE 9998 w ks us hc h1;rw[h2];simp only[pack,aH]at e1;exact⟨r,e1,e2.trans ⟨λh=>by rw[h],λh=>by simpa using h.symm⟩⟩
  have au4:∀(l:List gI) (i:Nat),(∀e'∈l,e'∈es)->((Instr.findAsking kt (.agg ks.toArray) l i).run P w= .ok none w∧∀e'∈l,e'.key≠.agg ks.toArray)∨∃j e',(Instr.findAsking kt (.agg ks.toArray) l i).run P w= .ok (aa (i+j,e'.val)) w∧l[j]? =aa e'∧e'.key= .agg ks.toArray:=by
   intro l;induction l with
   |nil=>intro i _;exact .inl ⟨rfl,by simp⟩
   |cons e' l ih=>
    intro i hl;obtain⟨r,h1,m_⟩:=iX e' (hl e' (by simp));unfold Instr.findAsking;simp only[Sem.run_bind,h1,Result.andThen_ok];cases r with
    |true=>exact .inr ⟨0,e',by simp,rfl,m_.1 rfl⟩
    |false=>
     have cT:e'.key≠.agg ks.toArray:=λh=>by have:=m_.2 h;cases this
     rcases ih (i+1) (λx hx=>hl x (eV _ hx))with⟨g1,g2⟩|⟨j,e2,g1,g2,g3⟩
     ·refine .inl ⟨by simp[g1],λx hx=>?_⟩;rcases cr.1 hx with rfl|hx
      ·exact cT
      ·exact g2 x hx
     ·refine .inr ⟨j+1,e2,?_,by simpa using g2,g3⟩;simp only[aD,aC];rw[g1];congr 3;omega
  have hfk:(Instr.findKey kt (.agg ks.toArray) es).run P w=(Instr.findAsking kt (.agg ks.toArray) es).run P w:=by
   unfold Instr.findKey;simp only[Sem.run_bind,run_underlying hd,Result.andThen_ok];cases es with
   |nil=>rfl
   |cons e' es=>obtain⟨us,_,h2⟩:=adL e' (by simp);simp[Instr.findNow,atE]
  rw[hfk];rcases au4 es 0 (λ_ h=>h)with⟨g1,g2⟩|⟨j,e2,g1,g2,g3⟩
  ·exact .inl ⟨g1,g2⟩
  ·exact .inr ⟨j,e2,by simpa using g1,g2,g3⟩
 ·rw[hk hc];obtain⟨xs,rfl,G_⟩:=hc.ints;have:Instr.sameBits 10000 (.agg (xs.map (ah.int k)).toArray) (.agg (xs.map (ah.int k)).toArray)=ab:=by
   simp only[Instr.sameBits,BEq.rfl,Bool.true_and];rw[dR];rintro⟨x,y⟩ G9;simp only[List.zip_map,dC]at G9;have hz:∀(l:List Int) (p:Int×Int),p∈l.zip l->p.1=p.2:=by
    intro l;induction l with
    |nil=>intro p hp;simp at hp
    |cons a l ih=>
     intro p hp;simp only[List.zip_cons_cons,cr]at hp;rcases hp with rfl|hp
     ·rfl
     ·exact ih p hp
   obtain⟨p,hp,h2⟩:=G9;have h3:=hz xs p hp;cases h2;simp[Instr.sameBits,h3]
  simp[Instr.keyThatStays,this]
def X0(P:cP)(k:IntKind):Nat->List Field->Prop
 |_,[]=>True
 |off,f::fs=>f.name≠ "_" ∧f.offset=off∧P.underlying f.type=aa (.int k)∧(∃z,bp P f.type ai z∧z.length=1)∧X0 P k (off+1) fs
def BU.struct{kt:aX}{fs:Array Field}{m:Nat}{k:IntKind}(h:P.underlying kt=aa (.struct fs))(hl:fs.toList.length=m)(hm:m≠1)(hE:lI P kt ab (cR m (.int k)) 2)(hF:X0 P k 0 fs.toList):BU P kt (cR m (.int k)):=by
 refine BU.agg h (λ_ _=>rfl) hm hE λw em xs G_=>?_;unfold Instr.checkKey;simp only[Sem.run_bind,run_underlying h,Result.andThen_ok];rw[<-Array.forIn_toList];have key:∀(l:List Field) (off:Nat),X0 P k off l->off+l.length=xs.length->(forIn l PUnit.unit (λf (r:PUnit)=>
   if f.name≠ "_" then(do
    let v<-part f.type (xs.map (ah.int k)).toArray f.offset
    Instr.checkKey em 9999 f.type v
    pure (ForInStep.yield PUnit.unit))else pure (ForInStep.yield PUnit.unit)):Sem PUnit).run P w= .ok PUnit.unit w:=by
  intro l
  induction l with
  |nil=>intro off _ _;simp
  |cons f l ih=>
   intro off ⟨h1,h2,h3,⟨z,h4,h5⟩,h6⟩ ho
   subst h2
   simp only[jO]at ho
   have p1:=R7 (us:=xs.map (ah.int k)) (off:=f.offset) h4 (λ_=>h5) (by simp;omega) w
   have aU:f.offset<xs.length:=by omega
   have p2:pack ai (((xs.map (ah.int k)).drop f.offset).take z.length)= .int k xs[f.offset]:=by rw[h5,List.drop_eq_getElem_cons (by simpa using aU)];simp[pack]
   rw[p2]at p1
   have p3:=MapKept.run_checkKey (P:=P) (w:=w) (k:= .int k xs[f.offset]) h3 rfl em 9998
   rw[List.forIn_cons]
   simp only[aG h1,Sem.run_bind,p1,p3,Result.andThen_ok,Sem.run_pure]
   exact ih _ h6 (by omega)
 rw[key fs.toList 0 hF (by omega)];rfl
