import Derived.Test.YtmngjhagbjgmfaaGreatRg
import Derived.MapKept
import Derived.ChangeKeysEq
set_option linter.all false
open Bool renaming and_eq_true->bt,false->ai,false_eq_true->aE,true->ab
open Go renaming MapEntry->gL,Program->cQ,TypeId->aY,Value->ah,World->ay
open List renaming all_eq_true->dU,drop_drop->q9,length_cons->jR,map_cons->gz,mem_cons->cu,mem_cons_of_mem->eY,mem_map->dE,mem_of_getElem?->oW,mem_singleton->eb,pairwise_cons->qY,replicate->cU,take_append_drop->pR
open Nat renaming eq_of_beq_eq_true->bB
open Option renaming some->aa
open Option.some renaming injEq->fE
namespace Go.Proofs.YtmngjhagbjgmfaaGreat
open Go Go.RowKit Dp
namespace Rx
section
variable {D:Nat->Type} [∀n,ad (D n)]
variable {P:cQ} {T:bc D} {Qx:Exit->Act->ay->Prop} {U:Nat->Prop} {ar:Nat} {γ:Gh D} {w:ay} {sl:List (Nat×AV D)} {L:List (Nat×ah)} {ob:List (Nat×Option (AO D))}
 {d:Option Tmp} {ty:aY} {pos:String} {af:Array Edge} {gd:Option (Nat×Bool)} {e:cY D} {l:List Nat}
def aq4 [Rd](hx:Cx U ar γ w sl L ob){t:aY}{n:Nat}:
  OW P Qx L ⟨d,.makeMap t none,ty,pos,af,gd⟩ w (λv w'=>∃γ',dR U ar γ w ob ⟨.c (.one (.own ar)),[(ar,aa (.mp n []))],[]⟩ γ' v w'):=by
 have b7:=bP.alloc γ.o w (.map #[] 0) ar
 refine OW.run λa ha=>⟨.map (aa w.heap.size),w.alloc (.map #[] 0),?_,?_⟩
 ·simp[execOp,Instr.makeMap,newObj];rfl
 ·refine⟨_,mkPost (M:=[]) (N:=[ar]) (ps:=[]) (g':=kV γ.g ar (.map (aa w.heap.size))) (v':=γ.v) hx.ob b7 (by simp) (by simp) (by simp) hx.cJ (λi hi=>ur hx hi) (λ_ _=>rfl) ⟨oO,(oI _ _ _).symm,rfl⟩ ?_⟩;intro j x hj ko;obtain⟨rfl,dZ⟩:=nF hj;cases dZ;exact⟨hx.cJ,oO,w.heap.size, #[],0,oI _ _ _,sR γ.o w ar _ (Nat.le_refl _),heap_alloc_new w _,by simp,trivial,by simp,by simp⟩
def uF.push{es:List gL}{clock:Nat}{k v:ah}(h:uF es clock):uF (es++[⟨k,v,clock⟩]) (clock+1):=by
 refine⟨λe he=>?_,?_⟩
 ·rcases List.mem_append.1 he with h1|h1
  ·exact Nat.lt_succ_of_lt (h.1 e h1)
  ·rw[eb.1 h1];exact Nat.lt_succ_self _
 ·rw[List.map_append,List.nodup_append];refine⟨h.2,by simp,λa ha b hb=>?_⟩;obtain⟨e,he,rfl⟩:=dE.1 ha;simp only[gz,List.map_nil,eb]at hb;subst hb;exact Nat.ne_of_lt (h.1 e he)
def abF{α β:Type}{g:α->β}{f:α->α}(hf:∀x,g (f x)=g x):∀(l:List α) (j:Nat),(l.modify j f).map g=l.map g
 |[],_=>by simp
 |a::l,0=>by simp[hf]
 |a::l,j+1=>by simp[abF hf l j]
def uF.modify{es:List gL}{clock j:Nat}{f:gL->gL}(hf:∀e,(f e).born=e.born)(h:uF es clock):uF (es.modify j f) clock:=by have hm:=abF (g:=λe:gL=>e.born) hf es j;refine⟨λe he=>?_,by rw[hm];exact h.2⟩;have:e.born∈(es.modify j f).map (λe=>e.born):=dE.2 ⟨e,he,rfl⟩;rw[hm]at this;obtain⟨e',h1,h2⟩:=dE.1 this;rw[<-h2];exact h.1 e' h1
def aqW{us vs:List ah}(hl:us.length=vs.length)(h:gr us=gr vs):us=vs:=by
 match us,vs,hl with
 |[],[],_=>rfl
 |[u],[v],_=>simpa[gr]using h
 |u::u'::us,v::v'::vs,_=>simpa[gr]using h
def VL(hR:cF T){n:Nat}{S:Nat->Prop}:∀{aK:List (List ah)} {xs:List (D n)},cp (ad.rd S w) aK xs->cn S w aK.flatten (xs.flatMap (T.out n))
 |[],[],_=>trivial
 |c::aK,x::xs,h=>by rw[List.flatten_cons,List.flatMap_cons];exact cn.append ((hR.rd _ _ _ _ _).1 h.1) (VL hR h.2)
 |[],_::_,h=>h.elim
 |_::_,[],h=>h.elim
def ab6(hR:cF T){k:AV D}{v:ah}{ks:List (DV D)}{g:Bool}(h:Mm T k=aa (ks,g))(hv:gI U γ w k v):∃vs,cn (λ_=>True) w vs ks∧(g=ab∧v= .agg vs.toArray∨g=ai∧vs=[v]):=by
 unfold Mm at h;split at h
 ·cases h;obtain⟨⟨aK,h1,h2⟩,_⟩:=hv;exact⟨aK.flatten,(VL hR h2).weaken λ_ _=>trivial,.inl ⟨rfl,h1⟩⟩
 ·cases h;exact⟨[v],⟨hv.1.weaken λ_ _=>trivial,trivial⟩,.inr ⟨rfl,rfl⟩⟩
 ·split at h
  case h_2=>cases h
  rename_i x hx;cases h;obtain⟨us,rfl,h2⟩:=hv;exact⟨us,NI hx h2,.inl ⟨rfl,rfl⟩⟩
 ·cases h
def ab5{n:Nat}{ks:List (DV D)}{g:Bool}(h:Ml T n ks g=ab){vs:List ah}{v:ah}(hl:cn (λ_=>True) w vs ks)(hv:g=ab∧v= .agg vs.toArray∨g=ai∧vs=[v]):ks.map DV.l=(T.lv n).dropLast∧v=gr vs:=by
 unfold Ml at h;simp only[bt,akE]at h;obtain⟨h1,h2⟩:=h;refine⟨h1,?_⟩;rcases hv with⟨rfl,rfl⟩|⟨rfl,rfl⟩
 ·have hlen:=hl.length;match ks,vs,hlen,h2 with
  |[],[],_,_=>rfl
  |[_],[_],_,h2=>cases h2
  |_::_::_,_::_::_,_,_=>rfl
 ·rfl
def ab7{S S':Nat->Prop}{w':ay}:∀{us vs:List ah} {xs ks:List (DV D)} {u:ah},cn S w (us++[u]) xs->cn S' w' vs ks->ks.map DV.l=(xs.map DV.l).dropLast->(xs.map DV.l).all jJ=ab->(jV xs ks=ab↔us=vs)
 |[],[],[x],[],u,h,_,_,_=>by simp[jV]
 |us,vs,[],ks,u,h,_,_,_=>by have:=h.length;simp at this
 |us,vs,[x],y::ks,u,h,_,hk,_=>by simp at hk
 |us,v::vs,[x],[],u,h,h',_,_=>h'.elim
 |us,vs,x::x'::xs,[],u,h,h',hk,_=>by simp at hk
 |[],vs,x::x'::xs,y::ks,u,h,h',hk,hf=>by have:=h.length;simp at this
 |a::us,[],x::x'::xs,y::ks,u,h,h',hk,hf=>h'.elim
 |a::us,v::vs,x::x'::xs,y::ks,u,h,h',hk,hf=>by
  simp only[gz,List.dropLast_cons_cons,List.cons.injEq]at hk;simp only[gz,List.all_cons,bt]at hf;have e1:=aeS (u:=a) (v:=v) h.1 h'.1 hk.1.symm hf.1;have ih:=ab7 (us:=us) (vs:=vs) (xs:=x'::xs) (ks:=ks) h.2 h'.2 (by simpa using hk.2) (by simp[hf.2.1,hf.2.2]);cases ks with
  |nil=>
   have Hg:vs=[]:=by
    cases vs with
    |nil=>rfl
    |cons _ _=>exact h'.2.elim
   have pz:xs=[]:=by
    have:=hk.2;cases xs with
    |nil=>rfl
    |cons _ _=>simp at this
   subst Hg pz;have MA:us=[]:=by have:=h.2.length;simp at this;exact this
   subst MA;simp only[jV,e1];simp
  |cons y' ks=>simp only[jV,O3,bt,e1];simp only[jV]at ih;rw[ih];simp
 |a::us,[],[x],[],u,h,_,_,_=>by have:=h.length;simp at this
section
variable {α:Type} {R:gL->α->Prop} {K:ah} {f:α->Bool}
def jO.append:∀{es sW:List gL} {xs wv:List α},jO R es xs->jO R sW wv->jO R (es++sW) (xs++wv)
 |[],_,[],_,_,h'=>h'
 |_::_,_,_::_,_,h,h'=>⟨h.1,jO.append h.2 h'⟩
 |[],_,_::_,_,h,_=>h.elim
 |_::_,_,[],_,h,_=>h.elim
def jO.key:∀{es:List gL} {xs:List α},jO R es xs->∀e∈es,∃x,R e x
 |e::es,x::xs,h,e',he=>by
  rcases cu.1 he with rfl|he
  ·exact⟨x,h.1⟩
  ·exact jO.key h.2 e' he
 |[],[],_,e,he=>by cases he
 |[],_::_,h,_,_=>h.elim
 |_::_,[],h,_,_=>h.elim
def Vn(hf:∀e x,R e x->(f x=ab↔e.key=K)):∀{es:List gL} {xs:List α},jO R es xs->(∀e∈es,e.key≠K)->xs.find? f=none∧xs.any f=ai
 |[],[],_,_=>⟨rfl,rfl⟩
 |e::es,x::xs,h,hn=>by
  obtain⟨i1,i2⟩:=Vn hf h.2 λe he=>hn e (eY _ he);have h1:f x=ai:=by
   cases hx:f x with
   |false=>rfl
   |true=>exact(hn e (by simp) ((hf e x h.1).1 hx)).elim
  simp[h1,i1,i2]
 |[],_::_,h,_=>h.elim
 |_::_,[],h,_=>h.elim
def Vo(hf:∀e x,R e x->(f x=ab↔e.key=K)):∀{es:List gL} {xs:List α},jO R es xs->es.Pairwise (λa b=>a.key≠b.key)->∀{j:Nat} {e0:gL},es[j]? =aa e0->e0.key=K->∃x,xs.find? f=aa x∧R e0 x∧xs.any f=ab
 |[],[],_,_,j,e0,hj,_=>by simp at hj
 |e::es,x::xs,h,hp,0,e0,hj,hk=>by cases hj;have h1:=(hf e x h.1).2 hk;exact⟨x,by simp[h1],h.1,by simp[h1]⟩
 |e::es,x::xs,h,hp,j+1,e0,hj,hk=>by
  obtain⟨p1,p2⟩:=qY.1 hp;have nN:es[j]? =aa e0:=by simpa using hj
  obtain⟨y,i1,i2,i3⟩:=Vo hf h.2 p2 nN hk;have h1:f x=ai:=by
   cases hx:f x with
   |false=>rfl
   |true=>exact(p1 e0 (oW nN) (((hf e x h.1).1 hx).trans hk.symm)).elim
  exact⟨y,by simp[h1,i1],i2,by simp[i3]⟩
 |[],_::_,h,_,_,_,_,_=>h.elim
 |_::_,[],h,_,_,_,_,_=>h.elim
def abE(hf:∀e x,R e x->(f x=ab↔e.key=K)){z:α}:∀{es:List gL} {xs:List α},jO R es xs->(∀e∈es,e.key≠K)->(xs.map λx=>if f x=ab then z else x)=xs
 |[],[],_,_=>rfl
 |e::es,x::xs,h,hn=>by
  have i1:=abE hf (z:=z) h.2 λe he=>hn e (eY _ he);have h1:f x=ai:=by
   cases hx:f x with
   |false=>rfl
   |true=>exact(hn e (by simp) ((hf e x h.1).1 hx)).elim
  rw[gz,i1,h1];rfl
 |[],_::_,h,_=>h.elim
 |_::_,[],h,_=>h.elim
def aeN(hf:∀e x,R e x->(f x=ab↔e.key=K)){z:α}{g:gL->gL}:∀{es:List gL} {xs:List α},jO R es xs->es.Pairwise (λa b=>a.key≠b.key)->∀{j:Nat} {e0:gL},es[j]? =aa e0->e0.key=K->R (g e0) z->(g e0).key=e0.key->
  jO R (es.modify j g) (xs.map λx=>if f x=ab then z else x)∧(es.modify j g).map (·.key)=es.map (·.key)
 |[],[],_,_,j,e0,hj,_,_,_=>by simp at hj
 |e::es,x::xs,h,hp,0,e0,hj,hk,hz,hg=>by
  cases hj;obtain⟨p1,p2⟩:=qY.1 hp;have h1:=(hf e x h.1).2 hk;have h2:=abE hf (z:=z) h.2 λe' na=>by rw[<-hk];exact(p1 e' na).symm
  rw[gz,h2,aH h1];exact⟨⟨hz,h.2⟩,by simp[hg]⟩
 |e::es,x::xs,h,hp,j+1,e0,hj,hk,hz,hg=>by
  obtain⟨p1,p2⟩:=qY.1 hp;have nN:es[j]? =aa e0:=by simpa using hj
  obtain⟨i1,i2⟩:=aeN hf (z:=z) h.2 p2 nN hk hz hg;have h1:f x=ai:=by
   cases hx:f x with
   |false=>rfl
   |true=>exact(p1 e0 (oW nN) (((hf e x h.1).1 hx).trans hk.symm)).elim
  rw[gz,h1];exact⟨⟨h.1,i1⟩,by simp[i2]⟩
 |[],_::_,h,_,_,_,_,_,_,_=>h.elim
 |_::_,[],h,_,_,_,_,_,_,_=>h.elim
end
def Dc(T:bc D)(n:Nat)(x:D n):(T.out n x).map DV.l=T.lv n:=Df _ _
def ab3{S:Nat->Prop}{lf:Lf}:∀{us:List ah} {xs:List (DV D)} {u:ah},cn S w (us++[u]) xs->ym (xs.map DV.l)=aa lf->dD S w u ⟨lf,yk lf xs⟩
 |us,[],u,h,_=>by have:=h.length;simp at this
 |[],[x],u,h,hl=>by obtain⟨l,x⟩:=x;simp only[gz,List.map_nil,ym,fE]at hl;subst hl;simp only[yk,dif_pos];exact h.1
 |a::us,[x],u,h,_=>by have:=h.length;simp at this
 |[],x::y::xs,u,h,_=>by have:=h.length;simp at this
 |a::us,x::y::xs,u,h,hl=>by have h2:cn S w (us++[u]) (y::xs):=h.2;have:=ab3 (us:=us) (xs:=y::xs) h2 (by simpa[ym]using hl);simpa[yk]using this
def akN{S:Nat->Prop}{lf:Lf}(hf:jJ lf=ab):dD (D:=D) S w (pack ai (wg [lf])) ⟨lf,zo lf⟩:=by
 cases lf with
 |sl n=>cases hf
 |_=>rfl
def ab4:∀{ls:List Lf} {lf:Lf},ym ls=aa lf->lf∈ls
 |[],lf,h=>by cases h
 |[l],lf,h=>by cases h;simp
 |l::m::r,lf,h=>by have:=ab4 (ls:=m::r) (by simpa[ym]using h);exact eY _ this
def abv(hR:cF T){t kt vt n:Nat}(hM:PK P T t kt vt n){o:cB}{i:Nat}{v:ah}{xs:List (D n)}(h:rU o i w v xs){ks:List (DV D)}{vs:List ah}(hl:cn (λ_=>True) w vs ks)(hk:ks.map DV.l=(T.lv n).dropLast):
  iR (T.lv n).dropLast vs∧∃r es clock,v= .map (aa r)∧o r=i∧w.heap[r]? =aa (.map es clock)∧es.toList.Pairwise (λa b=>a.key≠b.key)∧
   jO (λe x=>∃us:List ah,e.key=gr us∧ad.rd (λ_=>False) w (us++[e.val]) x) es.toList xs∧
   (∀(e:gL) (x:D n),(∃us:List ah,e.key=gr us∧ad.rd (λ_=>False) w (us++[e.val]) x)->(jV (T.out n x) ks=ab↔e.key=gr vs))∧
   ((Instr.findKey kt (gr vs) es.toList).run P w= .ok none w∧(∀e∈es.toList,e.key≠gr vs)∨∃j e,(Instr.findKey kt (gr vs) es.toList).run P w= .ok (aa (j,e.val)) w∧es.toList[j]? =aa e∧e.key=gr vs)∧uF es.toList clock:=by
 have eJ:((T.lv n).dropLast).all jJ=ab:=by rw[dU];intro l hl;exact dU.1 hM.flat l (by rw[List.dropLast_eq_take]at hl;exact List.mem_of_mem_take hl)
 have qy:iR (T.lv n).dropLast vs:=by rw[<-hk];exact Jj hl (by rw[hk];exact eJ)
 refine⟨qy,?_⟩
 obtain⟨r,es,clock,h1,h2,h3,h4,h5,hbn⟩:=h
 have hR':∀(e:gL) (x:D n),(∃us:List ah,e.key=gr us∧ad.rd (λ_=>False) w (us++[e.val]) x)->(jV (T.out n x) ks=ab↔e.key=gr vs)∧∃us,iR (T.lv n).dropLast us∧e.key=gr us:=by
  rintro e x ⟨us,k1,k2⟩;rw[hR.rd]at k2;have e1:=ab7 (us:=us) (vs:=vs) (ks:=ks) k2 hl (by rw[Dc,hk]) (by rw[Dc];exact hM.flat);have e2:us.length=vs.length:=by have a1:=k2.length;have a2:=hl.length;have a3:=iq List.length hk;have a4:=iq List.length (Dc T n x);simp at a1 a3 a4;omega
  refine⟨e1.trans ⟨λh=>by rw[k1,h],λh=>aqW e2 (k1.symm.trans h)⟩,us,?_,k1⟩;have a5:cn (λ_=>False) w us (T.out n x).dropLast:=by
   have:=k2.take us.length;rw[List.take_left]at this;have a1:=k2.length;have e3:(T.out n x).take us.length=(T.out n x).dropLast:=by rw[List.dropLast_eq_take];cR 1;simp at a1;omega
   rwa[e3]at this
  have a6:(T.out n x).dropLast.map DV.l=(T.lv n).dropLast:=by rw[<-Dc T n x,List.map_dropLast]
  have:=Jj a5 (by rw[a6];exact eJ);rwa[a6]at this
 refine⟨r,es,clock,h1,h2,h3,h4,h5,λe x he=>(hR' e x he).1,?_,hbn⟩
 exact hM.key.find w vs qy es.toList λe he=>by obtain⟨x,hx⟩:=h5.key e he;exact(hR' e x hx).2
def aqY [Rd](hP:dS P T)(hR:cF T)(hx:Cx U ar γ w sl L ob){t:aY}{kt vt n:Nat}{m x:Operand}{ok:Bool}{a k:AV D}(ht:aF T.qf t=aa (kt,vt,n))(ha:eT sl m=aa a)(hb:eT sl x=aa k)(h:Q.R ob (SC T n (ar+16) ok a k) l e):
  OW P Qx L ⟨d,.lookup t m x ok,ty,pos,af,gd⟩ w (λv w'=>∃γ',dR U ar γ w ob e γ' v w'):=by
 have hM:=hP.qf t kt vt n ht
 obtain⟨va,h1,h2⟩:=cA hx.sr ha
 obtain⟨vk,h3,h4⟩:=cA hx.sr hb
 unfold SC at h
 split at h
 case h_2=>cases h
 rename_i i ks kg jG
 obtain⟨ao,l',ho,rfl,h⟩:=h
 cases ao with
 |box=>exact h.elim
 |sl=>exact h.elim
 |cZ=>exact h.elim
 |iu=>exact h.elim
 |fz=>exact h.elim
 |mp n' xs=>
  dsimp only at h
  split at h
  case isFalse=>exact h.elim
  rename_i hc
  simp only[bt]at hc
  have hn:=bB hc.1
  subst hn
  split at h
  case h_2=>exact h.elim
  rename_i lf A2
  obtain⟨vs,k1,k2⟩:=ab6 hR jG h4
  obtain⟨k3,rfl⟩:=ab5 hc.2 k1 k2
  obtain⟨_,_,Hu⟩:=hx.ob.ob i _ ho
  obtain⟨qy,r,es,clock,m1,m2,m3,m4,m5,m6,m7,m8⟩:=abv hR hM Hu k1 k3
  obtain⟨_,rfl,_⟩:=h2
  rw[m1]at h1
  obtain⟨vl,v1,v2⟩:=hM.val
  rw[A2]at v1
  cases v1
  have auu:jJ lf=ab:=dU.1 hM.flat lf (ab4 A2)
  have jH:∀ok,∃u,(Instr.lookup t (.map (aa r)) (gr vs) ok).run P w= .ok (cond ok (.tuple #[u,.bool (Dj (λx=>jV (T.out n x) ks) xs)]) u) w∧dD (In γ.o []) w u ⟨lf,yf (λx=>jV (T.out n x) ks) (λx=>yk lf (T.out n x)) (zo lf) xs⟩:=by
   intro ok;unfold yf Dj;rcases m7 with⟨f1,f2⟩|⟨j,e0,f1,f2,f3⟩
   ·have ue:=Vn (f:=λx=>jV (T.out n x) ks) m6 m5 f2;refine⟨pack ai (wg [lf]),?_,?_⟩
    ·cases ok<;>simp[Instr.lookup,run_underlying hM.uW,MapKept.run_getObj_map m3,hM.key.check _ _ _ qy,f1,v2.zero,Result.andThen,ue.2]
    ·rw[ue.1];exact akN auu
   ·obtain⟨y,g1,⟨us,g2,g3⟩,g4⟩:=Vo (f:=λx=>jV (T.out n x) ks) m6 m5 m4 f2 f3;refine⟨e0.val,?_,?_⟩
    ·cases ok<;>simp[Instr.lookup,run_underlying hM.uW,MapKept.run_getObj_map m3,hM.key.check _ _ _ qy,f1,Result.andThen,g4]
    ·rw[g1];rw[hR.rd]at g3;exact(ab3 g3 (by rw[Dc];exact A2)).weaken λ_ h=>h.elim
  obtain⟨u,u1,u2⟩:=jH ok
  cases ok with
  |false=>
   obtain⟨_,rfl⟩:=h
   refine dm (v:=u) (OW.run λc hc=>⟨_,w,?_,rfl,rfl⟩) (eo hx u2)
   simp[execOp,hc _ _ h1,hc _ _ h3,u1]
  |true=>
   obtain⟨_,rfl⟩:=h
   refine dm (v:= .tuple #[u,.bool (Dj (λx=>jV (T.out n x) ks) xs)]) (OW.run λc hc=>⟨_,w,?_,rfl,rfl⟩) (Ac hx [⟨lf,yf (λx=>jV (T.out n x) ks) (λx=>yk lf (T.out n x)) (zo lf) xs⟩,⟨.bool,Dj (λx=>jV (T.out n x) ks) xs⟩] (by simp) ⟨[u,.bool (Dj (λx=>jV (T.out n x) ks) xs)],rfl,⟨u2,mx (γ:=γ) (i:=0) rfl (by omega) rfl,lr⟩,⟨rfl,mx (γ:=γ) (i:=1) rfl (by omega) rfl,lr⟩,trivial⟩)
   simp[execOp,hc _ _ h1,hc _ _ h3,u1]
def abu [Rd](hP:dS P T)(hR:cF T)(hx:Cx U ar γ w sl L ob){t:aY}{kt vt n:Nat}{m x u:Operand}{op:Op}(TX:op= .mapUpdate t m x u∨op= .insert t m x u){a k b:AV D}(ht:aF T.qf t=aa (kt,vt,n))(ha:eT sl m=aa a)(hb:eT sl x=aa k)(hu:eT sl u=aa b)(h:Q.R ob (LV T n a k b) l e):
  OW P Qx L ⟨d,op,ty,pos,af,gd⟩ w (λv w'=>∃γ',dR U ar γ w ob e γ' v w'):=by
 have hM:=hP.qf t kt vt n ht
 obtain⟨va,h1,h2⟩:=cA hx.sr ha
 obtain⟨vk,h3,h4⟩:=cA hx.sr hb
 obtain⟨vu,h5,h6⟩:=cA hx.sr hu
 unfold LV at h
 split at h
 case h_2=>cases h
 rename_i i ks kg lf dd K g jG
 obtain⟨ao,l',ho,rfl,h⟩:=h
 cases ao with
 |box=>exact h.elim
 |sl=>exact h.elim
 |cZ=>exact h.elim
 |iu=>exact h.elim
 |fz=>exact h.elim
 |mp n' xs=>
  dsimp only at h
  split at h
  case isFalse=>exact h.elim
  rename_i hc
  simp only[bt]at hc
  have hn:=bB hc.1
  subst hn
  split at h
  case h_2=>exact h.elim
  rename_i z hz
  obtain⟨_,rfl⟩:=h
  obtain⟨vs,k1,k2⟩:=ab6 hR jG h4
  obtain⟨k3,rfl⟩:=ab5 hc.2 k1 k2
  obtain⟨fB,Uh,Hu⟩:=hx.ob.ob i _ ho
  obtain⟨qy,r,es,clock,m1,m2,m3,m4,m5,m6,m7,m8⟩:=abv hR hM Hu k1 k3
  obtain⟨_,rfl,_⟩:=h2
  rw[m1]at h1
  have ML:=hR.iX hz
  have eJ:(T.out n z).map DV.l=T.lv n:=Dc T n z
  have hzr:ad.rd (λ_=>False) w (vs++[vu]) z:=by
   rw[hR.rd,ML];have gG:(ks++[⟨lf,dd⟩]:List (DV D)).map DV.l=T.lv n:=by rw[<-ML];exact eJ
   have key:∀{vs:List ah} {ks:List (DV D)},cn (λ_=>True) w vs ks->(ks.map DV.l).all jJ=ab->cn (λ_=>False) w vs ks:=by
    intro vs;induction vs with
    |nil=>intro ks h _;cases ks with|nil=>trivial|cons _ _=>exact h.elim
    |cons v vs ih=>
     intro ks h hf;cases ks with
     |nil=>exact h.elim
     |cons y ks=>
      simp only[gz,List.all_cons,bt]at hf;refine⟨?_,ih h.2 hf.2⟩;obtain⟨l,y⟩:=y;cases l with
      |sl n=>cases hf.1
      |_=>exact h.1
   exact key (cn.append k1 ⟨h6.1.weaken λ_ _=>trivial,trivial⟩) (by rw[gG];exact hM.flat)
  have l8:r<w.heap.size:=(Array.getElem?_eq_some_iff.1 m3).1
  have jH:∃sW BA,(Instr.mapUpdate t (.map (aa r)) (gr vs) vu).run P w= .ok () {w with heap:=w.heap.setIfInBounds r (.map sW BA)}∧sW.toList.Pairwise (λa b=>a.key≠b.key)∧
    jO (λe x=>∃us:List ah,e.key=gr us∧ad.rd (λ_=>False) w (us++[e.val]) x) sW.toList (Ag (λx=>jV (T.out n x) ks) z xs)∧uF sW.toList BA:=by
   rcases m7 with⟨f1,f2⟩|⟨j,e0,f1,f2,f3⟩
   ·have ue:=Vn (f:=λx=>jV (T.out n x) ks) m6 m5 f2;refine⟨es.push ⟨gr vs,vu,clock⟩,clock+1,?_,?_,?_,?_⟩
    ·simp[Instr.mapUpdate,run_underlying hM.uW,MapKept.run_getObj_map m3,hM.key.check _ _ _ qy,f1,MapKept.run_setObj_map _ m3,Result.andThen]
    ·rw[Array.toList_push,List.pairwise_append];refine⟨m4,by simp,λe he e' na=>?_⟩;simp only[eb]at na;subst na;exact f2 e he
    ·unfold Ag;rw[aL (by simp[ue.2]),Array.toList_push];exact m5.append ⟨⟨vs,rfl,hzr⟩,trivial⟩
    ·rw[Array.toList_push];exact uF.push m8
   ·obtain⟨y,g1,_,g3⟩:=Vo (f:=λx=>jV (T.out n x) ks) m6 m5 m4 f2 f3;have hj:es[j]? =aa e0:=by simpa using f2
    obtain⟨s1,s2⟩:=aeN (f:=λx=>jV (T.out n x) ks) (z:=z) (g:=λe=>{e with key:=gr vs,val:=vu}) m6 m5 m4 f2 f3 ⟨vs,rfl,hzr⟩ f3.symm;refine⟨es.modify j λe=>{e with key:=gr vs,val:=vu},clock,?_,?_,?_,?_⟩
    ·simp[Instr.mapUpdate,run_underlying hM.uW,MapKept.run_getObj_map m3,hM.key.check _ _ _ qy,f1,hj,f3,hM.key.stays _ _ qy,MapKept.run_setObj_map _ m3,Result.andThen]
    ·rw[Array.toList_modify];have p1:=List.pairwise_map.2 m4;rw[<-s2]at p1;exact List.pairwise_map.1 p1
    ·unfold Ag;rw[aH g3,Array.toList_modify];exact s1
    ·rw[Array.toList_modify];exact uF.modify (λ_=>rfl) m8
  obtain⟨sW,BA,u1,u2,u3,u4⟩:=jH
  obtain⟨TK,TJ⟩:=MapKept.heap_set (w:=w) (r:=r) (o':= .map sW BA) m3
  have b7:bP [i] [] γ.o w γ.o {w with heap:=w.heap.setIfInBounds r (.map sW BA)}:=by
   refine⟨rfl,rfl,rfl,by simp,λ_ _=>rfl,λb h1 h2=>?_,λb hb hm=>?_⟩
   ·simp at h2;omega
   ·refine TJ b λe=>hm ?_;subst e;simp[m2]
  refine OW.KW λc hc=>⟨{w with heap:=w.heap.setIfInBounds r (.map sW BA)},?_,?_⟩
  rotate_left
  ·refine⟨_,mkPost (M:=[i]) (N:=[]) (ps:=[]) (g':=γ.g) (v':=γ.v) hx.ob b7 (by simp[fB,Uh,cY.wr]) (by simp) (by simp) hx.cJ (λ_ _=>rfl) (λ_ _=>rfl) rfl ?_⟩;intro q z' hq ko;obtain⟨rfl,oD⟩:=nF hq;cases oD;exact⟨fB,.inl Uh,r,sW,BA,m1,m2,TK,u2,u3.mono λe x ⟨us,a1,a2⟩=>⟨us,a1,ad.mono (λb hb _=>hb.elim) a2⟩,u4⟩
  ·rcases TX with rfl|rfl<;>simp[execOp,hc _ _ h1,hc _ _ h3,hc _ _ h5,u1]
end
section
variable {P:cQ}
def iR.len:∀{ls:List Lf} {us:List ah},iR ls us->us.length=ls.length
 |[],[],_=>rfl
 |_::_,_::_,h=>by simp[iR.len h.2]
 |[],_::_,h=>h.elim
 |_::_,[],h=>h.elim
def iR.split:∀{l1 l2:List Lf} {us:List ah},iR (l1++l2) us->iR l1 (us.take l1.length)∧iR l2 (us.drop l1.length)
 |[],l2,us,h=>⟨by simp[iR],by simpa using h⟩
 |l::l1,l2,u::us,h=>by obtain⟨h1,h2⟩:=iR.split (l1:=l1) h.2;exact⟨by rw[jR,List.take_succ_cons];exact⟨h.1,h1⟩,by rw[jR,List.drop_succ_cons];exact h2⟩
 |_::_,_,[],h=>h.elim
def lL.int{t:aY}{k:IntKind}(h:P.underlying t=aa (.int k)):lL P t ai [.int k] 1:=by
 intro d w us vs h1 h2;match us,vs,h1,h2 with
 |[u],[v],h1,h2=>obtain⟨⟨a,rfl⟩,_⟩:=h1;obtain⟨⟨b,rfl⟩,_⟩:=h2;have:=run_equalIn_int (P:=P) w d t k k a b h;exact⟨a==b,by simpa[pack]using this,by simp⟩
 |[],_,h1,_=>exact h1.elim
 |_::_::_,_,h1,_=>exact h1.2.elim
 |[_],[],_,h2=>exact h2.elim
 |[_],_::_::_,_,h2=>exact h2.2.elim
def lL.up{t:aY}{g:Bool}{ls:List Lf}{k k':Nat}(h:lL P t g ls k)(hk:k<=k'):lL P t g ls k':=λd w us vs h1 h2=>by have:=h (d+(k'-k)) w us vs h1 h2;rwa[show d+(k'-k)+k=d+k' by omega]at this
def Sa{t:aY}{g:Bool}{z us:List ah}{off:Nat}(hT:bq P t g z)(hz:g=ai->z.length=1)(h:off+z.length<=us.length)(w:ay):(part t us.toArray off).run P w= .ok (pack g ((us.drop off).take z.length)) w:=by
 unfold part;rw[Sem.run_bind,hT.isAgg];simp only[Result.andThen_ok];cases g with
 |true=>simp only[aI,Sem.run_bind,hT.sizeOf,Result.andThen_ok,Sem.run_pure,pack];cR 2;apply Array.toList_inj.1;simp[List.take_drop]
 |false=>
  have h1:=hz rfl;rw[h1]at h⊢;have aV:off<us.length:=by omega
  simp only[aE,aD];have:us.toArray[off]? =aa us[off]:=by simp[aV]
  rw[this];simp only[Sem.run_pure,pack,aE,aD];rw[List.drop_eq_getElem_cons aV];rfl
def X3(P:cQ)(k:Nat):Nat->List Field->List Lf->Prop
 |off,[],ls=>ls=[]
 |off,f::fs,ls=>f.name≠ "_" ∧f.offset=off∧∃g l1 l2 z,ls=l1++l2∧bq P f.type g z∧z.length=l1.length∧(g=ai->l1.length=1)∧lL P f.type g l1 k∧X3 P k (off+l1.length) fs l2
def aeL{k d:Nat}{xs ys:List ah}{w:ay}:∀{fs:List Field} {off:Nat} {ls:List Lf},X3 P k off fs ls->iR ls (xs.drop off)->iR ls (ys.drop off)->off<=xs.length->off<=ys.length->∃r:Bool,(Op.eqFields (d+k) xs.toArray ys.toArray fs).run P w= .ok r w∧(r=ab↔xs.drop off=ys.drop off)
 |[],off,ls,h,hx,hy,_,_=>by
  have h:ls=[]:=h;subst h;have e1:xs.drop off=[]:=by
   generalize xs.drop off=a at hx;cases a with
   |nil=>rfl
   |cons _ _=>exact hx.elim
  have e2:ys.drop off=[]:=by
   generalize ys.drop off=a at hy;cases a with
   |nil=>rfl
   |cons _ _=>exact hy.elim
  rw[e1,e2];exact⟨ab,by simp[Op.eqFields],by simp⟩
 |f::fs,off,ls,h,hx,hy,hox,MK=>by
  obtain⟨h1,rfl,g,l1,l2,z,rfl,h2,h3,h4,h5,h6⟩:=h;have lx:=hx.len;have ly:=hy.len;simp at lx ly;obtain⟨x1,x2⟩:=hx.split;obtain⟨y1,y2⟩:=hy.split;rw[q9]at x2 y2;have hz:g=ai->z.length=1:=λhg=>by rw[h3];exact h4 hg
  have hle:f.offset+l1.length<=xs.length:=by omega
  ·have p1:=Sa (us:=xs) (off:=f.offset) h2 hz (by omega) w;have p2:=Sa (us:=ys) (off:=f.offset) h2 hz (by omega) w;rw[h3]at p1 p2;obtain⟨r3,p3,q3⟩:=h5 d w _ _ x1 y1;obtain⟨ri,ih,qi⟩:=aeL (d:=d) (w:=w) h6 x2 y2 (by omega) (by omega);simp only[Op.eqFields,ne_eq,h1,not_false_eq_true,aI,Sem.run_bind,p1,p2,p3,Result.andThen_ok];have ex:xs.drop f.offset=(xs.drop f.offset).take l1.length++xs.drop (f.offset+l1.length):=by rw[<-q9,pR]
   have ey:ys.drop f.offset=(ys.drop f.offset).take l1.length++ys.drop (f.offset+l1.length):=by rw[<-q9,pR]
   cases r3 with
   |true=>have he:=q3.1 rfl;refine⟨ri,by simpa using ih,qi.trans ⟨λe=>by rw[ex,ey,he,e],λe=>by rw[<-q9,<-q9,e]⟩⟩
   |false=>refine⟨ai,by simp,by simp;intro e;have:=q3.2 (by rw[e]);cases this⟩
def lL.struct{t:aY}{fs:Array Field}{ls:List Lf}{k:Nat}(h:P.underlying t=aa (.struct fs))(hp:P.stoodInHeld t=ai)(hF:X3 P k 0 fs.toList ls):lL P t ab ls (k+1):=by
 intro d w us vs h1 h2;have hfo:P.fieldsOf t=fs:=by simp[cQ.fieldsOf,h]
 have e1:=run_equalIn_struct (P:=P) w (d+k) t us.toArray vs.toArray (by rw[hfo];exact h) hp;obtain⟨r,e2,e3⟩:=aeL (P:=P) (d:=d) (w:=w) hF (xs:=us) (ys:=vs) (by simpa using h1) (by simpa using h2) (by simp) (by simp);rw[hfo,e2]at e1;exact⟨r,e1,by simpa using e3⟩
def iR.ints{k:IntKind}:∀{m:Nat} {us:List ah},iR (cU m (.int k)) us->∃xs:List Int,us=xs.map (ah.int k)∧xs.length=m
 |0,[],_=>⟨[],rfl,rfl⟩
 |0,_::_,h=>h.elim
 |m+1,[],h=>h.elim
 |m+1,u::us,h=>by obtain⟨⟨a,rfl⟩,h2⟩:=(h:(∃a,u= .int k a)∧iR (cU m (.int k)) us);obtain⟨xs,rfl,h3⟩:=iR.ints h2;exact⟨a::xs,rfl,by simp[h3]⟩
def abz{us:List ah}(h:us.length≠1):gr us= .agg us.toArray:=by
 match us,h with
 |[],_=>rfl
 |[_],h=>exact(h rfl).elim
 |_::_::_,_=>rfl
def BY.agg{kt:aY}{m:Nat}{k:IntKind}{d:TypeDesc}(hd:P.underlying kt=aa d)(atI:∀a b,Instr.sameNow d (.agg a) b=none)(hm:m≠1)(hE:lL P kt ab (cU m (.int k)) 2)
  (UG:∀(w:ay) (em:Bool) (xs:List Int),xs.length=m->(Instr.checkKey em 10000 kt (.agg (xs.map (ah.int k)).toArray)).run P w= .ok () w):BY P kt (cU m (.int k)):=by
 have hk:∀{us:List ah},iR (cU m (.int k)) us->gr us= .agg us.toArray:=λ{us} hu=>abz (by rw[hu.len,List.length_replicate];exact hm)
 refine⟨λw em ks hc=>?_,λw ks hc es sM=>?_,λw ks hc=>?_⟩
 ·rw[hk hc];obtain⟨xs,rfl,Hc⟩:=hc.ints;exact UG w em xs Hc
 ·rw[hk hc];have adP:∀e'∈es,∃us,iR (cU m (.int k)) us∧e'.key= .agg us.toArray:=λe' na=>by obtain⟨us,h1,h2⟩:=sM e' na;exact⟨us,h1,by rw[h2,hk h1]⟩
  have i_:∀e'∈es,∃r:Bool,(Op.equal kt (.agg ks.toArray) e'.key).run P w= .ok r w∧(r=ab↔e'.key= .agg ks.toArray):=λe' na=>by obtain⟨us,h1,h2⟩:=adP e' na;obtain⟨r,e1,e2⟩:=hE 9998 w ks us hc h1;rw[h2];simp only[pack,aI]at e1;exact⟨r,e1,e2.trans ⟨λh=>by rw[h],λh=>by simpa using h.symm⟩⟩
  have au8:∀(l:List gL) (i:Nat),(∀e'∈l,e'∈es)->((Instr.findAsking kt (.agg ks.toArray) l i).run P w= .ok none w∧∀e'∈l,e'.key≠.agg ks.toArray)∨∃j e',(Instr.findAsking kt (.agg ks.toArray) l i).run P w= .ok (aa (i+j,e'.val)) w∧l[j]? =aa e'∧e'.key= .agg ks.toArray:=by
   intro l;induction l with
   |nil=>intro i _;exact .inl ⟨rfl,by simp⟩
   |cons e' l ih=>
    intro i hl;obtain⟨r,h1,ng⟩:=i_ e' (hl e' (by simp));unfold Instr.findAsking;simp only[Sem.run_bind,h1,Result.andThen_ok];cases r with
    |true=>exact .inr ⟨0,e',by simp,rfl,ng.1 rfl⟩
    |false=>
     have cV:e'.key≠.agg ks.toArray:=λh=>by have:=ng.2 h;cases this
     rcases ih (i+1) (λx hx=>hl x (eY _ hx))with⟨g1,g2⟩|⟨j,e2,g1,g2,g3⟩
     ·refine .inl ⟨by simp[g1],λx hx=>?_⟩;rcases cu.1 hx with rfl|hx
      ·exact cV
      ·exact g2 x hx
     ·refine .inr ⟨j+1,e2,?_,by simpa using g2,g3⟩;simp only[aE,aD];rw[g1];cR 3;omega
  have hfk:(Instr.findKey kt (.agg ks.toArray) es).run P w=(Instr.findAsking kt (.agg ks.toArray) es).run P w:=by
   unfold Instr.findKey;simp only[Sem.run_bind,run_underlying hd,Result.andThen_ok];cases es with
   |nil=>rfl
   |cons e' es=>obtain⟨us,_,h2⟩:=adP e' (by simp);simp[Instr.findNow,atI]
  rw[hfk];rcases au8 es 0 (λ_ h=>h)with⟨g1,g2⟩|⟨j,e2,g1,g2,g3⟩
  ·exact .inl ⟨g1,g2⟩
  ·exact .inr ⟨j,e2,by simpa using g1,g2,g3⟩
 ·rw[hk hc];obtain⟨xs,rfl,Hc⟩:=hc.ints;have:Instr.sameBits 10000 (.agg (xs.map (ah.int k)).toArray) (.agg (xs.map (ah.int k)).toArray)=ab:=by
   simp only[Instr.sameBits,BEq.rfl,Bool.true_and];rw[dU];rintro⟨x,y⟩ Hb;simp only[List.zip_map,dE]at Hb;have hz:∀(l:List Int) (p:Int×Int),p∈l.zip l->p.1=p.2:=by
    intro l;induction l with
    |nil=>intro p hp;simp at hp
    |cons a l ih=>
     intro p hp;simp only[List.zip_cons_cons,cu]at hp;rcases hp with rfl|hp
     ·rfl
     ·exact ih p hp
   obtain⟨p,hp,h2⟩:=Hb;have h3:=hz xs p hp;cases h2;simp[Instr.sameBits,h3]
  simp[Instr.keyThatStays,this]
def X4(P:cQ)(k:IntKind):Nat->List Field->Prop
 |_,[]=>True
 |off,f::fs=>f.name≠ "_" ∧f.offset=off∧P.underlying f.type=aa (.int k)∧(∃z,bq P f.type ai z∧z.length=1)∧X4 P k (off+1) fs
def BY.struct{kt:aY}{fs:Array Field}{m:Nat}{k:IntKind}(h:P.underlying kt=aa (.struct fs))(hl:fs.toList.length=m)(hm:m≠1)(hE:lL P kt ab (cU m (.int k)) 2)(hF:X4 P k 0 fs.toList):BY P kt (cU m (.int k)):=by
 refine BY.agg h (λ_ _=>rfl) hm hE λw em xs Hc=>?_;unfold Instr.checkKey;simp only[Sem.run_bind,run_underlying h,Result.andThen_ok];rw[<-Array.forIn_toList];have key:∀(l:List Field) (off:Nat),X4 P k off l->off+l.length=xs.length->(forIn l PUnit.unit (λf (r:PUnit)=>
   if f.name≠ "_" then(do
    let v<-part f.type (xs.map (ah.int k)).toArray f.offset
    Instr.checkKey em 9999 f.type v
    pure (ForInStep.yield PUnit.unit))else pure (ForInStep.yield PUnit.unit)):Sem PUnit).run P w= .ok PUnit.unit w:=by
  intro l
  induction l with
  |nil=>intro off _ _;simp
  |cons f l ih=>
   intro off ⟨h1,h2,h3,⟨z,h4,h5⟩,h6⟩ ho
   subst h2
   simp only[jR]at ho
   have p1:=Sa (us:=xs.map (ah.int k)) (off:=f.offset) h4 (λ_=>h5) (by simp;omega) w
   have aV:f.offset<xs.length:=by omega
   have p2:pack ai (((xs.map (ah.int k)).drop f.offset).take z.length)= .int k xs[f.offset]:=by rw[h5,List.drop_eq_getElem_cons (by simpa using aV)];simp[pack]
   rw[p2]at p1
   have p3:=MapKept.run_checkKey (P:=P) (w:=w) (k:= .int k xs[f.offset]) h3 rfl em 9998
   rw[List.forIn_cons]
   simp only[aH h1,Sem.run_bind,p1,p3,Result.andThen_ok,Sem.run_pure]
   exact ih _ h6 (by omega)
 rw[key fs.toList 0 hF (by omega)];rfl
