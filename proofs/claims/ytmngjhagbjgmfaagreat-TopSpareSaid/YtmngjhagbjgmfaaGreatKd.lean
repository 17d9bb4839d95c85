import Derived.Test.YtmngjhagbjgmfaaGreatDv
set_option linter.all false
open Array renaming getElem?_eq_some_iff->jB,length_toList->oc
open Bool renaming true->ab
open Go renaming Builtin->dN,Operand->a_,TypeId->aY,Value->ah,World->ay
open List renaming append_assoc->ed,append_nil->pU,drop_append_of_le_length->Yb,drop_of_length_le->akF,eq_nil_of_length_eq_zero->zn,ext_getElem?->xz,flatten_append->n9,flatten_cons->oZ,getElem?_eq_getElem->nZ,getElem?_eq_some_iff->gK,getElem?_set->oY,getElem?_take->ml,getElem_of_mem->Fz,length_take->oX,map_append->q7,mem_of_getElem?->oW,range->bW,replicate->cU,take_of_length_le->xx
open Nat renaming add_mul->iT,add_sub_cancel_left->B4,le_refl->bx,mul_le_mul_right->mj,succ_mul->qW,zero_add->kG
open Option renaming none->ak,some->aa
open Option.some renaming inj->jP
namespace Go.Proofs.YtmngjhagbjgmfaaGreat
open Go Go.RowKit
namespace Dp
class nt(α:Type)[ad α]:Prop where
 loc:∀{S:Nat->Prop} {w:ay} {cs:List ah} {x:α},ad.rd S w cs x->ad.rd (λb=>S b∧∃p n c,ah.slice (aa p) n c∈cs∧p.block=b) w cs x
instance:nt Int:=⟨λh=>h⟩
instance:nt Bool:=⟨λh=>h⟩
instance:nt ByteArray:=⟨λh=>h⟩
instance:nt U8:=⟨λh=>h⟩
instance{β:Type}[ad β][Flat β]:nt (List β):=⟨by
 rintro S w cs x ⟨p,cap,rfl,h1,h2,h3⟩;refine⟨p,cap,rfl,h1,h2,?_⟩;rcases h3 with h3|⟨a,aK,rfl,h4,h5,h6⟩
 ·exact .inl h3
 ·exact .inr ⟨a,aK,rfl,⟨h4,a,x.length,cap,by simp,rfl⟩,h5.mono λ_ _=>Flat.any,h6⟩⟩
instance{α β:Type}[ad α][ad β][nt α][nt β]:nt (α×β):=⟨by
 rintro S w cs x ⟨c1,c2,rfl,h1,h2⟩;refine⟨c1,c2,rfl,ad.mono ?_ (nt.loc h1),ad.mono ?_ (nt.loc h2)⟩
 ·rintro b ⟨hb,p,n,c,hm,e⟩ _;exact⟨⟨hb,p,n,c,List.mem_append_left _ hm,e⟩,rfl⟩
 ·rintro b ⟨hb,p,n,c,hm,e⟩ _;exact⟨⟨hb,p,n,c,List.mem_append_right _ hm,e⟩,rfl⟩⟩
def aCO(z:Nat)(Tc:aY)(o:cB)(kc:Nat)(w:ay)(u:ah):Prop:=∀p n c,u= .slice p n c->(p=ak∧n=0∧c=0)∨∃g f aW,p=aa ⟨g,f,ak⟩∧o g=kc∧w.heap[g]? =aa (.cells aW Tc (0,0))∧n<=c∧c<=maxLen∧f+c*z<=aW.size
def Dst(l:List ah):Prop:=∀(i j:Nat) (p q:Addr) (n m c d:Nat),l[i]? =aa (.slice (aa p) n c)->l[j]? =aa (.slice (aa q) m d)->p.block=q.block->i=j
def j9{α:Type}[ad α](z:Nat)(T Tc:aY)(o:cB)(k kc:Nat)(w:ay)(v:ah)(xs:List α):Prop:=
 (v= .slice ak 0 0∧xs=[])∨
 ∃g cap aW aK,v= .slice (aa ⟨g,0,ak⟩) xs.length cap∧o g=k∧w.heap[g]? =aa (.cells aW T (0,0))∧xs.length<=cap∧cap<=maxLen∧aW.size=cap*ad.sz α∧
  cp (ad.rd (In o [kc]) w) aK xs∧aW.toList.take (xs.length*ad.sz α)=aK.flatten∧(∀u∈aK.flatten,aCO z Tc o kc w u)∧Dst aK.flatten
section
variable {α β:Type} [ad α] [ad β] {z:Nat} {T Tc:aY} {o o':cB} {k kc k' Dv:Nat} {w w':ay} {v u:ah} {xs:List α} {M N:List Nat}
def j9.ow(h:j9 z T Tc o k kc w v xs):Ow T o k [kc] w v xs:=by
 rcases h with h|⟨g,cap,aW,aK,h1,h2,h3,h4,h5,h6,h7,h8,_⟩
 ·exact .inl h
 ·exact .inr ⟨g,0,cap,aW,aK,h1,h2,h3,h4,h5,by rw[h6,kG];exact bx _,h7,h8⟩
def j9.rv(h:j9 z T Tc o k kc w v xs):Rv (In o [k,kc]) w v xs:=h.ow.rv
def j9.one(h:j9 z T Tc o k kc w v xs):v.oneCell'=ab:=h.ow.one
def X7(o:cB)(k:Nat)(w:ay)(pa:Addr)(u:ah):Prop:=o pa.block=k∧w.cell? pa=aa u
def ss(aW:Array ah)(q:Nat)(v':ah):Array ah:=(aW.toList.take q++[v']++aW.toList.drop (q+1)).toArray
def zi(z:Nat)(T Tc:aY)(o:cB)(k kc:Nat)(w:ay)(v:ah)(xs:List α)(pq:Addr)(v':ah):Prop:=∃g q aW,pq=⟨g,q,ak⟩∧o g=k∧w.heap[g]? =aa (.cells aW T (0,0))∧v'.oneCell'=ab∧q<aW.size∧j9 z T Tc o k kc (w.setRow g (ss aW q v')) v xs
end
def cp.abw{α:Type}{R R':List ah->α->Prop}:∀{cs:List (List ah)} {xs:List α},(∀c∈cs,∀x,R c x->R' c x)->cp R cs xs->cp R' cs xs
 |[],[],_,_=>trivial
 |_::_,_::_,hr,h=>⟨hr _ (by simp) _ h.1,cp.abw (λc hc=>hr c (by simp[hc])) h.2⟩
 |[],_::_,_,h=>h.elim
 |_::_,[],_,h=>h.elim
def zK{α:Type}{l:List α}{q:Nat}{x:α}(h:q<l.length):l.take q++[x]++l.drop (q+1)=l.set q x:=by rw[List.set_eq_take_append_cons_drop,aH h];simp
def Nm{z:Nat}{aK:List (List ah)}(hz:∀c∈aK,c.length=z){j off:Nat}{c:List ah}(hc:aK[j]? =aa c)(ho:off<z)(v:ah):
  (aK.set j (c.take off++[v]++c.drop (off+1))).flatten=aK.flatten.set (j*z+off) v:=by
 have c_:c.length=z:=hz c (oW hc)
 rw[zK (by omega)]
 induction aK generalizing j with
 |nil=>simp at hc
 |cons b aK ih=>
  have hb:b.length=z:=hz b (by simp)
  cases j with
  |zero=>
   have:b=c:=by simpa using hc
   subst this
   simp only[List.set_cons_zero,oZ,Nat.zero_mul,kG]
   rw[List.set_append_left _ _ (by omega)]
  |succ j=>
   have e1:(j+1)*z+off=b.length+(j*z+off):=by rw[hb,qW];omega
   simp only[List.set_cons_succ,oZ,e1]
   rw[List.set_append_right _ _ (by omega),B4,ih (λc hc=>hz c (by simp[hc])) (by simpa using hc)]
def cJ(o:cB)(n:Nat):∃kx,∀b,b<n->o b<kx:=by
 induction n with
 |zero=>exact⟨0,λb h=>by omega⟩
 |succ n ih=>
  obtain⟨kx,h⟩:=ih;refine⟨kx+o n+1,λb hb=>?_⟩;by_cases e:b=n
  ·subst e;omega
  ·have:=h b (by omega);omega
section
variable {α β:Type} [ad α] [ad β]
variable {P:Program} {Q:Exit->Act->ay->Prop} {L:List (Nat×ah)} {w:ay} {d:Option Tmp} {ty:aY} {pos:String} {af:Array Edge} {g:Option (Nat×Bool)} {t T e:aY} {o:cB} {k kc:Nat}
structure kA(off:Nat)(f:α->List β)(st:α->List β->α):Prop where
 Db:∀{S:Nat->Prop} {w:ay} {cs:List ah} {x:α},ad.rd S w cs x->∃c1 c c2,cs=c1++c++c2∧c1.length=off∧ad.rd S w c (f x)
 set:aCK off st
 two:∀x a b,st (st x a) b=st x b
def aoW [nt α][Flat β]{f:α->List β}{st:α->List β->α}{off:Nat}{v u vx:ah}{xs zs:List α}{y:α}{ys l':List β}{j:Int}{pa:Addr}(hF:kA off f st)(hu:P.underlying t=aa (.slice e))(hT:bO P e β)
  (ho:j9 (ad.sz β) T e o k kc w v xs) (hE:Fs v (ad.sz α) j pa) (hc:X7 o k w (pa.add off) u) (hy:idx xs j=aa y) {S:Nat->Prop} (hx:fD S w vx ys) (hz:bG (f y) ys=aa l') (hs:di xs j (st y l')=aa zs) (hk:Nat.beq k kc=false):
  ∃v' w' o',(dN.append_ #[t,t] ty #[u,vx]).run P w= .ok v' w'∧bP [kc] [kc] o w o' w'∧zi (ad.sz β) T e o' k kc w' v zs (pa.add off) v':=by
 have uf:k≠kc:=λe=>by subst e;simp at hk
 unfold idx at hy
 split at hy
 case isFalse=>cases hy
 rename_i h0
 have aV:j.toNat<xs.length:=(gK.1 hy).1
 unfold di at hs
 split at hs
 case isFalse=>cases hs
 cases hs
 rcases ho with⟨rfl,rfl⟩|⟨gg,cap,aW,aK,rfl,h2,h3,h4,h5,h6,h7,h8,h9,oH⟩
 ·simp at aV
 obtain⟨a,m,yZ,hv,rfl⟩:=hE
 have ha:a=⟨gg,0,ak⟩:=by have:=iq (λv=>match v with|Value.slice (aa a) _ _=>a|_=>(⟨0,0,ak⟩:Addr)) hv;simpa using this.symm
 subst ha
 obtain⟨c,ij,kq⟩:=h7.get hy
 have eM:=h7.pd
 have c_:c.length=ad.sz α:=ad.len kq
 have jX:((⟨gg,0,ak⟩:Addr).add (j.toNat*ad.sz α)).add off=⟨gg,j.toNat*ad.sz α+off,ak⟩:=by rw[E5];unfold Addr.add;split<;>simp_all
 rw[jX]at hc⊢
 obtain⟨c1,cc,c2,qC,DZ,sF⟩:=hF.Db kq
 obtain⟨p0,Ir,rfl,r1,r2,r3⟩:=sF
 have AT:off<ad.sz α:=by rw[<-c_,qC];simp;omega
 have auP:c[off]? =aa (.slice p0 (f y).length Ir):=by rw[qC,ed,List.getElem?_append_right (by omega),DZ];simp
 have M_:aK.flatten[j.toNat*ad.sz α+off]? =aa (.slice p0 (f y).length Ir):=Nn eM ij auP
 have eJ:=qG h7
 have hmul:(j.toNat+1)*ad.sz α<=xs.length*ad.sz α:=mj _ aV
 have atL:xs.length*ad.sz α<=cap*ad.sz α:=mj _ h4
 rw[qW]at hmul
 generalize hq:j.toNat*ad.sz α+off=q at*
 have MH:q<aK.flatten.length:=by omega
 have hqc:q<aW.size:=by omega
 have MA:u= .slice p0 (f y).length Ir:=by
  have e1:=hc.2;rw[cell_of_row w gg q aW T (0,0) h3]at e1;have e2:aK.flatten[q]? =aW.toList[q]? :=by rw[<-h8,ml,aH (by omega)]
  rw[M_]at e2;simp only[Array.getElem?_toList]at e2;rw[e1]at e2;exact(jP e2).symm
 have yI:=h9 _ (oW M_)
 obtain⟨kx,HA⟩:=cJ o (w.heap.size+gg+1)
 have DT:gg<w.heap.size:=(jB.1 h3).1
 have key:∃(gs:Option Nat) (ox:cB),(∀b,ox b=if aa b=gs then kx else o b)∧(∀b,gs=aa b->b<w.heap.size∧o b=kc)∧Ow e ox kx [] w u (f y)∧(∀b,gs=aa b->∃p,p0=aa p∧p.block=b):=by
  rcases yI _ _ _ rfl with⟨e1,e2,e3⟩|⟨g',f',Ey,e1,e2,e3,e4,e5,e6⟩
  ·subst e1;refine⟨ak,o,?_,?_,?_,?_⟩
   ·intro b;simp
   ·intro b h;cases h
   ·exact .inl ⟨by rw[MA,e2,e3],zn e2⟩
   ·intro b h;cases h
  ·subst e1;refine⟨aa g',λb=>if aa b=aa g' then kx else o b,?_,?_,.inr ?_,?_⟩
   ·intro b;rfl
   ·intro b h;cases h;exact⟨(jB.1 e3).1,e2⟩
   rotate_left
   ·intro b h;exact⟨⟨g',f',ak⟩,rfl,jP h⟩
   have ja:∃kY,cp (ad.rd (In (λb=>if aa b=aa g' then kx else o b) []) w) kY (f y)∧(Ey.toList.drop f').take ((f y).length*ad.sz β)=kY.flatten:=by
    rcases r3 with r3|⟨a,kY,r4,r5,r6,r7⟩
    ·rw[r3];exact⟨[],trivial,by simp⟩
    ·cases r4;refine⟨kY,r6.mono λ_ _=>Flat.any,?_⟩;have pE:=qG r6;have hle:(f y).length*ad.sz β<=Ir*ad.sz β:=mj _ e4;apply xz;intro i;by_cases hi:i<kY.flatten.length
     ·have e7:kY.flatten[i]? =aa kY.flatten[i]:=nZ hi;have e8:=r7 i _ e7;rw[jL,cell_of_row w g' (f'+i) Ey e (0,0) e3]at e8;rw[ml,aH (by omega),e7];simpa using e8
     ·rw[List.getElem?_eq_none (by simp;omega),List.getElem?_eq_none (by omega)]
   obtain⟨kY,UE,UC⟩:=ja;exact⟨g',f',Ir,Ey,kY,MA,by simp,e3,r1,r2,e6,UE,UC⟩
 obtain⟨gs,ox,hox,DS,kn,TV⟩:=key
 have hxE:fD (In ox []) w vx ys:=hx.flat
 obtain⟨v',w',o1,fy,b7,AP⟩:=aaq (P:=P) (ty:=ty) hu hT kn hxE hz (by simp[ni])
 have aC9:=b7.size
 have ade:∀b,b<w.heap.size->ox b=kx->gs=aa b:=by
  intro b hb h;rw[hox]at h;split at h
  ·rename_i h';exact h'.symm
  ·have:=HA b (by omega);omega
 have A6:∀b,b<w.heap.size->gs≠aa b->w'.heap[b]? =w.heap[b]? :=λb hb bR=>b7.rR b hb λhm=>bR (ade b hb (by simpa using hm))
 have auy:bP [kc] [kc] o w (grow o w kc) w':=⟨b7.os,b7.tape,b7.output,b7.size,λb hb=>by simp[grow,hb],λb h1 _=>by simp[grow,Nat.not_lt.2 h1],λb hb bR=>A6 b hb λh=>bR (by simp[(DS b h).2])⟩
 have hgg:gs≠aa gg:=λh=>uf (h2.symm.trans (DS gg h).2)
 have ac1:w'.heap[gg]? =aa (.cells aW T (0,0)):=by rw[A6 gg DT hgg];exact h3
 have DL:∀b,b<w'.heap.size->o1 b=kx->gs=aa b∨w.heap.size<=b:=by
  intro b hb h;by_cases aV:b<w.heap.size
  ·rw[b7.gY b aV]at h;exact .inl (ade b aV h)
  ·exact .inr (by omega)
 have qy:∀b,b<w'.heap.size->(gs=aa b∨w.heap.size<=b)->grow o w kc b=kc∧b≠gg:=by
  intro b _ h;rcases h with h|h
  ·exact⟨by simp[grow,(DS b h).1,(DS b h).2],λe=>hgg (e▸h)⟩
  ·exact⟨by simp[grow,Nat.not_lt.2 h],by omega⟩
 have fR:∀b,b≠gg->(w'.setRow gg (ss aW q v')).heap[b]? =w'.heap[b]? :=λb hb=>setRow_other w' gg b _ hb
 have mE:=AP.one
 have TW:∀i p n cc,i≠q->aK.flatten[i]? =aa (.slice (aa p) n cc)->gs≠aa p.block:=by intro i p n cc oG iy Uk;obtain⟨p1,hp,D8⟩:=TV _ Uk;rw[hp]at M_;exact oG (oH _ _ _ _ _ _ _ _ M_ iy D8).symm
 refine⟨v',w',grow o w kc,fy,auy,gg,q,aW,rfl,by simp[grow,DT,h2],ac1,mE,hqc,.inr ⟨gg,cap,ss aW q v',aK.set j.toNat (c.take off++[v']++c.drop (off+1)),by simp,by simp[grow,DT,h2],setRow_heap w' gg aW _ T _ ac1,by simpa using h4,h5,?_,?_,?_,?_,?_⟩⟩
 ·simp[ss];omega
 ·
  have Hq:ad.rd (In o [kc]) w [.slice ak 0 0] ([]:List β):=ad.ga (α:=List β) _ _
  have Bc:cp (ad.rd (In o [kc]) w) (aK.set j.toNat (c.take off++[.slice ak 0 0]++c.drop (off+1))) (xs.set j.toNat (st y [])):=cp.set h7 j.toNat (by have:=hF.set kq Hq;simpa using this)
  have adL:=Nm eM ij AT (.slice ak 0 0)
  rw[hq]at adL
  have pG:cp (ad.rd (In (grow o w kc) [kc]) (w'.setRow gg (ss aW q v'))) (aK.set j.toNat (c.take off++[.slice ak 0 0]++c.drop (off+1))) (xs.set j.toNat (st y [])):=by
   refine cp.abw (λcs ja x hr=>ad.mono ?_ (nt.loc hr)) Bc;rintro b ⟨hb,p,n,cc,hm,rfl⟩ AY;have hbk:o p.block=kc:=by simpa[In]using hb
   have bR:gs≠aa p.block:=by
    intro Uk;have T5:ah.slice (aa p) n cc∈aK.flatten.set q (.slice ak 0 0):=adL▸List.mem_flatten.2 ⟨cs,ja,hm⟩;obtain⟨i,gw,ep⟩:=Fz T5;have iy:(aK.flatten.set q (.slice ak 0 0))[i]? =aa (.slice (aa p) n cc):=by rw[nZ gw,ep]
    by_cases oG:q=i
    ·subst oG;rw[oY,aH rfl,aH MH]at iy;simp at iy
    ·rw[oY,aL oG]at iy;exact TW i p n cc (λe=>oG e.symm) iy Uk
   refine⟨by simp[In,grow,AY,hbk],?_⟩;rw[fR _ (λe=>uf (by rw[<-h2,<-e,hbk])),A6 _ AY bR]
  have aDf:j.toNat<(xs.set j.toNat (st y [])).length:=by simpa using aV
  obtain⟨cs0,adT,UE⟩:=pG.get (i:=j.toNat) (x:=st y []) (by simp[aV])
  have Ue:j.toNat<aK.length:=by rw[h7.length];exact aV
  have UC:cs0=c.take off++[.slice ak 0 0]++c.drop (off+1):=by rw[oY,aH rfl,aH Ue]at adT;exact(jP adT).symm
  have atd:ad.rd (In (grow o w kc) [kc]) (w'.setRow gg (ss aW q v')) [v'] l':=by
   refine ad.mono ?_ (Rv.R3 AP.rv rfl);intro b hb AY;have iC:o1 b=kx:=by simpa[In]using hb
   obtain⟨e1,e2⟩:=qy b AY (DL b AY iC);exact⟨by simp[In,e1],fR b e2⟩
  have jH:=cp.set pG j.toNat (hF.set UE atd)
  rw[List.set_set,List.set_set,hF.two,UC]at jH
  have e1:List.take off (c.take off++[ah.slice ak 0 0]++c.drop (off+1))++[v']++List.drop (off+[v'].length) (c.take off++[ah.slice ak 0 0]++c.drop (off+1))=c.take off++[v']++c.drop (off+1):=by rw[show off+[v'].length=off+1 from rfl,zK (l:=c) (by omega),zK (l:=c) (by omega),zK (by simp;omega),List.set_set]
  rw[e1]at jH
  exact jH
 ·rw[List.length_set];have:=Nm eM ij AT v';rw[hq]at this;rw[this];have rI:q<aW.toList.length:=by simpa using hqc
  show(aW.toList.take q++[v']++aW.toList.drop (q+1)).take (xs.length*ad.sz α)=_;rw[zK rI,<-h8,List.take_set]
 ·have:=Nm eM ij AT v';rw[hq]at this;rw[this];intro u1 hu1 p n cc e7;obtain⟨i,gw,ep⟩:=Fz hu1;have iy:(aK.flatten.set q v')[i]? =aa u1:=by rw[nZ gw,ep]
  by_cases oG:q=i
  case neg=>
   rw[oY,aL oG]at iy;rcases h9 u1 (oW iy) p n cc e7 with h|⟨g1,f1,NV,i1,i2,i3,i4⟩
   ·exact .inl h
   ·subst i1;rw[e7]at iy;have bR:=TW i _ _ _ (λe=>oG e.symm) iy;have yE:=(jB.1 i3).1;exact .inr ⟨g1,f1,NV,rfl,by simp[grow,yE,i2],by rw[fR g1 (λe=>uf (by rw[<-h2,<-e,i2])),A6 g1 yE bR];exact i3,i4⟩
  case pos=>
   subst oG;rw[oY,aH rfl,aH MH]at iy;obtain rfl:=jP iy;rcases AP with⟨hn,_⟩|⟨g1,f1,ayi,NV,axS,i1,i2,i3,i4,i5,i6,i7,i8⟩
   ·rw[hn]at e7;cases e7;exact .inl ⟨rfl,rfl,rfl⟩
   ·rw[i1]at e7;cases e7;have yE:=(jB.1 i3).1;obtain⟨e1,e2⟩:=qy g1 yE (DL g1 yE i2);exact .inr ⟨g1,f1,NV,rfl,e1,by rw[fR g1 e2];exact i3,i4,i5,i6⟩
 ·have:=Nm eM ij AT v';rw[hq]at this;rw[this];have hvq:∀i p n cc,i≠q->aK.flatten[i]? =aa (.slice (aa p) n cc)->∀p' n' c',v'= .slice (aa p') n' c'->p.block≠p'.block:=by
   intro i p n cc oG hi p' n' c' e7 Hm;have bR:=TW i p n cc oG hi;rcases h9 _ (oW hi) p n cc rfl with⟨e1,_⟩|⟨g2,f2,aDC,e1,e2,e3,_⟩
   ·cases e1
   ·cases e1;have hg2:=(jB.1 e3).1;rcases AP with⟨hn,_⟩|⟨g1,f1,ayi,NV,axS,i1,i2,i3,_⟩
    ·rw[hn]at e7;cases e7
    ·rw[i1]at e7;cases e7;have atq:g2=g1:=Hm;subst atq;rcases DL g2 (jB.1 i3).1 i2 with h|h
     ·exact bR h
     ·omega
  intro i j' p p' n n' c' d' hi hj Hm;by_cases oG:q=i
  ·by_cases HE:q=j'
   ·omega
   ·subst oG;rw[oY,aL HE]at hj;rw[oY,aH rfl,aH MH]at hi;exact(hvq j' _ _ _ (λe=>HE e.symm) hj _ _ _ (jP hi) Hm.symm).elim
  ·by_cases HE:q=j'
   ·subst HE;rw[oY,aL oG]at hi;rw[oY,aH rfl,aH MH]at hj;exact(hvq i _ _ _ (λe=>oG e.symm) hi _ _ _ (jP hj) Hm).elim
   ·rw[oY,aL oG]at hi;rw[oY,aL HE]at hj;exact oH _ _ _ _ _ _ _ _ hi hj Hm
end
def j9.mono{α:Type}[ad α]{z:Nat}{T Tc:aY}{o o':cB}{k kc k' Dv:Nat}{w w':ay}{v:ah}{xs:List α}(hk:∀b,b<w.heap.size->o b=k->o' b=k'∧w'.heap[b]? =w.heap[b]?)(hc:∀b,b<w.heap.size->o b=kc->o' b=Dv∧w'.heap[b]? =w.heap[b]?)(h:j9 z T Tc o k kc w v xs):j9 z T Tc o' k' Dv w' v xs:=by
 rcases h with h|⟨g,cap,aW,aK,h1,h2,h3,h4,h5,h6,h7,h8,h9,oH⟩
 ·exact .inl h
 ·obtain⟨e1,e2⟩:=hk g (jB.1 h3).1 h2;refine .inr ⟨g,cap,aW,aK,h1,e1,by rw[e2];exact h3,h4,h5,h6,h7.mono λ_ _=>ad.mono λb hb aV=>?_,h8,λu hu p n c e=>?_,oH⟩
  ·have hb:o b=kc:=by simpa[In]using hb
   obtain⟨f1,f2⟩:=hc b aV hb;exact⟨by simp[In,f1],f2⟩
  ·rcases h9 u hu p n c e with h|⟨g',f',Ey,i1,i2,i3,i4⟩
   ·exact .inl h
   ·obtain⟨f1,f2⟩:=hc g' (jB.1 i3).1 i2;exact .inr ⟨g',f',Ey,i1,f1,by rw[f2];exact i3,i4⟩
def zi.mono{α:Type}[ad α]{z:Nat}{T Tc:aY}{o o':cB}{k kc k' Dv:Nat}{w w':ay}{v u:ah}{xs:List α}{pq:Addr}(hk:∀b,b<w.heap.size->o b=k->o' b=k'∧w'.heap[b]? =w.heap[b]?)(hc:∀b,b<w.heap.size->o b=kc->o' b=Dv∧w'.heap[b]? =w.heap[b]?)(h:zi z T Tc o k kc w v xs pq u):zi z T Tc o' k' Dv w' v xs pq u:=by
 obtain⟨g,q,aW,h1,h2,h3,h4,h5,h6⟩:=h;obtain⟨e1,e2⟩:=hk g (jB.1 h3).1 h2;have D6:w'.heap[g]? =aa (.cells aW T (0,0)):=by rw[e2];exact h3
 have key:∀{c c':Nat},(∀b,b<w.heap.size->o b=c->o' b=c'∧w'.heap[b]? =w.heap[b]?)->∀b,b<(w.setRow g (ss aW q u)).heap.size->o b=c->o' b=c'∧(w'.setRow g (ss aW q u)).heap[b]? =(w.setRow g (ss aW q u)).heap[b]? :=by
  intro c c' h b hb hoc;obtain⟨f1,f2⟩:=h b (by simpa using hb) hoc;refine⟨f1,?_⟩;by_cases UL:b=g
  ·subst UL;rw[setRow_heap w b aW _ T (0,0) h3,setRow_heap w' b aW _ T (0,0) D6]
  ·rw[setRow_other w' g b _ UL,setRow_other w g b _ UL];exact f2
 exact⟨g,q,aW,h1,e1,D6,h4,h5,h6.mono (key hk) (key hc)⟩
section
variable {α β:Type} [ad α] [ad β]
variable {P:Program} {Q:Exit->Act->ay->Prop} {L:List (Nat×ah)} {w:ay} {d:Option Tmp} {ty:aY} {pos:String} {af:Array Edge} {g:Option (Nat×Bool)} {t T e Tc:aY} {o:cB} {k kc z:Nat} {K:List Nat}
def OW.aCm [Rd][nt α][Flat β]{s x:a_}{f:α->List β}{st:α->List β->α}{off:Nat}{v u vx:ah}{xs zs:List α}{y:α}{ys l':List β}{j:Int}{pa:Addr}{S:Nat->Prop}(hF:kA off f st)(hu:P.underlying t=aa (.slice e))(hT:bO P e β)(hs:ev L s=aa u)(hx:ev L x=aa vx)
  (ho:j9 (ad.sz β) T e o k kc w v xs) (hE:Fs v (ad.sz α) j pa) (hc:X7 o k w (pa.add off) u) (hy:idx xs j=aa y) (hr:fD S w vx ys) (hz:bG (f y) ys=aa l') (oD:di xs j (st y l')=aa zs) (hk:Nat.beq k kc=false):
  OW P Q L ⟨d,.call {callee:= .builtin .append,args:= #[s,x],argTypes:= #[t,t]},ty,pos,af,g⟩ w (λv' w'=>∃o',bP [kc] [kc] o w o' w'∧zi (ad.sz β) T e o' k kc w' v zs (pa.add off) v'):=by
 obtain⟨v',w',o',h1,h2,h3⟩:=aoW (P:=P) (ty:=ty) hF hu hT ho hE hc hy hr hz oD hk
 refine OW.run λa ha=>⟨v',w',?_,o',h2,h3⟩
 simp[execOp,resolve,invoke,builtin,ha _ _ hs,ha _ _ hx,h1]
def PZ(l:List ah):Bool:=l.all λu=>match u with
 | .slice ak 0 0=>ab
 | .slice _ _ _=>false
 |_=>ab
def Yi{l:List ah}(h:PZ l=ab){p:Option Addr}{n c:Nat}(hm:ah.slice p n c∈l):p=ak∧n=0∧c=0:=by
 have:=List.all_eq_true.1 h _ hm;match p,n,c,this with
 |none,0,0,_=>exact⟨rfl,rfl,rfl⟩
def OW.aq6 [Rd]{u1 u2:a_}{zs:List α}{m:Int}(kc z:Nat)(Tc:aY)(tY:PZ (ad.zc α)=ab)(hu:P.underlying t=aa (.slice e))(hT:bO P e α)(h1:ev L u1=aa (.int .i64 m))(h2:ev L u2=aa (.int .i64 m))(hm:ye α m=aa zs):
  OW P Q L ⟨d,.makeSlice t u1 u2,ty,pos,af,g⟩ w (λv' w'=>∃o',bP [] [k] o w o' w'∧j9 z e Tc o' k kc w' v' zs):=by
 unfold ye at hm
 split at hm
 case isFalse=>cases hm
 rename_i hb
 cases hm
 obtain⟨i,gw,ep,iy,mH⟩:=hT.nG
 have hr:=run_make (P:=P) w t e i _ hu gw mH .i64 .i64 m m hb.1 (by omega) (by
  have h:(i.bytes:Int)<=65536:=by omega
  have h':(i.bytes:Int)*m<=65536*1073741824:=Int.mul_le_mul h hb.2 hb.1 (by omega);omega) (by omega)
 have adK:∀q:Nat,∀u∈(cU q (ad.zc α)).flatten,u∈ad.zc α:=by intro q u hu;obtain⟨l,hl,Hh⟩:=List.mem_flatten.1 hu;rw[List.mem_replicate]at hl;exact hl.2▸Hh
 refine OW.run λa ha=>⟨.slice (aa ⟨w.heap.size,0,ak⟩) m.toNat m.toNat,w.alloc (.cells (madeCells (pack (ad.agg α) (ad.zc α)).cells (m.toNat*i.size)) e),?_,_,bP.alloc o w _ k,.inr ⟨w.heap.size,m.toNat,_,cU m.toNat (ad.zc α),?_,sR o w k _ (bx _),heap_alloc_new w _,by simp,?_,?_,?_,?_,?_,?_⟩⟩
 ·simp[execOp,ha _ _ h1,ha _ _ h2,hr]
 ·simp
 ·unfold maxLen;omega
 ·simp[size_madeCells,ep]
 ·exact cp.replicate (ad.ga _ _) _
 ·have hz:(pack (ad.agg α) (ad.zc α)).cells.toList=ad.zc α:=wM (α:=α) (ad.ga (λ_=>True) w);have gT:(ad.zc α).length=ad.sz α:=ad.len (ad.ga (α:=α) (λ_=>True) w);have sH:=ad.pos (α:=α);generalize hzz:(pack (ad.agg α) (ad.zc α)).cells=z at*;rw[ep];rw[List.length_replicate,xx (by simp[size_madeCells])];unfold madeCells;have iZ:z.size=ad.sz α:=by rw[<-oc,hz,gT]
  have key:∀q:Nat,(bW (q*ad.sz α)).map (z[·% z.size]!)=(cU q (ad.zc α)).flatten:=by
   intro q;induction q with
   |zero=>simp
   |succ q ih=>
    rw[List.replicate_succ',n9,<-ih,qW,List.range_add,q7];cR 1;simp only[List.map_map,List.flatten_singleton];rw[<-hz];apply xz;intro j;by_cases hj:j<ad.sz α
    ·have e1:(q*ad.sz α+j)% z.size=j:=by rw[iZ,Nat.mul_comm,Nat.mul_add_mod,Nat.mod_eq_of_lt hj]
     have nN:j<z.size:=by omega
     simp[hj,e1,nN,getElem!_pos]
    ·simp[hj,iZ]
  simpa using key m.toNat
 ·intro u hu p n c e;subst e;exact .inl (Yi tY (adK _ _ hu))
 ·intro i j p q n m c d hi _ _;have:=Yi tY (adK _ _ (oW hi));cases this.1
def OW.acy [Rd]{v:ah}{xs:List α}{y:α}{u i:a_}{q:IntKind}{j:Int}{a:Addr}{cap:Nat}(hu:P.underlying t=aa (.slice e))(hT:bO P e α)(hx:ev L u=aa v)(h:v= .slice (aa a) xs.length cap)
  (hi:ev L i=aa (.int q j)) (hj:idx xs j=aa y):
  OW P Q L ⟨d,.indexAddr t u i,ty,pos,af,g⟩ w (λv' w'=>w'=w∧v'= .pointer (aa (a.add (j.toNat*ad.sz α)))):=by
 subst h
 unfold idx at hj
 split at hj
 ·rename_i h0;have aV:j.toNat<xs.length:=(gK.1 hj).1;refine OW.run λb hb=>⟨_,w,?_,rfl,rfl⟩;have dj:j<(xs.length:Int):=by omega
  have e1:b.eval u=_:=hb _ _ hx;have e2:b.eval i=_:=hb _ _ hi;simp[execOp,e1,e2,Instr.indexAt,asIntOf,run_underlying hu,h0,dj,hT.sizeOf]
 ·cases hj
def OW.Aq [Rd]{o:a_}{p:Option Addr}{n cap:Nat}(hu:P.underlying t=aa (.slice e))(hx:ev L o=aa (.slice p n cap)):
  OW P Q L ⟨d,.call {callee:= .builtin .len,args:= #[o],argTypes:= #[t]},ty,pos,af,g⟩ w (λv' w'=>v'= .int .i64 n∧w'=w):=by
 refine OW.run λa ha=>⟨_,w,?_,rfl,rfl⟩
 simp[execOp,resolve,invoke,builtin,ha _ _ hx,dN.len_,run_underlying hu,goInt]
def PI(v v':ah)(j:Nat):Prop:=∃p n c,v= .slice p n c∧v'= .slice p j c∧j<=n
def BS(z:Nat)(v v':ah)(j:Nat):Prop:=∃p n c,v= .slice p n c∧v'= .slice (if c=j then p else p.map (·.add (j*z))) (n-j) (c-j)∧j<=n
def afe(z:Array ah)(hp:0<z.size):∀q:Nat,(bW (q*z.size)).map (z[·% z.size]!)=(cU q z.toList).flatten:=by
 intro q;induction q with
 |zero=>simp
 |succ q ih=>
  rw[List.replicate_succ',n9,<-ih,qW,List.range_add,q7];cR 1;simp only[List.map_map,List.flatten_singleton];apply xz;intro j;by_cases hj:j<z.size
  ·have e1:(q*z.size+j)% z.size=j:=by rw[Nat.mul_comm,Nat.mul_add_mod,Nat.mod_eq_of_lt hj]
   simp[hj,e1,getElem!_pos]
  ·simp[hj]
def OW.ayb [Rd]{u:a_}{v v':ah}{j:Nat}{xs:List α}(hu:P.underlying t=aa (.slice e))(hT:bO P e α)(hx:ev L u=aa v')(ho:Ow T o k K w v xs)(ht:BS (ad.sz α) v v' j)(hd:ni K [k]=ab):
  OW P Q L ⟨d,.call {callee:= .builtin .clear,args:= #[u],argTypes:= #[t]},ty,pos,af,g⟩ w (λv0 w'=>v0= .tuple #[]∧bP [k] [] o w o w'∧Ow T o k K w' v (xs.take j++cU (xs.length-j) ad.zero)):=by
 obtain⟨p,m,c,h1,rfl,hj⟩:=ht
 by_cases he:m-j=0
 ·have hm:m=xs.length:=by
   rcases ho with⟨rfl,rfl⟩|⟨gg,f,cap,aW,aK,rfl,_⟩
   ·cases h1;rfl
   ·cases h1;rfl
  have eH:xs.take j++cU (xs.length-j) ad.zero=xs:=by rw[show xs.length-j=0 from by omega,List.replicate_zero,pU,xx (by omega)]
  rw[eH];refine OW.run λa ha=>⟨.tuple #[],w,?_,rfl,bP.refl _ _ _ _,ho⟩;have e0:(dN.clear_ #[t] ty #[ah.slice (if c=j then p else p.map (·.add (j*ad.sz α))) (m-j) (c-j)]).run P w= .ok (.tuple #[]) w:=by rw[he];cases(if c=j then p else p.map (·.add (j*ad.sz α)))<;>simp[dN.clear_,run_underlying hu]
  simp[execOp,resolve,invoke,builtin,ha _ _ hx,e0]
 ·rcases ho with⟨rfl,rfl⟩|⟨gg,f,cap,aW,aK,rfl,h2,h3,h4,h5,h6,h7,h8⟩
  ·cases h1;omega
  ·cases h1;obtain⟨i,gw,ep,iy,mH⟩:=hT.nG;have yH:¬c=j:=by omega
   have jX:(⟨gg,f,ak⟩:Addr).add (j*ad.sz α)=⟨gg,f+j*ad.sz α,ak⟩:=jL _ _ _;have UA:aW.toList.length=aW.size:=oc;have hz:(pack (ad.agg α) (ad.zc α)).cells.toList=ad.zc α:=wM (α:=α) (ad.ga (λ_=>True) w);have gT:(ad.zc α).length=ad.sz α:=ad.len (ad.ga (α:=α) (λ_=>True) w);have iZ:(pack (ad.agg α) (ad.zc α)).cells.size=ad.sz α:=by rw[<-oc,hz,gT]
   have tY:(dN.zeroCells (pack (ad.agg α) (ad.zc α)).cells (xs.length-j)).toList=(cU (xs.length-j) (ad.zc α)).flatten:=by have:=afe (pack (ad.agg α) (ad.zc α)).cells (by rw[iZ];exact ad.pos) (xs.length-j);rw[hz]at this;rw[<-this];simp[dN.zeroCells]
   have eJ:=qG h7;have hmul:xs.length*ad.sz α<=c*ad.sz α:=mj _ h4;have MD:(xs.length-j)*ad.sz α=xs.length*ad.sz α-j*ad.sz α:=Nat.sub_mul _ _ _;have hjm:j*ad.sz α<=xs.length*ad.sz α:=mj _ hj;have l8:(cU (xs.length-j) (ad.zc α)).flatten.length=(xs.length-j)*ad.sz α:=by simp[gT]
   have mE:∀u∈(cU (xs.length-j) (ad.zc α)).flatten,u.oneCell'=ab:=by intro u hu;obtain⟨l,hl,Hh⟩:=List.mem_flatten.1 hu;rw[List.mem_replicate]at hl;exact ad.one (ad.ga (α:=α) (λ_=>True) w) u (hl.2▸Hh)
   have bV:=run_storeCells_at P gg (f+j*ad.sz α) T (cU (xs.length-j) (ad.zc α)).flatten 0 aW w h3 (by omega) mE;simp only[Nat.add_zero]at bV;have b7:bP [k] [] o w o (w.setRow gg (aW.toList.take (f+j*ad.sz α)++(cU (xs.length-j) (ad.zc α)).flatten++aW.toList.drop (f+j*ad.sz α+(cU (xs.length-j) (ad.zc α)).flatten.length)).toArray):=bP.row _ h2;have hlen:(xs.take j++cU (xs.length-j) (ad.zero:α)).length=xs.length:=by simp;omega
   refine OW.run λa ha=>⟨.tuple #[],_,?_,rfl,b7,.inr ⟨gg,f,c,_,aK.take j++cU (xs.length-j) (ad.zc α),by rw[hlen],h2,setRow_heap w gg aW _ T _ h3,by rw[hlen];exact h4,h5,?_,?_,?_⟩⟩
   ·have e0:(dN.clear_ #[t] ty #[ah.slice (aa ⟨gg,f+j*ad.sz α,ak⟩) (xs.length-j) (c-j)]).run P w= .ok (.tuple #[]) (w.setRow gg (aW.toList.take (f+j*ad.sz α)++(cU (xs.length-j) (ad.zc α)).flatten++aW.toList.drop (f+j*ad.sz α+(cU (xs.length-j) (ad.zc α)).flatten.length)).toArray):=by
     obtain⟨q,hq⟩:∃q,xs.length-j=q+1:=⟨xs.length-j-1,by omega⟩;rw[hq]at bV tY⊢;simp[dN.clear_,run_underlying hu,hT.zero,tY,bV]
    simp[execOp,resolve,invoke,builtin,ha _ _ hx,yH,jX,e0]
   ·simp[gT];omega
   ·exact cp.append ((h7.take j).mono λ_ _=>ad.mono (b7.ro hd)) (cp.replicate (ad.ga _ _) _)
   ·rw[hlen,n9,Bn h7.pd,<-h8,List.take_take,Nat.min_eq_left hjm];show((aW.toList.take (f+j*ad.sz α)++(cU (xs.length-j) (ad.zc α)).flatten++aW.toList.drop _).drop f).take _=_;rw[ed,Yb (by rw[oX];omega),List.drop_take,B4,<-ed];rw[List.take_append_of_le_length (by simp[gT];omega),xx (by simp[gT];omega)]
def OW.axW [Rd]{x y:a_}{v v' u:ah}{j:Nat}{xs ys:List α}(hu:P.underlying t=aa (.slice e))(hT:bO P e α)(hx:ev L x=aa v')(hy:ev L y=aa u)(ho:Ow T o k K w v xs)(ht:BS (ad.sz α) v v' j)(hr:fD (In o K) w u ys)(hd:ni K [k]=ab):
  OW P Q L ⟨d,.call {callee:= .builtin .copy,args:= #[x,y],argTypes:= #[t,t]},ty,pos,af,g⟩ w (λv0 w'=>v0= .int .i64 ((Min.min ys.length (xs.length-j):Nat):Int)∧bP [k] [] o w o w'∧Ow T o k K w' v (xs.take j++(ys.take (xs.length-j)++xs.drop (j+ys.length)))):=by
 obtain⟨p,m,c,h1,rfl,hj⟩:=ht
 obtain⟨q,cy,rfl,tZ⟩:=hr
 have hm:m=xs.length:=by
  rcases ho with⟨rfl,rfl⟩|⟨gg,f,cap,aW,aK,rfl,_⟩
  ·cases h1;rfl
  ·cases h1;rfl
 subst hm
 obtain⟨i,gw,ep,iy,mH⟩:=hT.nG
 by_cases he:Min.min ys.length (xs.length-j)=0
 ·have eH:xs.take j++(ys.take (xs.length-j)++xs.drop (j+ys.length))=xs:=by
   rcases Nat.eq_zero_or_pos ys.length with h0|h0
   ·have:ys=[]:=zn h0;subst this;simp
   ·rw[show xs.length-j=0 from by omega,List.take_zero,List.nil_append,akF (by omega),pU,xx (by omega)]
  rw[eH,he];refine OW.run λa ha=>⟨_,w,?_,rfl,bP.refl _ _ _ _,ho⟩;have yA:Nat.min ys.length (xs.length-j)=0:=he;have e0:(dN.copy_ #[t,t] ty #[ah.slice (if c=j then p else p.map (·.add (j*ad.sz α))) (xs.length-j) (c-j),ah.slice q ys.length cy]).run P w= .ok (.int .i64 0) w:=by cases(if c=j then p else p.map (·.add (j*ad.sz α)))<;>cases q<;>simp[dN.copy_,run_underlying hu,sizeOf,typeInfo,gw,dN.lenOf,dN.firstCells,loadCells,loadCellsFrom,storeCells,yA,goInt]
  simp[execOp,resolve,invoke,builtin,ha _ _ hx,ha _ _ hy,e0]
 ·rcases ho with⟨rfl,rfl⟩|⟨gg,f,cap,aW,aK,rfl,h2,h3,h4,h5,h6,h7,h8⟩
  ·simp at he
  ·cases h1;rcases tZ with rfl|⟨a,oM,rfl,rz,py⟩
   ·simp at he
   obtain⟨n,hn⟩:∃n,n=Min.min ys.length (xs.length-j):=⟨_,rfl⟩;have yH:¬c=j:=by omega
   have jX:(⟨gg,f,ak⟩:Addr).add (j*ad.sz α)=⟨gg,f+j*ad.sz α,ak⟩:=jL _ _ _;have UA:aW.toList.length=aW.size:=oc;have eJ:=qG h7;have DD:(oM.take n).flatten=oM.flatten.take (n*ad.sz α):=Bn rz.pd n;have hfy:=qG rz;have hny:n*ad.sz α<=ys.length*ad.sz α:=mj _ (by omega);have ud:(j+n)*ad.sz α<=xs.length*ad.sz α:=mj _ (by omega);have hmul:xs.length*ad.sz α<=c*ad.sz α:=mj _ h4;rw[iT]at ud;have hlen:(oM.take n).flatten.length=n*ad.sz α:=by rw[DD,oX];omega
   have mE:∀u∈(oM.take n).flatten,u.oneCell'=ab:=λu hu=>by rw[DD]at hu;exact Ae rz u (List.mem_of_mem_take hu)
   have hf:=run_firstCells_some (P:=P) w i.size n a ys.length cy (oM.take n).flatten (by rw[hlen,ep]) (λz u hz=>py z u (by
    rw[DD,ml]at hz;split at hz
    ·exact hz
    ·cases hz))
   have bV:=run_storeCells_at P gg (f+j*ad.sz α) T (oM.take n).flatten 0 aW w h3 (by omega) mE;simp only[Nat.add_zero]at bV;have b7:bP [k] [] o w o (w.setRow gg (aW.toList.take (f+j*ad.sz α)++(oM.take n).flatten++aW.toList.drop (f+j*ad.sz α+(oM.take n).flatten.length)).toArray):=bP.row _ h2;have e1:xs.take j++(ys.take (xs.length-j)++xs.drop (j+ys.length))=xs.take j++(ys.take n++xs.drop (j+n)):=by
    cR 1;rcases Nat.le_total ys.length (xs.length-j)with hle|hle
    ·rw[show n=ys.length by omega,xx hle,xx (bx _)]
    ·rw[show n=xs.length-j by omega,akF (by omega),akF (by omega)]
   have A3:(xs.take j++(ys.take n++xs.drop (j+n))).length=xs.length:=by simp;omega
   rw[e1,<-hn];refine OW.run λa' ha=>⟨goInt n,_,?_,rfl,b7,.inr ⟨gg,f,c,_,aK.take j++(oM.take n++aK.drop (j+n)),by rw[A3],h2,setRow_heap w gg aW _ T _ h3,by rw[A3];exact h4,h5,?_,?_,?_⟩⟩
   ·have yA:Nat.min ys.length (xs.length-j)=n:=hn.symm;simp[execOp,resolve,invoke,builtin,ha _ _ hx,ha _ _ hy,dN.copy_,run_underlying hu,sizeOf,typeInfo,gw,dN.lenOf,yA,yH,jX,hf,bV]
   ·simp[hlen];omega
   ·exact cp.append ((h7.take j).mono λ_ _=>ad.mono (b7.ro hd)) (cp.append ((rz.take n).mono λ_ _=>ad.mono (b7.ro hd)) ((h7.drop (j+n)).mono λ_ _=>ad.mono (b7.ro hd)))
   ·rw[A3,n9,n9,Bn h7.pd,D9 h7.pd];have:=ZU (A:=aW.toList.drop f) (c:=(oM.take n).flatten) (m:=j*ad.sz α) (N:=xs.length*ad.sz α) (by rw[hlen];omega) (by rw[List.length_drop];omega);show((aW.toList.take (f+j*ad.sz α)++(oM.take n).flatten++aW.toList.drop (f+j*ad.sz α+(oM.take n).flatten.length)).drop f).take _=_;have e0:(aW.toList.take (f+j*ad.sz α)++(oM.take n).flatten++aW.toList.drop (f+j*ad.sz α+(oM.take n).flatten.length)).drop f=(aW.toList.drop f).take (j*ad.sz α)++(oM.take n).flatten++(aW.toList.drop f).drop (j*ad.sz α+(oM.take n).flatten.length):=by rw[ed,Yb (by rw[oX];omega),List.drop_take,B4,ed,List.drop_drop,Nat.add_assoc]
    rw[e0,this,h8,hlen,<-iT,ed]
