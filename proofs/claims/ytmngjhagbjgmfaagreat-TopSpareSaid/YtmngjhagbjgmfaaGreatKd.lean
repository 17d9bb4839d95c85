import Derived.Test.YtmngjhagbjgmfaaGreatDv
set_option linter.all false
open Array renaming getElem?_eq_some_iff->jx,length_toList->nZ
open Bool renaming true->ab
open Go renaming Builtin->dL,Operand->aZ,TypeId->aX,Value->ah,World->ax
open List renaming append_assoc->d_,append_nil->pR,drop_append_of_le_length->X9,drop_of_length_le->akB,eq_nil_of_length_eq_zero->zj,ext_getElem?->xv,flatten_append->nX,flatten_cons->oW,getElem?_eq_getElem->nW,getElem?_eq_some_iff->gH,getElem?_set->oV,getElem?_take->mh,getElem_of_mem->Fv,length_take->oU,map_append->qW,mem_of_getElem?->oT,range->bV,replicate->cR,take_of_length_le->xt
open Nat renaming add_mul->iQ,add_sub_cancel_left->BZ,le_refl->bw,mul_le_mul_right->mg,succ_mul->qT,zero_add->kD
open Option renaming some->aa
open Option.some renaming inj->jM
namespace Go.Proofs.YtmngjhagbjgmfaaGreat
open Go Go.RowKit
namespace Dp
class nq(α:Type)[ad α]:Prop where
 loc:∀{S:Nat->Prop} {w:ax} {cs:List ah} {x:α},ad.rd S w cs x->ad.rd (λb=>S b∧∃p n c,ah.slice (aa p) n c∈cs∧p.block=b) w cs x
instance:nq Int:=⟨λh=>h⟩
instance:nq Bool:=⟨λh=>h⟩
instance:nq ByteArray:=⟨λh=>h⟩
instance:nq U8:=⟨λh=>h⟩
instance{β:Type}[ad β][Flat β]:nq (List β):=⟨by
 rintro S w cs x ⟨p,cap,rfl,h1,h2,h3⟩;refine⟨p,cap,rfl,h1,h2,?_⟩;rcases h3 with h3|⟨a,aJ,rfl,h4,h5,h6⟩
 ·exact .inl h3
 ·exact .inr ⟨a,aJ,rfl,⟨h4,a,x.length,cap,by simp,rfl⟩,h5.mono λ_ _=>Flat.any,h6⟩⟩
instance{α β:Type}[ad α][ad β][nq α][nq β]:nq (α×β):=⟨by
 rintro S w cs x ⟨c1,c2,rfl,h1,h2⟩;refine⟨c1,c2,rfl,ad.mono ?_ (nq.loc h1),ad.mono ?_ (nq.loc h2)⟩
 ·rintro b ⟨hb,p,n,c,hm,e⟩ _;exact⟨⟨hb,p,n,c,List.mem_append_left _ hm,e⟩,rfl⟩
 ·rintro b ⟨hb,p,n,c,hm,e⟩ _;exact⟨⟨hb,p,n,c,List.mem_append_right _ hm,e⟩,rfl⟩⟩
def aCK(z:Nat)(Tc:aX)(o:cA)(kc:Nat)(w:ax)(u:ah):Prop:=∀p n c,u= .slice p n c->(p=none∧n=0∧c=0)∨∃g f aV,p=aa ⟨g,f,none⟩∧o g=kc∧w.heap[g]? =aa (.cells aV Tc (0,0))∧n<=c∧c<=maxLen∧f+c*z<=aV.size
def Dst(l:List ah):Prop:=∀(i j:Nat) (p q:Addr) (n m c d:Nat),l[i]? =aa (.slice (aa p) n c)->l[j]? =aa (.slice (aa q) m d)->p.block=q.block->i=j
def j6{α:Type}[ad α](z:Nat)(T Tc:aX)(o:cA)(k kc:Nat)(w:ax)(v:ah)(xs:List α):Prop:=
 (v= .slice none 0 0∧xs=[])∨
 ∃g cap aV aJ,v= .slice (aa ⟨g,0,none⟩) xs.length cap∧o g=k∧w.heap[g]? =aa (.cells aV T (0,0))∧xs.length<=cap∧cap<=maxLen∧aV.size=cap*ad.sz α∧
  cn (ad.rd (In o [kc]) w) aJ xs∧aV.toList.take (xs.length*ad.sz α)=aJ.flatten∧(∀u∈aJ.flatten,aCK z Tc o kc w u)∧Dst aJ.flatten
section
variable {α β:Type} [ad α] [ad β] {z:Nat} {T Tc:aX} {o o':cA} {k kc k' Dq:Nat} {w w':ax} {v u:ah} {xs:List α} {M N:List Nat}
def j6.ow(h:j6 z T Tc o k kc w v xs):Ow T o k [kc] w v xs:=by
 rcases h with h|⟨g,cap,aV,aJ,h1,h2,h3,h4,h5,h6,h7,h8,_⟩
 ·exact .inl h
 ·exact .inr ⟨g,0,cap,aV,aJ,h1,h2,h3,h4,h5,by rw[h6,kD];exact bw _,h7,h8⟩
def j6.rv(h:j6 z T Tc o k kc w v xs):Rv (In o [k,kc]) w v xs:=h.ow.rv
def j6.one(h:j6 z T Tc o k kc w v xs):v.oneCell'=ab:=h.ow.one
def X3(o:cA)(k:Nat)(w:ax)(pa:Addr)(u:ah):Prop:=o pa.block=k∧w.cell? pa=aa u
def sk(aV:Array ah)(q:Nat)(v':ah):Array ah:=(aV.toList.take q++[v']++aV.toList.drop (q+1)).toArray
def ze(z:Nat)(T Tc:aX)(o:cA)(k kc:Nat)(w:ax)(v:ah)(xs:List α)(pq:Addr)(v':ah):Prop:=∃g q aV,pq=⟨g,q,none⟩∧o g=k∧w.heap[g]? =aa (.cells aV T (0,0))∧v'.oneCell'=ab∧q<aV.size∧j6 z T Tc o k kc (w.setRow g (sk aV q v')) v xs
end
def cn.abr{α:Type}{R R':List ah->α->Prop}:∀{cs:List (List ah)} {xs:List α},(∀c∈cs,∀x,R c x->R' c x)->cn R cs xs->cn R' cs xs
 |[],[],_,_=>trivial
 |_::_,_::_,hr,h=>⟨hr _ (by simp) _ h.1,cn.abr (λc hc=>hr c (by simp[hc])) h.2⟩
 |[],_::_,_,h=>h.elim
 |_::_,[],_,h=>h.elim
def zG{α:Type}{l:List α}{q:Nat}{x:α}(h:q<l.length):l.take q++[x]++l.drop (q+1)=l.set q x:=by rw[List.set_eq_take_append_cons_drop,aG h];simp
def Ni{z:Nat}{aJ:List (List ah)}(hz:∀c∈aJ,c.length=z){j off:Nat}{c:List ah}(hc:aJ[j]? =aa c)(ho:off<z)(v:ah):
  (aJ.set j (c.take off++[v]++c.drop (off+1))).flatten=aJ.flatten.set (j*z+off) v:=by
 have cY:c.length=z:=hz c (oT hc)
 rw[zG (by omega)]
 induction aJ generalizing j with
 |nil=>simp at hc
 |cons b aJ ih=>
  have hb:b.length=z:=hz b (by simp)
  cases j with
  |zero=>
   have:b=c:=by simpa using hc
   subst this
   simp only[List.set_cons_zero,oW,Nat.zero_mul,kD]
   rw[List.set_append_left _ _ (by omega)]
  |succ j=>
   have e1:(j+1)*z+off=b.length+(j*z+off):=by rw[hb,qT];omega
   simp only[List.set_cons_succ,oW,e1]
   rw[List.set_append_right _ _ (by omega),BZ,ih (λc hc=>hz c (by simp[hc])) (by simpa using hc)]
def cI(o:cA)(n:Nat):∃kx,∀b,b<n->o b<kx:=by
 induction n with
 |zero=>exact⟨0,λb h=>by omega⟩
 |succ n ih=>
  obtain⟨kx,h⟩:=ih;refine⟨kx+o n+1,λb hb=>?_⟩;by_cases e:b=n
  ·subst e;omega
  ·have:=h b (by omega);omega
section
variable {α β:Type} [ad α] [ad β]
variable {P:Program} {Q:Exit->Act->ax->Prop} {L:List (Nat×ah)} {w:ax} {d:Option Tmp} {ty:aX} {pos:String} {af:Array Edge} {g:Option (Nat×Bool)} {t T e:aX} {o:cA} {k kc:Nat}
structure kw(off:Nat)(f:α->List β)(st:α->List β->α):Prop where
 C8:∀{S:Nat->Prop} {w:ax} {cs:List ah} {x:α},ad.rd S w cs x->∃c1 c c2,cs=c1++c++c2∧c1.length=off∧ad.rd S w c (f x)
 set:aCG off st
 two:∀x a b,st (st x a) b=st x b
def aoS [nq α][Flat β]{f:α->List β}{st:α->List β->α}{off:Nat}{v u vx:ah}{xs zs:List α}{y:α}{ys l':List β}{j:Int}{pa:Addr}(hF:kw off f st)(hu:P.underlying t=aa (.slice e))(hT:bN P e β)
  (ho:j6 (ad.sz β) T e o k kc w v xs) (hE:Fm v (ad.sz α) j pa) (hc:X3 o k w (pa.add off) u) (hy:idx xs j=aa y) {S:Nat->Prop} (hx:fB S w vx ys) (hz:bF (f y) ys=aa l') (hs:df xs j (st y l')=aa zs) (hk:Nat.beq k kc=false):
  ∃v' w' o',(dL.append_ #[t,t] ty #[u,vx]).run P w= .ok v' w'∧bO [kc] [kc] o w o' w'∧ze (ad.sz β) T e o' k kc w' v zs (pa.add off) v':=by
 have ub:k≠kc:=λe=>by subst e;simp at hk
 unfold idx at hy
 split at hy
 case isFalse=>cases hy
 rename_i h0
 have aU:j.toNat<xs.length:=(gH.1 hy).1
 unfold df at hs
 split at hs
 case isFalse=>cases hs
 cases hs
 rcases ho with⟨rfl,rfl⟩|⟨gg,cap,aV,aJ,rfl,h2,h3,h4,h5,h6,h7,h8,h9,oE⟩
 ·simp at aU
 obtain⟨a,m,yV,hv,rfl⟩:=hE
 have ha:a=⟨gg,0,none⟩:=by have:=ik (λv=>match v with|Value.slice (aa a) _ _=>a|_=>(⟨0,0,none⟩:Addr)) hv;simpa using this.symm
 subst ha
 obtain⟨c,ie,km⟩:=h7.get hy
 have eK:=h7.o9
 have cY:c.length=ad.sz α:=ad.len km
 have jU:((⟨gg,0,none⟩:Addr).add (j.toNat*ad.sz α)).add off=⟨gg,j.toNat*ad.sz α+off,none⟩:=by rw[E0];unfold Addr.add;split<;>simp_all
 rw[jU]at hc⊢
 obtain⟨c1,cc,c2,qy,DU,sy⟩:=hF.C8 km
 obtain⟨p0,Im,rfl,r1,r2,r3⟩:=sy
 have AP:off<ad.sz α:=by rw[<-cY,qy];simp;omega
 have auL:c[off]? =aa (.slice p0 (f y).length Im):=by rw[qy,d_,List.getElem?_append_right (by omega),DU];simp
 have M6:aJ.flatten[j.toNat*ad.sz α+off]? =aa (.slice p0 (f y).length Im):=Nj eK ie auL
 have eH:=qD h7
 have hmul:(j.toNat+1)*ad.sz α<=xs.length*ad.sz α:=mg _ aU
 have atH:xs.length*ad.sz α<=cap*ad.sz α:=mg _ h4
 rw[qT]at hmul
 generalize hq:j.toNat*ad.sz α+off=q at*
 have MD:q<aJ.flatten.length:=by omega
 have hqc:q<aV.size:=by omega
 have Mv:u= .slice p0 (f y).length Im:=by
  have e1:=hc.2;rw[cell_of_row w gg q aV T (0,0) h3]at e1;have e2:aJ.flatten[q]? =aV.toList[q]? :=by rw[<-h8,mh,aG (by omega)]
  rw[M6]at e2;simp only[Array.getElem?_toList]at e2;rw[e1]at e2;exact(jM e2).symm
 have yE:=h9 _ (oT M6)
 obtain⟨kx,Hw⟩:=cI o (w.heap.size+gg+1)
 have DP:gg<w.heap.size:=(jx.1 h3).1
 have key:∃(gs:Option Nat) (ox:cA),(∀b,ox b=if aa b=gs then kx else o b)∧(∀b,gs=aa b->b<w.heap.size∧o b=kc)∧Ow e ox kx [] w u (f y)∧(∀b,gs=aa b->∃p,p0=aa p∧p.block=b):=by
  rcases yE _ _ _ rfl with⟨e1,e2,e3⟩|⟨g',f',Eu,e1,e2,e3,e4,e5,e6⟩
  ·subst e1;refine⟨none,o,?_,?_,?_,?_⟩
   ·intro b;simp
   ·intro b h;cases h
   ·exact .inl ⟨by rw[Mv,e2,e3],zj e2⟩
   ·intro b h;cases h
  ·subst e1;refine⟨aa g',λb=>if aa b=aa g' then kx else o b,?_,?_,.inr ?_,?_⟩
   ·intro b;rfl
   ·intro b h;cases h;exact⟨(jx.1 e3).1,e2⟩
   rotate_left
   ·intro b h;exact⟨⟨g',f',none⟩,rfl,jM h⟩
   have iY:∃kV,cn (ad.rd (In (λb=>if aa b=aa g' then kx else o b) []) w) kV (f y)∧(Eu.toList.drop f').take ((f y).length*ad.sz β)=kV.flatten:=by
    rcases r3 with r3|⟨a,kV,r4,r5,r6,r7⟩
    ·rw[r3];exact⟨[],trivial,by simp⟩
    ·cases r4;refine⟨kV,r6.mono λ_ _=>Flat.any,?_⟩;have pB:=qD r6;have hle:(f y).length*ad.sz β<=Im*ad.sz β:=mg _ e4;apply xv;intro i;by_cases hi:i<kV.flatten.length
     ·have e7:kV.flatten[i]? =aa kV.flatten[i]:=nW hi;have e8:=r7 i _ e7;rw[jI,cell_of_row w g' (f'+i) Eu e (0,0) e3]at e8;rw[mh,aG (by omega),e7];simpa using e8
     ·rw[List.getElem?_eq_none (by simp;omega),List.getElem?_eq_none (by omega)]
   obtain⟨kV,Uz,Uy⟩:=iY;exact⟨g',f',Im,Eu,kV,Mv,by simp,e3,r1,r2,e6,Uz,Uy⟩
 obtain⟨gs,ox,hox,DO,kj,TR⟩:=key
 have hxE:fB (In ox []) w vx ys:=hx.flat
 obtain⟨v',w',o1,fw,b6,AK⟩:=aam (P:=P) (ty:=ty) hu hT kj hxE hz (by simp[nc])
 have aC5:=b6.size
 have ac_:∀b,b<w.heap.size->ox b=kx->gs=aa b:=by
  intro b hb h;rw[hox]at h;split at h
  ·rename_i h';exact h'.symm
  ·have:=Hw b (by omega);omega
 have A2:∀b,b<w.heap.size->gs≠aa b->w'.heap[b]? =w.heap[b]? :=λb hb bQ=>b6.rO b hb λhm=>bQ (ac_ b hb (by simpa using hm))
 have aut:bO [kc] [kc] o w (grow o w kc) w':=⟨b6.os,b6.tape,b6.output,b6.size,λb hb=>by simp[grow,hb],λb h1 _=>by simp[grow,Nat.not_lt.2 h1],λb hb bQ=>A2 b hb λh=>bQ (by simp[(DO b h).2])⟩
 have hgg:gs≠aa gg:=λh=>ub (h2.symm.trans (DO gg h).2)
 have acX:w'.heap[gg]? =aa (.cells aV T (0,0)):=by rw[A2 gg DP hgg];exact h3
 have DH:∀b,b<w'.heap.size->o1 b=kx->gs=aa b∨w.heap.size<=b:=by
  intro b hb h;by_cases aU:b<w.heap.size
  ·rw[b6.gV b aU]at h;exact .inl (ac_ b aU h)
  ·exact .inr (by omega)
 have qo:∀b,b<w'.heap.size->(gs=aa b∨w.heap.size<=b)->grow o w kc b=kc∧b≠gg:=by
  intro b _ h;rcases h with h|h
  ·exact⟨by simp[grow,(DO b h).1,(DO b h).2],λe=>hgg (e▸h)⟩
  ·exact⟨by simp[grow,Nat.not_lt.2 h],by omega⟩
 have fP:∀b,b≠gg->(w'.setRow gg (sk aV q v')).heap[b]? =w'.heap[b]? :=λb hb=>setRow_other w' gg b _ hb
 have mA:=AK.one
 have TS:∀i p n cc,i≠q->aJ.flatten[i]? =aa (.slice (aa p) n cc)->gs≠aa p.block:=by intro i p n cc oD iu Ug;obtain⟨p1,hp,D4⟩:=TR _ Ug;rw[hp]at M6;exact oD (oE _ _ _ _ _ _ _ _ M6 iu D4).symm
 refine⟨v',w',grow o w kc,fw,aut,gg,q,aV,rfl,by simp[grow,DP,h2],acX,mA,hqc,.inr ⟨gg,cap,sk aV q v',aJ.set j.toNat (c.take off++[v']++c.drop (off+1)),by simp,by simp[grow,DP,h2],setRow_heap w' gg aV _ T _ acX,by simpa using h4,h5,?_,?_,?_,?_,?_⟩⟩
 ·simp[sk];omega
 ·
  have Hm:ad.rd (In o [kc]) w [.slice none 0 0] ([]:List β):=ad.fY (α:=List β) _ _
  have A_:cn (ad.rd (In o [kc]) w) (aJ.set j.toNat (c.take off++[.slice none 0 0]++c.drop (off+1))) (xs.set j.toNat (st y [])):=cn.set h7 j.toNat (by have:=hF.set km Hm;simpa using this)
  have adH:=Ni eK ie AP (.slice none 0 0)
  rw[hq]at adH
  have pD:cn (ad.rd (In (grow o w kc) [kc]) (w'.setRow gg (sk aV q v'))) (aJ.set j.toNat (c.take off++[.slice none 0 0]++c.drop (off+1))) (xs.set j.toNat (st y [])):=by
   refine cn.abr (λcs iY x hr=>ad.mono ?_ (nq.loc hr)) A_;rintro b ⟨hb,p,n,cc,hm,rfl⟩ AT;have hbk:o p.block=kc:=by simpa[In]using hb
   have bQ:gs≠aa p.block:=by
    intro Ug;have T0:ah.slice (aa p) n cc∈aJ.flatten.set q (.slice none 0 0):=adH▸List.mem_flatten.2 ⟨cs,iY,hm⟩;obtain⟨i,gp,ek⟩:=Fv T0;have iu:(aJ.flatten.set q (.slice none 0 0))[i]? =aa (.slice (aa p) n cc):=by rw[nW gp,ek]
    by_cases oD:q=i
    ·subst oD;rw[oV,aG rfl,aG MD]at iu;simp at iu
    ·rw[oV,aK oD]at iu;exact TS i p n cc (λe=>oD e.symm) iu Ug
   refine⟨by simp[In,grow,AT,hbk],?_⟩;rw[fP _ (λe=>ub (by rw[<-h2,<-e,hbk])),A2 _ AT bQ]
  have aDb:j.toNat<(xs.set j.toNat (st y [])).length:=by simpa using aU
  obtain⟨cs0,adP,Uz⟩:=pD.get (i:=j.toNat) (x:=st y []) (by simp[aU])
  have Ua:j.toNat<aJ.length:=by rw[h7.length];exact aU
  have Uy:cs0=c.take off++[.slice none 0 0]++c.drop (off+1):=by rw[oV,aG rfl,aG Ua]at adP;exact(jM adP).symm
  have as_:ad.rd (In (grow o w kc) [kc]) (w'.setRow gg (sk aV q v')) [v'] l':=by
   refine ad.mono ?_ (Rv.RX AK.rv rfl);intro b hb AT;have iw:o1 b=kx:=by simpa[In]using hb
   obtain⟨e1,e2⟩:=qo b AT (DH b AT iw);exact⟨by simp[In,e1],fP b e2⟩
  have jE:=cn.set pD j.toNat (hF.set Uz as_)
  rw[List.set_set,List.set_set,hF.two,Uy]at jE
  have e1:List.take off (c.take off++[ah.slice none 0 0]++c.drop (off+1))++[v']++List.drop (off+[v'].length) (c.take off++[ah.slice none 0 0]++c.drop (off+1))=c.take off++[v']++c.drop (off+1):=by rw[show off+[v'].length=off+1 from rfl,zG (l:=c) (by omega),zG (l:=c) (by omega),zG (by simp;omega),List.set_set]
  rw[e1]at jE
  exact jE
 ·rw[List.length_set];have:=Ni eK ie AP v';rw[hq]at this;rw[this];have rF:q<aV.toList.length:=by simpa using hqc
  show(aV.toList.take q++[v']++aV.toList.drop (q+1)).take (xs.length*ad.sz α)=_;rw[zG rF,<-h8,List.take_set]
 ·have:=Ni eK ie AP v';rw[hq]at this;rw[this];intro u1 hu1 p n cc e7;obtain⟨i,gp,ek⟩:=Fv hu1;have iu:(aJ.flatten.set q v')[i]? =aa u1:=by rw[nW gp,ek]
  by_cases oD:q=i
  case neg=>
   rw[oV,aK oD]at iu;rcases h9 u1 (oT iu) p n cc e7 with h|⟨g1,f1,NR,i1,i2,i3,i4⟩
   ·exact .inl h
   ·subst i1;rw[e7]at iu;have bQ:=TS i _ _ _ (λe=>oD e.symm) iu;have yA:=(jx.1 i3).1;exact .inr ⟨g1,f1,NR,rfl,by simp[grow,yA,i2],by rw[fP g1 (λe=>ub (by rw[<-h2,<-e,i2])),A2 g1 yA bQ];exact i3,i4⟩
  case pos=>
   subst oD;rw[oV,aG rfl,aG MD]at iu;obtain rfl:=jM iu;rcases AK with⟨hn,_⟩|⟨g1,f1,aye,NR,axO,i1,i2,i3,i4,i5,i6,i7,i8⟩
   ·rw[hn]at e7;cases e7;exact .inl ⟨rfl,rfl,rfl⟩
   ·rw[i1]at e7;cases e7;have yA:=(jx.1 i3).1;obtain⟨e1,e2⟩:=qo g1 yA (DH g1 yA i2);exact .inr ⟨g1,f1,NR,rfl,e1,by rw[fP g1 e2];exact i3,i4,i5,i6⟩
 ·have:=Ni eK ie AP v';rw[hq]at this;rw[this];have hvq:∀i p n cc,i≠q->aJ.flatten[i]? =aa (.slice (aa p) n cc)->∀p' n' c',v'= .slice (aa p') n' c'->p.block≠p'.block:=by
   intro i p n cc oD hi p' n' c' e7 Hi;have bQ:=TS i p n cc oD hi;rcases h9 _ (oT hi) p n cc rfl with⟨e1,_⟩|⟨g2,f2,aDy,e1,e2,e3,_⟩
   ·cases e1
   ·cases e1;have hg2:=(jx.1 e3).1;rcases AK with⟨hn,_⟩|⟨g1,f1,aye,NR,axO,i1,i2,i3,_⟩
    ·rw[hn]at e7;cases e7
    ·rw[i1]at e7;cases e7;have atm:g2=g1:=Hi;subst atm;rcases DH g2 (jx.1 i3).1 i2 with h|h
     ·exact bQ h
     ·omega
  intro i j' p p' n n' c' d' hi hj Hi;by_cases oD:q=i
  ·by_cases HA:q=j'
   ·omega
   ·subst oD;rw[oV,aK HA]at hj;rw[oV,aG rfl,aG MD]at hi;exact(hvq j' _ _ _ (λe=>HA e.symm) hj _ _ _ (jM hi) Hi.symm).elim
  ·by_cases HA:q=j'
   ·subst HA;rw[oV,aK oD]at hi;rw[oV,aG rfl,aG MD]at hj;exact(hvq i _ _ _ (λe=>oD e.symm) hi _ _ _ (jM hj) Hi).elim
   ·rw[oV,aK oD]at hi;rw[oV,aK HA]at hj;exact oE _ _ _ _ _ _ _ _ hi hj Hi
end
def j6.mono{α:Type}[ad α]{z:Nat}{T Tc:aX}{o o':cA}{k kc k' Dq:Nat}{w w':ax}{v:ah}{xs:List α}(hk:∀b,b<w.heap.size->o b=k->o' b=k'∧w'.heap[b]? =w.heap[b]?)(hc:∀b,b<w.heap.size->o b=kc->o' b=Dq∧w'.heap[b]? =w.heap[b]?)(h:j6 z T Tc o k kc w v xs):j6 z T Tc o' k' Dq w' v xs:=by
 rcases h with h|⟨g,cap,aV,aJ,h1,h2,h3,h4,h5,h6,h7,h8,h9,oE⟩
 ·exact .inl h
 ·obtain⟨e1,e2⟩:=hk g (jx.1 h3).1 h2;refine .inr ⟨g,cap,aV,aJ,h1,e1,by rw[e2];exact h3,h4,h5,h6,h7.mono λ_ _=>ad.mono λb hb aU=>?_,h8,λu hu p n c e=>?_,oE⟩
  ·have hb:o b=kc:=by simpa[In]using hb
   obtain⟨f1,f2⟩:=hc b aU hb;exact⟨by simp[In,f1],f2⟩
  ·rcases h9 u hu p n c e with h|⟨g',f',Eu,i1,i2,i3,i4⟩
   ·exact .inl h
   ·obtain⟨f1,f2⟩:=hc g' (jx.1 i3).1 i2;exact .inr ⟨g',f',Eu,i1,f1,by rw[f2];exact i3,i4⟩
def ze.mono{α:Type}[ad α]{z:Nat}{T Tc:aX}{o o':cA}{k kc k' Dq:Nat}{w w':ax}{v u:ah}{xs:List α}{pq:Addr}(hk:∀b,b<w.heap.size->o b=k->o' b=k'∧w'.heap[b]? =w.heap[b]?)(hc:∀b,b<w.heap.size->o b=kc->o' b=Dq∧w'.heap[b]? =w.heap[b]?)(h:ze z T Tc o k kc w v xs pq u):ze z T Tc o' k' Dq w' v xs pq u:=by
 obtain⟨g,q,aV,h1,h2,h3,h4,h5,h6⟩:=h;obtain⟨e1,e2⟩:=hk g (jx.1 h3).1 h2;have D2:w'.heap[g]? =aa (.cells aV T (0,0)):=by rw[e2];exact h3
 have key:∀{c c':Nat},(∀b,b<w.heap.size->o b=c->o' b=c'∧w'.heap[b]? =w.heap[b]?)->∀b,b<(w.setRow g (sk aV q u)).heap.size->o b=c->o' b=c'∧(w'.setRow g (sk aV q u)).heap[b]? =(w.setRow g (sk aV q u)).heap[b]? :=by
  intro c c' h b hb hoc;obtain⟨f1,f2⟩:=h b (by simpa using hb) hoc;refine⟨f1,?_⟩;by_cases UH:b=g
  ·subst UH;rw[setRow_heap w b aV _ T (0,0) h3,setRow_heap w' b aV _ T (0,0) D2]
  ·rw[setRow_other w' g b _ UH,setRow_other w g b _ UH];exact f2
 exact⟨g,q,aV,h1,e1,D2,h4,h5,h6.mono (key hk) (key hc)⟩
section
variable {α β:Type} [ad α] [ad β]
variable {P:Program} {Q:Exit->Act->ax->Prop} {L:List (Nat×ah)} {w:ax} {d:Option Tmp} {ty:aX} {pos:String} {af:Array Edge} {g:Option (Nat×Bool)} {t T e Tc:aX} {o:cA} {k kc z:Nat} {K:List Nat}
def OW.aCi [Rd][nq α][Flat β]{s x:aZ}{f:α->List β}{st:α->List β->α}{off:Nat}{v u vx:ah}{xs zs:List α}{y:α}{ys l':List β}{j:Int}{pa:Addr}{S:Nat->Prop}(hF:kw off f st)(hu:P.underlying t=aa (.slice e))(hT:bN P e β)(hs:ev L s=aa u)(hx:ev L x=aa vx)
  (ho:j6 (ad.sz β) T e o k kc w v xs) (hE:Fm v (ad.sz α) j pa) (hc:X3 o k w (pa.add off) u) (hy:idx xs j=aa y) (hr:fB S w vx ys) (hz:bF (f y) ys=aa l') (oA:df xs j (st y l')=aa zs) (hk:Nat.beq k kc=false):
  OW P Q L ⟨d,.call {callee:= .builtin .append,args:= #[s,x],argTypes:= #[t,t]},ty,pos,af,g⟩ w (λv' w'=>∃o',bO [kc] [kc] o w o' w'∧ze (ad.sz β) T e o' k kc w' v zs (pa.add off) v'):=by
 obtain⟨v',w',o',h1,h2,h3⟩:=aoS (P:=P) (ty:=ty) hF hu hT ho hE hc hy hr hz oA hk
 refine OW.run λa ha=>⟨v',w',?_,o',h2,h3⟩
 simp[execOp,resolve,invoke,builtin,ha _ _ hs,ha _ _ hx,h1]
def PV(l:List ah):Bool:=l.all λu=>match u with
 | .slice none 0 0=>ab
 | .slice _ _ _=>false
 |_=>ab
def Ye{l:List ah}(h:PV l=ab){p:Option Addr}{n c:Nat}(hm:ah.slice p n c∈l):p=none∧n=0∧c=0:=by
 have:=List.all_eq_true.1 h _ hm;match p,n,c,this with
 |none,0,0,_=>exact⟨rfl,rfl,rfl⟩
def OW.aq2 [Rd]{u1 u2:aZ}{zs:List α}{m:Int}(kc z:Nat)(Tc:aX)(tU:PV (ad.zc α)=ab)(hu:P.underlying t=aa (.slice e))(hT:bN P e α)(h1:ev L u1=aa (.int .i64 m))(h2:ev L u2=aa (.int .i64 m))(hm:ya α m=aa zs):
  OW P Q L ⟨d,.makeSlice t u1 u2,ty,pos,af,g⟩ w (λv' w'=>∃o',bO [] [k] o w o' w'∧j6 z e Tc o' k kc w' v' zs):=by
 unfold ya at hm
 split at hm
 case isFalse=>cases hm
 rename_i hb
 cases hm
 obtain⟨i,gp,ek,iu,mE⟩:=hT.nD
 have hr:=run_make (P:=P) w t e i _ hu gp mE .i64 .i64 m m hb.1 (by omega) (by
  have h:(i.bytes:Int)<=65536:=by omega
  have h':(i.bytes:Int)*m<=65536*1073741824:=Int.mul_le_mul h hb.2 hb.1 (by omega);omega) (by omega)
 have adG:∀q:Nat,∀u∈(cR q (ad.zc α)).flatten,u∈ad.zc α:=by intro q u hu;obtain⟨l,hl,Hd⟩:=List.mem_flatten.1 hu;rw[List.mem_replicate]at hl;exact hl.2▸Hd
 refine OW.run λa ha=>⟨.slice (aa ⟨w.heap.size,0,none⟩) m.toNat m.toNat,w.alloc (.cells (madeCells (pack (ad.agg α) (ad.zc α)).cells (m.toNat*i.size)) e),?_,_,bO.alloc o w _ k,.inr ⟨w.heap.size,m.toNat,_,cR m.toNat (ad.zc α),?_,sN o w k _ (bw _),heap_alloc_new w _,by simp,?_,?_,?_,?_,?_,?_⟩⟩
 ·simp[execOp,ha _ _ h1,ha _ _ h2,hr]
 ·simp
 ·unfold maxLen;omega
 ·simp[size_madeCells,ek]
 ·exact cn.replicate (ad.fY _ _) _
 ·have hz:(pack (ad.agg α) (ad.zc α)).cells.toList=ad.zc α:=wI (α:=α) (ad.fY (λ_=>True) w);have gP:(ad.zc α).length=ad.sz α:=ad.len (ad.fY (α:=α) (λ_=>True) w);have sD:=ad.pos (α:=α);generalize hzz:(pack (ad.agg α) (ad.zc α)).cells=z at*;rw[ek];rw[List.length_replicate,xt (by simp[size_madeCells])];unfold madeCells;have iW:z.size=ad.sz α:=by rw[<-nZ,hz,gP]
  have key:∀q:Nat,(bV (q*ad.sz α)).map (z[·% z.size]!)=(cR q (ad.zc α)).flatten:=by
   intro q;induction q with
   |zero=>simp
   |succ q ih=>
    rw[List.replicate_succ',nX,<-ih,qT,List.range_add,qW];congr 1;simp only[List.map_map,List.flatten_singleton];rw[<-hz];apply xv;intro j;by_cases hj:j<ad.sz α
    ·have e1:(q*ad.sz α+j)% z.size=j:=by rw[iW,Nat.mul_comm,Nat.mul_add_mod,Nat.mod_eq_of_lt hj]
     have nK:j<z.size:=by omega
     simp[hj,e1,nK,getElem!_pos]
    ·simp[hj,iW]
  simpa using key m.toNat
 ·intro u hu p n c e;subst e;exact .inl (Ye tU (adG _ _ hu))
 ·intro i j p q n m c d hi _ _;have:=Ye tU (adG _ _ (oT hi));cases this.1
def OW.acu [Rd]{v:ah}{xs:List α}{y:α}{u i:aZ}{q:IntKind}{j:Int}{a:Addr}{cap:Nat}(hu:P.underlying t=aa (.slice e))(hT:bN P e α)(hx:ev L u=aa v)(h:v= .slice (aa a) xs.length cap)
  (hi:ev L i=aa (.int q j)) (hj:idx xs j=aa y):
  OW P Q L ⟨d,.indexAddr t u i,ty,pos,af,g⟩ w (λv' w'=>w'=w∧v'= .pointer (aa (a.add (j.toNat*ad.sz α)))):=by
 subst h
 unfold idx at hj
 split at hj
 ·rename_i h0;have aU:j.toNat<xs.length:=(gH.1 hj).1;refine OW.run λb hb=>⟨_,w,?_,rfl,rfl⟩;have dh:j<(xs.length:Int):=by omega
  have e1:b.eval u=_:=hb _ _ hx;have e2:b.eval i=_:=hb _ _ hi;simp[execOp,e1,e2,Instr.indexAt,asIntOf,run_underlying hu,h0,dh,hT.sizeOf]
 ·cases hj
def OW.Al [Rd]{o:aZ}{p:Option Addr}{n cap:Nat}(hu:P.underlying t=aa (.slice e))(hx:ev L o=aa (.slice p n cap)):
  OW P Q L ⟨d,.call {callee:= .builtin .len,args:= #[o],argTypes:= #[t]},ty,pos,af,g⟩ w (λv' w'=>v'= .int .i64 n∧w'=w):=by
 refine OW.run λa ha=>⟨_,w,?_,rfl,rfl⟩
 simp[execOp,resolve,invoke,builtin,ha _ _ hx,dL.len_,run_underlying hu,goInt]
def PE(v v':ah)(j:Nat):Prop:=∃p n c,v= .slice p n c∧v'= .slice p j c∧j<=n
def BO(z:Nat)(v v':ah)(j:Nat):Prop:=∃p n c,v= .slice p n c∧v'= .slice (if c=j then p else p.map (·.add (j*z))) (n-j) (c-j)∧j<=n
def afa(z:Array ah)(hp:0<z.size):∀q:Nat,(bV (q*z.size)).map (z[·% z.size]!)=(cR q z.toList).flatten:=by
 intro q;induction q with
 |zero=>simp
 |succ q ih=>
  rw[List.replicate_succ',nX,<-ih,qT,List.range_add,qW];congr 1;simp only[List.map_map,List.flatten_singleton];apply xv;intro j;by_cases hj:j<z.size
  ·have e1:(q*z.size+j)% z.size=j:=by rw[Nat.mul_comm,Nat.mul_add_mod,Nat.mod_eq_of_lt hj]
   simp[hj,e1,getElem!_pos]
  ·simp[hj]
def OW.ax9 [Rd]{u:aZ}{v v':ah}{j:Nat}{xs:List α}(hu:P.underlying t=aa (.slice e))(hT:bN P e α)(hx:ev L u=aa v')(ho:Ow T o k K w v xs)(ht:BO (ad.sz α) v v' j)(hd:nc K [k]=ab):
  OW P Q L ⟨d,.call {callee:= .builtin .clear,args:= #[u],argTypes:= #[t]},ty,pos,af,g⟩ w (λv0 w'=>v0= .tuple #[]∧bO [k] [] o w o w'∧Ow T o k K w' v (xs.take j++cR (xs.length-j) ad.zero)):=by
 obtain⟨p,m,c,h1,rfl,hj⟩:=ht
 by_cases he:m-j=0
 ·have hm:m=xs.length:=by
   rcases ho with⟨rfl,rfl⟩|⟨gg,f,cap,aV,aJ,rfl,_⟩
   ·cases h1;rfl
   ·cases h1;rfl
  have eF:xs.take j++cR (xs.length-j) ad.zero=xs:=by rw[show xs.length-j=0 from by omega,List.replicate_zero,pR,xt (by omega)]
  rw[eF];refine OW.run λa ha=>⟨.tuple #[],w,?_,rfl,bO.refl _ _ _ _,ho⟩;have e0:(dL.clear_ #[t] ty #[ah.slice (if c=j then p else p.map (·.add (j*ad.sz α))) (m-j) (c-j)]).run P w= .ok (.tuple #[]) w:=by rw[he];cases(if c=j then p else p.map (·.add (j*ad.sz α)))<;>simp[dL.clear_,run_underlying hu]
  simp[execOp,resolve,invoke,builtin,ha _ _ hx,e0]
 ·rcases ho with⟨rfl,rfl⟩|⟨gg,f,cap,aV,aJ,rfl,h2,h3,h4,h5,h6,h7,h8⟩
  ·cases h1;omega
  ·cases h1;obtain⟨i,gp,ek,iu,mE⟩:=hT.nD;have yD:¬c=j:=by omega
   have jU:(⟨gg,f,none⟩:Addr).add (j*ad.sz α)=⟨gg,f+j*ad.sz α,none⟩:=jI _ _ _;have Uw:aV.toList.length=aV.size:=nZ;have hz:(pack (ad.agg α) (ad.zc α)).cells.toList=ad.zc α:=wI (α:=α) (ad.fY (λ_=>True) w);have gP:(ad.zc α).length=ad.sz α:=ad.len (ad.fY (α:=α) (λ_=>True) w);have iW:(pack (ad.agg α) (ad.zc α)).cells.size=ad.sz α:=by rw[<-nZ,hz,gP]
   have tU:(dL.zeroCells (pack (ad.agg α) (ad.zc α)).cells (xs.length-j)).toList=(cR (xs.length-j) (ad.zc α)).flatten:=by have:=afa (pack (ad.agg α) (ad.zc α)).cells (by rw[iW];exact ad.pos) (xs.length-j);rw[hz]at this;rw[<-this];simp[dL.zeroCells]
   have eH:=qD h7;have hmul:xs.length*ad.sz α<=c*ad.sz α:=mg _ h4;have Mz:(xs.length-j)*ad.sz α=xs.length*ad.sz α-j*ad.sz α:=Nat.sub_mul _ _ _;have hjm:j*ad.sz α<=xs.length*ad.sz α:=mg _ hj;have lY:(cR (xs.length-j) (ad.zc α)).flatten.length=(xs.length-j)*ad.sz α:=by simp[gP]
   have mA:∀u∈(cR (xs.length-j) (ad.zc α)).flatten,u.oneCell'=ab:=by intro u hu;obtain⟨l,hl,Hd⟩:=List.mem_flatten.1 hu;rw[List.mem_replicate]at hl;exact ad.one (ad.fY (α:=α) (λ_=>True) w) u (hl.2▸Hd)
   have bU:=run_storeCells_at P gg (f+j*ad.sz α) T (cR (xs.length-j) (ad.zc α)).flatten 0 aV w h3 (by omega) mA;simp only[Nat.add_zero]at bU;have b6:bO [k] [] o w o (w.setRow gg (aV.toList.take (f+j*ad.sz α)++(cR (xs.length-j) (ad.zc α)).flatten++aV.toList.drop (f+j*ad.sz α+(cR (xs.length-j) (ad.zc α)).flatten.length)).toArray):=bO.row _ h2;have hlen:(xs.take j++cR (xs.length-j) (ad.zero:α)).length=xs.length:=by simp;omega
   refine OW.run λa ha=>⟨.tuple #[],_,?_,rfl,b6,.inr ⟨gg,f,c,_,aJ.take j++cR (xs.length-j) (ad.zc α),by rw[hlen],h2,setRow_heap w gg aV _ T _ h3,by rw[hlen];exact h4,h5,?_,?_,?_⟩⟩
   ·have e0:(dL.clear_ #[t] ty #[ah.slice (aa ⟨gg,f+j*ad.sz α,none⟩) (xs.length-j) (c-j)]).run P w= .ok (.tuple #[]) (w.setRow gg (aV.toList.take (f+j*ad.sz α)++(cR (xs.length-j) (ad.zc α)).flatten++aV.toList.drop (f+j*ad.sz α+(cR (xs.length-j) (ad.zc α)).flatten.length)).toArray):=by
     obtain⟨q,hq⟩:∃q,xs.length-j=q+1:=⟨xs.length-j-1,by omega⟩;rw[hq]at bU tU⊢;simp[dL.clear_,run_underlying hu,hT.zero,tU,bU]
    simp[execOp,resolve,invoke,builtin,ha _ _ hx,yD,jU,e0]
   ·simp[gP];omega
   ·exact cn.append ((h7.take j).mono λ_ _=>ad.mono (b6.ro hd)) (cn.replicate (ad.fY _ _) _)
   ·rw[hlen,nX,Bj h7.o9,<-h8,List.take_take,Nat.min_eq_left hjm];show((aV.toList.take (f+j*ad.sz α)++(cR (xs.length-j) (ad.zc α)).flatten++aV.toList.drop _).drop f).take _=_;rw[d_,X9 (by rw[oU];omega),List.drop_take,BZ,<-d_];rw[List.take_append_of_le_length (by simp[gP];omega),xt (by simp[gP];omega)]
def OW.axS [Rd]{x y:aZ}{v v' u:ah}{j:Nat}{xs ys:List α}(hu:P.underlying t=aa (.slice e))(hT:bN P e α)(hx:ev L x=aa v')(hy:ev L y=aa u)(ho:Ow T o k K w v xs)(ht:BO (ad.sz α) v v' j)(hr:fB (In o K) w u ys)(hd:nc K [k]=ab):
  OW P Q L ⟨d,.call {callee:= .builtin .copy,args:= #[x,y],argTypes:= #[t,t]},ty,pos,af,g⟩ w (λv0 w'=>v0= .int .i64 ((Min.min ys.length (xs.length-j):Nat):Int)∧bO [k] [] o w o w'∧Ow T o k K w' v (xs.take j++(ys.take (xs.length-j)++xs.drop (j+ys.length)))):=by
 obtain⟨p,m,c,h1,rfl,hj⟩:=ht
 obtain⟨q,cy,rfl,tV⟩:=hr
 have hm:m=xs.length:=by
  rcases ho with⟨rfl,rfl⟩|⟨gg,f,cap,aV,aJ,rfl,_⟩
  ·cases h1;rfl
  ·cases h1;rfl
 subst hm
 obtain⟨i,gp,ek,iu,mE⟩:=hT.nD
 by_cases he:Min.min ys.length (xs.length-j)=0
 ·have eF:xs.take j++(ys.take (xs.length-j)++xs.drop (j+ys.length))=xs:=by
   rcases Nat.eq_zero_or_pos ys.length with h0|h0
   ·have:ys=[]:=zj h0;subst this;simp
   ·rw[show xs.length-j=0 from by omega,List.take_zero,List.nil_append,akB (by omega),pR,xt (by omega)]
  rw[eF,he];refine OW.run λa ha=>⟨_,w,?_,rfl,bO.refl _ _ _ _,ho⟩;have yv:Nat.min ys.length (xs.length-j)=0:=he;have e0:(dL.copy_ #[t,t] ty #[ah.slice (if c=j then p else p.map (·.add (j*ad.sz α))) (xs.length-j) (c-j),ah.slice q ys.length cy]).run P w= .ok (.int .i64 0) w:=by cases(if c=j then p else p.map (·.add (j*ad.sz α)))<;>cases q<;>simp[dL.copy_,run_underlying hu,sizeOf,typeInfo,gp,dL.lenOf,dL.firstCells,loadCells,loadCellsFrom,storeCells,yv,goInt]
  simp[execOp,resolve,invoke,builtin,ha _ _ hx,ha _ _ hy,e0]
 ·rcases ho with⟨rfl,rfl⟩|⟨gg,f,cap,aV,aJ,rfl,h2,h3,h4,h5,h6,h7,h8⟩
  ·simp at he
  ·cases h1;rcases tV with rfl|⟨a,oJ,rfl,rq,pt⟩
   ·simp at he
   obtain⟨n,hn⟩:∃n,n=Min.min ys.length (xs.length-j):=⟨_,rfl⟩;have yD:¬c=j:=by omega
   have jU:(⟨gg,f,none⟩:Addr).add (j*ad.sz α)=⟨gg,f+j*ad.sz α,none⟩:=jI _ _ _;have Uw:aV.toList.length=aV.size:=nZ;have eH:=qD h7;have Dz:(oJ.take n).flatten=oJ.flatten.take (n*ad.sz α):=Bj rq.o9 n;have hfy:=qD rq;have hny:n*ad.sz α<=ys.length*ad.sz α:=mg _ (by omega);have t_:(j+n)*ad.sz α<=xs.length*ad.sz α:=mg _ (by omega);have hmul:xs.length*ad.sz α<=c*ad.sz α:=mg _ h4;rw[iQ]at t_;have hlen:(oJ.take n).flatten.length=n*ad.sz α:=by rw[Dz,oU];omega
   have mA:∀u∈(oJ.take n).flatten,u.oneCell'=ab:=λu hu=>by rw[Dz]at hu;exact Aa rq u (List.mem_of_mem_take hu)
   have hf:=run_firstCells_some (P:=P) w i.size n a ys.length cy (oJ.take n).flatten (by rw[hlen,ek]) (λz u hz=>pt z u (by
    rw[Dz,mh]at hz;split at hz
    ·exact hz
    ·cases hz))
   have bU:=run_storeCells_at P gg (f+j*ad.sz α) T (oJ.take n).flatten 0 aV w h3 (by omega) mA;simp only[Nat.add_zero]at bU;have b6:bO [k] [] o w o (w.setRow gg (aV.toList.take (f+j*ad.sz α)++(oJ.take n).flatten++aV.toList.drop (f+j*ad.sz α+(oJ.take n).flatten.length)).toArray):=bO.row _ h2;have e1:xs.take j++(ys.take (xs.length-j)++xs.drop (j+ys.length))=xs.take j++(ys.take n++xs.drop (j+n)):=by
    congr 1;rcases Nat.le_total ys.length (xs.length-j)with hle|hle
    ·rw[show n=ys.length by omega,xt hle,xt (bw _)]
    ·rw[show n=xs.length-j by omega,akB (by omega),akB (by omega)]
   have AX:(xs.take j++(ys.take n++xs.drop (j+n))).length=xs.length:=by simp;omega
   rw[e1,<-hn];refine OW.run λa' ha=>⟨goInt n,_,?_,rfl,b6,.inr ⟨gg,f,c,_,aJ.take j++(oJ.take n++aJ.drop (j+n)),by rw[AX],h2,setRow_heap w gg aV _ T _ h3,by rw[AX];exact h4,h5,?_,?_,?_⟩⟩
   ·have yv:Nat.min ys.length (xs.length-j)=n:=hn.symm;simp[execOp,resolve,invoke,builtin,ha _ _ hx,ha _ _ hy,dL.copy_,run_underlying hu,sizeOf,typeInfo,gp,dL.lenOf,yv,yD,jU,hf,bU]
   ·simp[hlen];omega
   ·exact cn.append ((h7.take j).mono λ_ _=>ad.mono (b6.ro hd)) (cn.append ((rq.take n).mono λ_ _=>ad.mono (b6.ro hd)) ((h7.drop (j+n)).mono λ_ _=>ad.mono (b6.ro hd)))
   ·rw[AX,nX,nX,Bj h7.o9,D5 h7.o9];have:=ZQ (A:=aV.toList.drop f) (c:=(oJ.take n).flatten) (m:=j*ad.sz α) (N:=xs.length*ad.sz α) (by rw[hlen];omega) (by rw[List.length_drop];omega);show((aV.toList.take (f+j*ad.sz α)++(oJ.take n).flatten++aV.toList.drop (f+j*ad.sz α+(oJ.take n).flatten.length)).drop f).take _=_;have e0:(aV.toList.take (f+j*ad.sz α)++(oJ.take n).flatten++aV.toList.drop (f+j*ad.sz α+(oJ.take n).flatten.length)).drop f=(aV.toList.drop f).take (j*ad.sz α)++(oJ.take n).flatten++(aV.toList.drop f).drop (j*ad.sz α+(oJ.take n).flatten.length):=by rw[d_,X9 (by rw[oU];omega),List.drop_take,BZ,d_,List.drop_drop,Nat.add_assoc]
    rw[e0,this,h8,hlen,<-iQ,d_]
