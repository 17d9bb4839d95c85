import Derived.Test.YtgaghlbepnjhiaaGreatDv
set_option linter.all false
open Array renaming getElem?_eq_some_iff->iR,length_toList->oj
open Bool renaming true->ab
open Go renaming Builtin->dO,Operand->ba,TypeId->aX,Value->ai,World->ax
open List renaming append_assoc->eg,append_nil->pb,drop_append_of_le_length->YZ,drop_of_length_le->alN,eq_nil_of_length_eq_zero->zF,ext_getElem?->xL,flatten_append->oh,flatten_cons->nE,getElem?_eq_getElem->oe,getElem?_eq_some_iff->g9,getElem?_set->o_,getElem?_take->mq,getElem_of_mem->F5,length_take->o9,map_append->mS,mem_cons_self->kI,mem_of_getElem?->o8,range->bW,replicate->cR,take_of_length_le->xH
open Nat renaming add_mul->jc,add_sub_cancel_left->Ci,le_refl->bw,mul_le_mul_right->mo,succ_mul->pX,zero_add->ke
open Option renaming some->aa
open Option.some renaming inj->kb
namespace Go.Proofs.YtgaghlbepnjhiaaGreat
open Go Go.RowKit
namespace Dp
class nD(α:Type)[ad α]:Prop where
 loc:∀{S:Nat->Prop} {w:ax} {cs:List ai} {x:α},ad.rd S w cs x->ad.rd (λb=>S b∧∃p n c,ai.slice (aa p) n c∈cs∧p.block=b) w cs x
instance:nD Int:=⟨λh=>h⟩
instance:nD Bool:=⟨λh=>h⟩
instance:nD ByteArray:=⟨λh=>h⟩
instance:nD U8:=⟨λh=>h⟩
instance{β:Type}[ad β][Flat β]:nD (List β):=⟨by
 rintro S w cs x ⟨p,cap,rfl,h1,h2,h3⟩;refine⟨p,cap,rfl,h1,h2,?_⟩;rcases h3 with h3|⟨a,aJ,rfl,h4,h5,h6⟩
 ·exact .inl h3
 ·exact .inr ⟨a,aJ,rfl,⟨h4,a,x.length,cap,by simp,rfl⟩,h5.mono λ_ _=>Flat.any,h6⟩⟩
instance{α β:Type}[ad α][ad β][nD α][nD β]:nD (α×β):=⟨by
 rintro S w cs x ⟨c1,c2,rfl,h1,h2⟩;refine⟨c1,c2,rfl,ad.mono ?_ (nD.loc h1),ad.mono ?_ (nD.loc h2)⟩
 ·rintro b ⟨hb,p,n,c,hm,e⟩ _;exact⟨⟨hb,p,n,c,List.mem_append_left _ hm,e⟩,rfl⟩
 ·rintro b ⟨hb,p,n,c,hm,e⟩ _;exact⟨⟨hb,p,n,c,List.mem_append_right _ hm,e⟩,rfl⟩⟩
def QE(z:Nat)(Tc:aX)(o:cE)(kc:Nat)(w:ax)(u:ai):Prop:=∀p n c,u= .slice p n c->(p=none∧n=0∧c=0)∨∃g f aU,p=aa ⟨g,f,none⟩∧o g=kc∧w.heap[g]? =aa (.cells aU Tc (0,0))∧n<=c∧c<=maxLen∧f+c*z<=aU.size
def Dst(l:List ai):Prop:=∀(i j:Nat) (p q:Addr) (n m c d:Nat),l[i]? =aa (.slice (aa p) n c)->l[j]? =aa (.slice (aa q) m d)->p.block=q.block->i=j
def iM{α:Type}[ad α](z:Nat)(T Tc:aX)(o:cE)(k kc:Nat)(w:ax)(v:ai)(xs:List α):Prop:=
 (v= .slice none 0 0∧xs=[])∨
 ∃g cap aU aJ,v= .slice (aa ⟨g,0,none⟩) xs.length cap∧o g=k∧w.heap[g]? =aa (.cells aU T (0,0))∧xs.length<=cap∧cap<=maxLen∧aU.size=cap*ad.sz α∧
  cA (ad.rd (In o [kc]) w) aJ xs∧aU.toList.take (xs.length*ad.sz α)=aJ.flatten∧(∀u∈aJ.flatten,QE z Tc o kc w u)∧Dst aJ.flatten
section
variable {α β:Type} [ad α] [ad β] {z:Nat} {T Tc:aX} {o o':cE} {k kc k' DW:Nat} {w w':ax} {v u:ai} {xs:List α} {M N:List Nat}
def iM.ow(h:iM z T Tc o k kc w v xs):Ow T o k [kc] w v xs:=by
 rcases h with h|⟨g,cap,aU,aJ,h1,h2,h3,h4,h5,h6,h7,h8,_⟩
 ·exact .inl h
 ·exact .inr ⟨g,0,cap,aU,aJ,h1,h2,h3,h4,h5,by rw[h6,ke];exact bw _,h7,h8⟩
def iM.rv(h:iM z T Tc o k kc w v xs):Rv (In o [k,kc]) w v xs:=h.ow.rv
def iM.nil(z:Nat)(T Tc:aX)(o:cE)(k kc:Nat)(w:ax):iM z T Tc o k kc w (.slice none 0 0) ([]:List α):= .inl ⟨rfl,rfl⟩
def iM.one(h:iM z T Tc o k kc w v xs):v.oneCell'=ab:=h.ow.one
def QE.rQ(h:QE z Tc o kc w u)(ev:bJ M N o w o' w')(hd:j7 [kc] M=ab):QE z Tc o' kc w' u:=by
 intro p n c e;rcases h p n c e with h|⟨g,f,aU,h1,h2,h3,h4⟩
 ·exact .inl h
 ·have aS:g<w.heap.size:=(iR.1 h3).1;exact .inr ⟨g,f,aU,h1,by rw[ev.fU g aS];exact h2,by rw[ev.nu g aS (IS hd (by rw[h2];exact kI))];exact h3,h4⟩
def iM.rQ(h:iM z T Tc o k kc w v xs)(ev:bJ M N o w o' w')(hd:j7 [k,kc] M=ab):iM z T Tc o' k kc w' v xs:=by
 have hdc:j7 [kc] M=ab:=by simp only[j7,List.all_cons,Bool.and_eq_true]at hd⊢;exact⟨hd.2.1,rfl⟩
 rcases h with h|⟨g,cap,aU,aJ,h1,h2,h3,h4,h5,h6,h7,h8,h9,rO⟩
 ·exact .inl h
 ·have aS:g<w.heap.size:=(iR.1 h3).1;exact .inr ⟨g,cap,aU,aJ,h1,by rw[ev.fU _ aS];exact h2,by rw[ev.nu _ aS (IS hd (by rw[h2];exact kI))];exact h3,h4,h5,h6,h7.mono λ_ _=>ad.mono (ev.ro hdc),h8,λu hu=>(h9 u hu).rQ ev hdc,rO⟩
def FY(o:cE)(k:Nat)(w:ax)(pa:Addr)(u:ai):Prop:=o pa.block=k∧w.cell? pa=aa u
def FY.rQ{pa:Addr}(h:FY o k w pa u)(ev:bJ M N o w o' w')(hd:j7 [k] M=ab):FY o' k w' pa u:=by have aS:=ax.block_lt_of_cell? w pa h.2;have bM:o pa.block∉M:=IS hd (by rw[h.1];exact kI);refine⟨by rw[ev.fU _ aS];exact h.1,?_⟩;rw[<-h.2];exact ax.cell?_of_block (ev.nu _ aS bM)
def sw(aU:Array ai)(q:Nat)(v':ai):Array ai:=(aU.toList.take q++[v']++aU.toList.drop (q+1)).toArray
def uE(z:Nat)(T Tc:aX)(o:cE)(k kc:Nat)(w:ax)(v:ai)(xs:List α)(pq:Addr)(v':ai):Prop:=∃g q aU,pq=⟨g,q,none⟩∧o g=k∧w.heap[g]? =aa (.cells aU T (0,0))∧v'.oneCell'=ab∧q<aU.size∧iM z T Tc o k kc (w.setRow g (sw aU q v')) v xs
def bJ.both{g:Nat}{X aU:Array ai}{T:aX}(ev:bJ M N o w o' w')(hg:w.heap[g]? =aa (.cells aU T (0,0)))(he:w'.heap[g]? =w.heap[g]?):bJ M N o (w.setRow g X) o' (w'.setRow g X):=by
 refine⟨ev.os,ev.tape,ev.output,by simpa using ev.size,λb hb=>ev.fU b (by simpa using hb),λb h1 h2=>ev.new b (by simpa using h1) (by simpa using h2),λb hb bM=>?_⟩;have iq:b<w.heap.size:=by simpa using hb
 by_cases Bs:b=g
 ·subst Bs;rw[setRow_heap w b aU X T (0,0) hg,setRow_heap w' b aU X T (0,0) (by rw[he];exact hg)]
 ·rw[setRow_other w' g b X Bs,setRow_other w g b X Bs];exact ev.nu b iq bM
def uE.rQ{pq:Addr}(h:uE z T Tc o k kc w v xs pq u)(ev:bJ M N o w o' w')(hd:j7 [k,kc] M=ab):uE z T Tc o' k kc w' v xs pq u:=by obtain⟨g,q,aU,h1,h2,h3,h4,h5,h6⟩:=h;have aS:g<w.heap.size:=(iR.1 h3).1;have he:=ev.nu _ aS (IS hd (by rw[h2];exact kI));exact⟨g,q,aU,h1,by rw[ev.fU _ aS];exact h2,by rw[he];exact h3,h4,h5,h6.rQ (ev.both h3 he) hd⟩
end
def cA.aco{α:Type}{R R':List ai->α->Prop}:∀{cs:List (List ai)} {xs:List α},(∀c∈cs,∀x,R c x->R' c x)->cA R cs xs->cA R' cs xs
 |[],[],_,_=>trivial
 |_::_,_::_,hr,h=>⟨hr _ (by simp) _ h.1,cA.aco (λc hc=>hr c (by simp[hc])) h.2⟩
 |[],_::_,_,h=>h.elim
 |_::_,[],_,h=>h.elim
def zZ{α:Type}{l:List α}{q:Nat}{x:α}(h:q<l.length):l.take q++[x]++l.drop (q+1)=l.set q x:=by rw[List.set_eq_take_append_cons_drop,aI h];simp
def N3{z:Nat}{aJ:List (List ai)}(hz:∀c∈aJ,c.length=z){j off:Nat}{c:List ai}(hc:aJ[j]? =aa c)(ho:off<z)(v:ai):
  (aJ.set j (c.take off++[v]++c.drop (off+1))).flatten=aJ.flatten.set (j*z+off) v:=by
 have dh:c.length=z:=hz c (o8 hc)
 rw[zZ (by omega)]
 induction aJ generalizing j with
 |nil=>simp at hc
 |cons b aJ ih=>
  have hb:b.length=z:=hz b (by simp)
  cases j with
  |zero=>
   have:b=c:=by simpa using hc
   subst this
   simp only[List.set_cons_zero,nE,Nat.zero_mul,ke]
   rw[List.set_append_left _ _ (by omega)]
  |succ j=>
   have e1:(j+1)*z+off=b.length+(j*z+off):=by rw[hb,pX];omega
   simp only[List.set_cons_succ,nE,e1]
   rw[List.set_append_right _ _ (by omega),Ci,ih (λc hc=>hz c (by simp[hc])) (by simpa using hc)]
def cO(o:cE)(n:Nat):∃kx,∀b,b<n->o b<kx:=by
 induction n with
 |zero=>exact⟨0,λb h=>by omega⟩
 |succ n ih=>
  obtain⟨kx,h⟩:=ih;refine⟨kx+o n+1,λb hb=>?_⟩;by_cases e:b=n
  ·subst e;omega
  ·have:=h b (by omega);omega
section
variable {α β:Type} [ad α] [ad β]
variable {P:Program} {Q:Exit->Act->ax->Prop} {L:List (Nat×ai)} {w:ax} {d:Option Tmp} {ty:aX} {pos:String} {af:Array Edge} {g:Option (Nat×Bool)} {t T e:aX} {o:cE} {k kc:Nat}
structure kD(off:Nat)(f:α->List β)(st:α->List β->α):Prop where
 vn:∀{S:Nat->Prop} {w:ax} {cs:List ai} {x:α},ad.rd S w cs x->∃c1 c c2,cs=c1++c++c2∧c1.length=off∧ad.rd S w c (f x)
 set:aEa off st
 two:∀x a b,st (st x a) b=st x b
def ap7 [nD α][Flat β]{f:α->List β}{st:α->List β->α}{off:Nat}{v u vx:ai}{xs zs:List α}{y:α}{ys l':List β}{j:Int}{pa:Addr}(hF:kD off f st)(hu:P.underlying t=aa (.slice e))(hT:bN P e β)
  (ho:iM (ad.sz β) T e o k kc w v xs) (hE:FU v (ad.sz α) j pa) (hc:FY o k w (pa.add off) u) (hy:idx xs j=aa y) {S:Nat->Prop} (hx:fJ S w vx ys) (hz:bD (f y) ys=aa l') (hs:dq xs j (st y l')=aa zs) (hk:Nat.beq k kc=false):
  ∃v' w' o',(dO.append_ #[t,t] ty #[u,vx]).run P w= .ok v' w'∧bJ [kc] [kc] o w o' w'∧uE (ad.sz β) T e o' k kc w' v zs (pa.add off) v':=by
 have ue:k≠kc:=λe=>by subst e;simp at hk
 unfold idx at hy
 split at hy
 case isFalse=>cases hy
 rename_i h0
 have aS:j.toNat<xs.length:=(g9.1 hy).1
 unfold dq at hs
 split at hs
 case isFalse=>cases hs
 cases hs
 rcases ho with⟨rfl,rfl⟩|⟨gg,cap,aU,aJ,rfl,h2,h3,h4,h5,h6,h7,h8,h9,rO⟩
 ·simp at aS
 obtain⟨a,m,zi,hv,rfl⟩:=hE
 have ha:a=⟨gg,0,none⟩:=by have:=iF (λv=>match v with|Value.slice (aa a) _ _=>a|_=>(⟨0,0,none⟩:Addr)) hv;simpa using this.symm
 subst ha
 obtain⟨c,jD,kz⟩:=h7.get hy
 have eQ:=h7.pu
 have dh:c.length=ad.sz α:=ad.len kz
 have jX:((⟨gg,0,none⟩:Addr).add (j.toNat*ad.sz α)).add off=⟨gg,j.toNat*ad.sz α+off,none⟩:=by rw[Fw];unfold Addr.add;split<;>simp_all
 rw[jX]at hc⊢
 obtain⟨c1,cc,c2,qJ,En,sK⟩:=hF.vn kz
 obtain⟨p0,IZ,rfl,r1,r2,r3⟩:=sK
 have Ba:off<ad.sz α:=by rw[<-dh,qJ];simp;omega
 have av1:c[off]? =aa (.slice p0 (f y).length IZ):=by rw[qJ,eg,List.getElem?_append_right (by omega),En];simp
 have NQ:aJ.flatten[j.toNat*ad.sz α+off]? =aa (.slice p0 (f y).length IZ):=N4 eQ jD av1
 have eL:=qN h7
 have hmul:(j.toNat+1)*ad.sz α<=xs.length*ad.sz α:=mo _ aS
 have au1:xs.length*ad.sz α<=cap*ad.sz α:=mo _ h4
 rw[pX]at hmul
 generalize hq:j.toNat*ad.sz α+off=q at*
 have Nn:q<aJ.flatten.length:=by omega
 have hqc:q<aU.size:=by omega
 have Ng:u= .slice p0 (f y).length IZ:=by
  have e1:=hc.2;rw[cell_of_row w gg q aU T (0,0) h3]at e1;have e2:aJ.flatten[q]? =aU.toList[q]? :=by rw[<-h8,mq,aI (by omega)]
  rw[NQ]at e2;simp only[Array.getElem?_toList]at e2;rw[e1]at e2;exact(kb e2).symm
 have yX:=h9 _ (o8 NQ)
 obtain⟨kx,H5⟩:=cO o (w.heap.size+gg+1)
 have Ei:gg<w.heap.size:=(iR.1 h3).1
 have key:∃(gs:Option Nat) (ox:cE),(∀b,ox b=if aa b=gs then kx else o b)∧(∀b,gs=aa b->b<w.heap.size∧o b=kc)∧Ow e ox kx [] w u (f y)∧(∀b,gs=aa b->∃p,p0=aa p∧p.block=b):=by
  rcases yX _ _ _ rfl with⟨e1,e2,e3⟩|⟨g',f',EW,e1,e2,e3,e4,e5,e6⟩
  ·subst e1;refine⟨none,o,?_,?_,?_,?_⟩
   ·intro b;simp
   ·intro b h;cases h
   ·exact .inl ⟨by rw[Ng,e2,e3],zF e2⟩
   ·intro b h;cases h
  ·subst e1;refine⟨aa g',λb=>if aa b=aa g' then kx else o b,?_,?_,.inr ?_,?_⟩
   ·intro b;rfl
   ·intro b h;cases h;exact⟨(iR.1 e3).1,e2⟩
   rotate_left
   ·intro b h;exact⟨⟨g',f',none⟩,rfl,kb h⟩
   have jk:∃k_,cA (ad.rd (In (λb=>if aa b=aa g' then kx else o b) []) w) k_ (f y)∧(EW.toList.drop f').take ((f y).length*ad.sz β)=k_.flatten:=by
    rcases r3 with r3|⟨a,k_,r4,r5,r6,r7⟩
    ·rw[r3];exact⟨[],trivial,by simp⟩
    ·cases r4;refine⟨k_,r6.mono λ_ _=>Flat.any,?_⟩;have pL:=qN r6;have hle:(f y).length*ad.sz β<=IZ*ad.sz β:=mo _ e4;apply xL;intro i;by_cases hi:i<k_.flatten.length
     ·have e7:k_.flatten[i]? =aa k_.flatten[i]:=oe hi;have e8:=r7 i _ e7;rw[jR,cell_of_row w g' (f'+i) EW e (0,0) e3]at e8;rw[mq,aI (by omega),e7];simpa using e8
     ·rw[List.getElem?_eq_none (by simp;omega),List.getElem?_eq_none (by omega)]
   obtain⟨k_,Vv,Vu⟩:=jk;exact⟨g',f',IZ,EW,k_,Ng,by simp,e3,r1,r2,e6,Vv,Vu⟩
 obtain⟨gs,ox,hox,Eh,kw,UI⟩:=key
 have hxE:fJ (In ox []) w vx ys:=hx.flat
 obtain⟨v',w',o1,fD,b8,A8⟩:=abd (P:=P) (ty:=ty) hu hT kw hxE hz (by simp[j7])
 have aEB:=b8.size
 have ad8:∀b,b<w.heap.size->ox b=kx->gs=aa b:=by
  intro b hb h;rw[hox]at h;split at h
  ·rename_i h';exact h'.symm
  ·have:=H5 b (by omega);omega
 have Bk:∀b,b<w.heap.size->gs≠aa b->w'.heap[b]? =w.heap[b]? :=λb hb bM=>b8.nu b hb λhm=>bM (ad8 b hb (by simpa using hm))
 have avK:bJ [kc] [kc] o w (grow o w kc) w':=⟨b8.os,b8.tape,b8.output,b8.size,λb hb=>by simp[grow,hb],λb h1 _=>by simp[grow,Nat.not_lt.2 h1],λb hb bM=>Bk b hb λh=>bM (by simp[(Eh b h).2])⟩
 have hgg:gs≠aa gg:=λh=>ue (h2.symm.trans (Eh gg h).2)
 have adV:w'.heap[gg]? =aa (.cells aU T (0,0)):=by rw[Bk gg Ei hgg];exact h3
 have xc:∀b,b<w'.heap.size->o1 b=kx->gs=aa b∨w.heap.size<=b:=by
  intro b hb h;by_cases aS:b<w.heap.size
  ·rw[b8.fU b aS]at h;exact .inl (ad8 b aS h)
  ·exact .inr (by omega)
 have qF:∀b,b<w'.heap.size->(gs=aa b∨w.heap.size<=b)->grow o w kc b=kc∧b≠gg:=by
  intro b _ h;rcases h with h|h
  ·exact⟨by simp[grow,(Eh b h).1,(Eh b h).2],λe=>hgg (e▸h)⟩
  ·exact⟨by simp[grow,Nat.not_lt.2 h],by omega⟩
 have fW:∀b,b≠gg->(w'.setRow gg (sw aU q v')).heap[b]? =w'.heap[b]? :=λb hb=>setRow_other w' gg b _ hb
 have mI:=A8.one
 have UJ:∀i p n cc,i≠q->aJ.flatten[i]? =aa (.slice (aa p) n cc)->gs≠aa p.block:=by intro i p n cc oM iK Vc;obtain⟨p1,hp,Ew⟩:=UI _ Vc;rw[hp]at NQ;exact oM (rO _ _ _ _ _ _ _ _ NQ iK Ew).symm
 refine⟨v',w',grow o w kc,fD,avK,gg,q,aU,rfl,by simp[grow,Ei,h2],adV,mI,hqc,.inr ⟨gg,cap,sw aU q v',aJ.set j.toNat (c.take off++[v']++c.drop (off+1)),by simp,by simp[grow,Ei,h2],setRow_heap w' gg aU _ T _ adV,by simpa using h4,h5,?_,?_,?_,?_,?_⟩⟩
 ·simp[sw];omega
 ·
  have HW:ad.rd (In o [kc]) w [.slice none 0 0] ([]:List β):=ad.gh (α:=List β) _ _
  have Bt:cA (ad.rd (In o [kc]) w) (aJ.set j.toNat (c.take off++[.slice none 0 0]++c.drop (off+1))) (xs.set j.toNat (st y [])):=cA.set h7 j.toNat (by have:=hF.set kz HW;simpa using this)
  have aeC:=N3 eQ jD Ba (.slice none 0 0)
  rw[hq]at aeC
  have pN:cA (ad.rd (In (grow o w kc) [kc]) (w'.setRow gg (sw aU q v'))) (aJ.set j.toNat (c.take off++[.slice none 0 0]++c.drop (off+1))) (xs.set j.toNat (st y [])):=by
   refine cA.aco (λcs jk x hr=>ad.mono ?_ (nD.loc hr)) Bt;rintro b ⟨hb,p,n,cc,hm,rfl⟩ Be;have hbk:o p.block=kc:=by simpa[In]using hb
   have bM:gs≠aa p.block:=by
    intro Vc;have UR:ai.slice (aa p) n cc∈aJ.flatten.set q (.slice none 0 0):=aeC▸List.mem_flatten.2 ⟨cs,jk,hm⟩;obtain⟨i,fP,eb⟩:=F5 UR;have iK:(aJ.flatten.set q (.slice none 0 0))[i]? =aa (.slice (aa p) n cc):=by rw[oe fP,eb]
    by_cases oM:q=i
    ·subst oM;rw[o_,aI rfl,aI Nn]at iK;simp at iK
    ·rw[o_,aK oM]at iK;exact UJ i p n cc (λe=>oM e.symm) iK Vc
   refine⟨by simp[In,grow,Be,hbk],?_⟩;rw[fW _ (λe=>ue (by rw[<-h2,<-e,hbk])),Bk _ Be bM]
  have aEK:j.toNat<(xs.set j.toNat (st y [])).length:=by simpa using aS
  obtain⟨cs0,aeL,Vv⟩:=pN.get (i:=j.toNat) (x:=st y []) (by simp[aS])
  have U6:j.toNat<aJ.length:=by rw[h7.length];exact aS
  have Vu:cs0=c.take off++[.slice none 0 0]++c.drop (off+1):=by rw[o_,aI rfl,aI U6]at aeL;exact(kb aeL).symm
  have aus:ad.rd (In (grow o w kc) [kc]) (w'.setRow gg (sw aU q v')) [v'] l':=by
   refine ad.mono ?_ (Rv.SU A8.rv rfl);intro b hb Be;have iq:o1 b=kx:=by simpa[In]using hb
   obtain⟨e1,e2⟩:=qF b Be (xc b Be iq);exact⟨by simp[In,e1],fW b e2⟩
  have jO:=cA.set pN j.toNat (hF.set Vv aus)
  rw[List.set_set,List.set_set,hF.two,Vu]at jO
  have e1:List.take off (c.take off++[ai.slice none 0 0]++c.drop (off+1))++[v']++List.drop (off+[v'].length) (c.take off++[ai.slice none 0 0]++c.drop (off+1))=c.take off++[v']++c.drop (off+1):=by rw[show off+[v'].length=off+1 from rfl,zZ (l:=c) (by omega),zZ (l:=c) (by omega),zZ (by simp;omega),List.set_set]
  rw[e1]at jO
  exact jO
 ·rw[List.length_set];have:=N3 eQ jD Ba v';rw[hq]at this;rw[this];have rM:q<aU.toList.length:=by simpa using hqc
  show(aU.toList.take q++[v']++aU.toList.drop (q+1)).take (xs.length*ad.sz α)=_;rw[zZ rM,<-h8,List.take_set]
 ·have:=N3 eQ jD Ba v';rw[hq]at this;rw[this];intro u1 hu1 p n cc e7;obtain⟨i,fP,eb⟩:=F5 hu1;have iK:(aJ.flatten.set q v')[i]? =aa u1:=by rw[oe fP,eb]
  by_cases oM:q=i
  case neg=>
   rw[o_,aK oM]at iK;rcases h9 u1 (o8 iK) p n cc e7 with h|⟨g1,f1,OS,i1,i2,i3,i4⟩
   ·exact .inl h
   ·subst i1;rw[e7]at iK;have bM:=UJ i _ _ _ (λe=>oM e.symm) iK;have yT:=(iR.1 i3).1;exact .inr ⟨g1,f1,OS,rfl,by simp[grow,yT,i2],by rw[fW g1 (λe=>ue (by rw[<-h2,<-e,i2])),Bk g1 yT bM];exact i3,i4⟩
  case pos=>
   subst oM;rw[o_,aI rfl,aI Nn]at iK;obtain rfl:=kb iK;rcases A8 with⟨hn,_⟩|⟨g1,f1,azB,OS,ay6,i1,i2,i3,i4,i5,i6,i7,i8⟩
   ·rw[hn]at e7;cases e7;exact .inl ⟨rfl,rfl,rfl⟩
   ·rw[i1]at e7;cases e7;have yT:=(iR.1 i3).1;obtain⟨e1,e2⟩:=qF g1 yT (xc g1 yT i2);exact .inr ⟨g1,f1,OS,rfl,e1,by rw[fW g1 e2];exact i3,i4,i5,i6⟩
 ·have:=N3 eQ jD Ba v';rw[hq]at this;rw[this];have hvq:∀i p n cc,i≠q->aJ.flatten[i]? =aa (.slice (aa p) n cc)->∀p' n' c',v'= .slice (aa p') n' c'->p.block≠p'.block:=by
   intro i p n cc oM hi p' n' c' e7 HS;have bM:=UJ i p n cc oM hi;rcases h9 _ (o8 hi) p n cc rfl with⟨e1,_⟩|⟨g2,f2,aE6,e1,e2,e3,_⟩
   ·cases e1
   ·cases e1;have hg2:=(iR.1 e3).1;rcases A8 with⟨hn,_⟩|⟨g1,f1,azB,OS,ay6,i1,i2,i3,_⟩
    ·rw[hn]at e7;cases e7
    ·rw[i1]at e7;cases e7;have auG:g2=g1:=HS;subst auG;rcases xc g2 (iR.1 i3).1 i2 with h|h
     ·exact bM h
     ·omega
  intro i j' p p' n n' c' d' hi hj HS;by_cases oM:q=i
  ·by_cases H_:q=j'
   ·omega
   ·subst oM;rw[o_,aK H_]at hj;rw[o_,aI rfl,aI Nn]at hi;exact(hvq j' _ _ _ (λe=>H_ e.symm) hj _ _ _ (kb hi) HS.symm).elim
  ·by_cases H_:q=j'
   ·subst H_;rw[o_,aK oM]at hi;rw[o_,aI rfl,aI Nn]at hj;exact(hvq i _ _ _ (λe=>oM e.symm) hi _ _ _ (kb hj) HS).elim
   ·rw[o_,aK oM]at hi;rw[o_,aK H_]at hj;exact rO _ _ _ _ _ _ _ _ hi hj HS
end
def iM.mono{α:Type}[ad α]{z:Nat}{T Tc:aX}{o o':cE}{k kc k' DW:Nat}{w w':ax}{v:ai}{xs:List α}(hk:∀b,b<w.heap.size->o b=k->o' b=k'∧w'.heap[b]? =w.heap[b]?)(hc:∀b,b<w.heap.size->o b=kc->o' b=DW∧w'.heap[b]? =w.heap[b]?)(h:iM z T Tc o k kc w v xs):iM z T Tc o' k' DW w' v xs:=by
 rcases h with h|⟨g,cap,aU,aJ,h1,h2,h3,h4,h5,h6,h7,h8,h9,rO⟩
 ·exact .inl h
 ·obtain⟨e1,e2⟩:=hk g (iR.1 h3).1 h2;refine .inr ⟨g,cap,aU,aJ,h1,e1,by rw[e2];exact h3,h4,h5,h6,h7.mono λ_ _=>ad.mono λb hb aS=>?_,h8,λu hu p n c e=>?_,rO⟩
  ·have hb:o b=kc:=by simpa[In]using hb
   obtain⟨f1,f2⟩:=hc b aS hb;exact⟨by simp[In,f1],f2⟩
  ·rcases h9 u hu p n c e with h|⟨g',f',EW,i1,i2,i3,i4⟩
   ·exact .inl h
   ·obtain⟨f1,f2⟩:=hc g' (iR.1 i3).1 i2;exact .inr ⟨g',f',EW,i1,f1,by rw[f2];exact i3,i4⟩
def uE.mono{α:Type}[ad α]{z:Nat}{T Tc:aX}{o o':cE}{k kc k' DW:Nat}{w w':ax}{v u:ai}{xs:List α}{pq:Addr}(hk:∀b,b<w.heap.size->o b=k->o' b=k'∧w'.heap[b]? =w.heap[b]?)(hc:∀b,b<w.heap.size->o b=kc->o' b=DW∧w'.heap[b]? =w.heap[b]?)(h:uE z T Tc o k kc w v xs pq u):uE z T Tc o' k' DW w' v xs pq u:=by
 obtain⟨g,q,aU,h1,h2,h3,h4,h5,h6⟩:=h;obtain⟨e1,e2⟩:=hk g (iR.1 h3).1 h2;have Ev:w'.heap[g]? =aa (.cells aU T (0,0)):=by rw[e2];exact h3
 have key:∀{c c':Nat},(∀b,b<w.heap.size->o b=c->o' b=c'∧w'.heap[b]? =w.heap[b]?)->∀b,b<(w.setRow g (sw aU q u)).heap.size->o b=c->o' b=c'∧(w'.setRow g (sw aU q u)).heap[b]? =(w.setRow g (sw aU q u)).heap[b]? :=by
  intro c c' h b hb hoc;obtain⟨f1,f2⟩:=h b (by simpa using hb) hoc;refine⟨f1,?_⟩;by_cases Bs:b=g
  ·subst Bs;rw[setRow_heap w b aU _ T (0,0) h3,setRow_heap w' b aU _ T (0,0) Ev]
  ·rw[setRow_other w' g b _ Bs,setRow_other w g b _ Bs];exact f2
 exact⟨g,q,aU,h1,e1,Ev,h4,h5,h6.mono (key hk) (key hc)⟩
section
variable {α β:Type} [ad α] [ad β]
variable {P:Program} {Q:Exit->Act->ax->Prop} {L:List (Nat×ai)} {w:ax} {d:Option Tmp} {ty:aX} {pos:String} {af:Array Edge} {g:Option (Nat×Bool)} {t T e Tc:aX} {o:cE} {k kc z:Nat} {K:List Nat}
def OW.aDO [Rd][nD α][Flat β]{s x:ba}{f:α->List β}{st:α->List β->α}{off:Nat}{v u vx:ai}{xs zs:List α}{y:α}{ys l':List β}{j:Int}{pa:Addr}{S:Nat->Prop}(hF:kD off f st)(hu:P.underlying t=aa (.slice e))(hT:bN P e β)(hs:ev L s=aa u)(hx:ev L x=aa vx)
  (ho:iM (ad.sz β) T e o k kc w v xs) (hE:FU v (ad.sz α) j pa) (hc:FY o k w (pa.add off) u) (hy:idx xs j=aa y) (hr:fJ S w vx ys) (hz:bD (f y) ys=aa l') (oH:dq xs j (st y l')=aa zs) (hk:Nat.beq k kc=false):
  OW P Q L ⟨d,.call {callee:= .builtin .append,args:= #[s,x],argTypes:= #[t,t]},ty,pos,af,g⟩ w (λv' w'=>∃o',bJ [kc] [kc] o w o' w'∧uE (ad.sz β) T e o' k kc w' v zs (pa.add off) v'):=by
 obtain⟨v',w',o',h1,h2,h3⟩:=ap7 (P:=P) (ty:=ty) hF hu hT ho hE hc hy hr hz oH hk
 refine OW.run λa ha=>⟨v',w',?_,o',h2,h3⟩
 simp[execOp,resolve,invoke,builtin,ha _ _ hs,ha _ _ hx,h1]
def QN(l:List ai):Bool:=l.all λu=>match u with
 | .slice none 0 0=>ab
 | .slice _ _ _=>false
 |_=>ab
def Y6{l:List ai}(h:QN l=ab){p:Option Addr}{n c:Nat}(hm:ai.slice p n c∈l):p=none∧n=0∧c=0:=by
 have:=List.all_eq_true.1 h _ hm;match p,n,c,this with
 |none,0,0,_=>exact⟨rfl,rfl,rfl⟩
def OW.asj [Rd]{u1 u2:ba}{zs:List α}{m:Int}(kc z:Nat)(Tc:aX)(tX:QN (ad.zc α)=ab)(hu:P.underlying t=aa (.slice e))(hT:bN P e α)(h1:ev L u1=aa (.int .i64 m))(h2:ev L u2=aa (.int .i64 m))(hm:yx α m=aa zs):
  OW P Q L ⟨d,.makeSlice t u1 u2,ty,pos,af,g⟩ w (λv' w'=>∃o',bJ [] [k] o w o' w'∧iM z e Tc o' k kc w' v' zs):=by
 unfold yx at hm
 split at hm
 case isFalse=>cases hm
 rename_i hb
 cases hm
 obtain⟨i,fP,eb,iK,mK⟩:=hT.m_
 have hr:=run_make (P:=P) w t e i _ hu fP mK .i64 .i64 m m hb.1 (by omega) (by
  have h:(i.bytes:Int)<=65536:=by omega
  have h':(i.bytes:Int)*m<=65536*1073741824:=Int.mul_le_mul h hb.2 hb.1 (by omega);omega) (by omega)
 have aeB:∀q:Nat,∀u∈(cR q (ad.zc α)).flatten,u∈ad.zc α:=by intro q u hu;obtain⟨l,hl,HN⟩:=List.mem_flatten.1 hu;rw[List.mem_replicate]at hl;exact hl.2▸HN
 refine OW.run λa ha=>⟨.slice (aa ⟨w.heap.size,0,none⟩) m.toNat m.toNat,w.alloc (.cells (madeCells (pack (ad.agg α) (ad.zc α)).cells (m.toNat*i.size)) e),?_,_,bJ.alloc o w _ k,.inr ⟨w.heap.size,m.toNat,_,cR m.toNat (ad.zc α),?_,sT o w k _ (bw _),heap_alloc_new w _,by simp,?_,?_,?_,?_,?_,?_⟩⟩
 ·simp[execOp,ha _ _ h1,ha _ _ h2,hr]
 ·simp
 ·unfold maxLen;omega
 ·simp[size_madeCells,eb]
 ·exact cA.replicate (ad.gh _ _) _
 ·have hz:(pack (ad.agg α) (ad.zc α)).cells.toList=ad.zc α:=wR (α:=α) (ad.gh (λ_=>True) w);have ie:(ad.zc α).length=ad.sz α:=ad.len (ad.gh (α:=α) (λ_=>True) w);have oI:=ad.pos (α:=α);generalize hzz:(pack (ad.agg α) (ad.zc α)).cells=z at*;rw[eb];rw[List.length_replicate,xH (by simp[size_madeCells])];unfold madeCells;have jh:z.size=ad.sz α:=by rw[<-oj,hz,ie]
  have key:∀q:Nat,(bW (q*ad.sz α)).map (z[·% z.size]!)=(cR q (ad.zc α)).flatten:=by
   intro q;induction q with
   |zero=>simp
   |succ q ih=>
    rw[List.replicate_succ',oh,<-ih,pX,List.range_add,mS];congr 1;simp only[List.map_map,List.flatten_singleton];rw[<-hz];apply xL;intro j;by_cases hj:j<ad.sz α
    ·have e1:(q*ad.sz α+j)% z.size=j:=by rw[jh,Nat.mul_comm,Nat.mul_add_mod,Nat.mod_eq_of_lt hj]
     have nT:j<z.size:=by omega
     simp[hj,e1,nT,getElem!_pos]
    ·simp[hj,jh]
  simpa using key m.toNat
 ·intro u hu p n c e;subst e;exact .inl (Y6 tX (aeB _ _ hu))
 ·intro i j p q n m c d hi _ _;have:=Y6 tX (aeB _ _ (o8 hi));cases this.1
def OW.adq [Rd]{v:ai}{xs:List α}{y:α}{u i:ba}{q:IntKind}{j:Int}{a:Addr}{cap:Nat}(hu:P.underlying t=aa (.slice e))(hT:bN P e α)(hx:ev L u=aa v)(h:v= .slice (aa a) xs.length cap)
  (hi:ev L i=aa (.int q j)) (hj:idx xs j=aa y):
  OW P Q L ⟨d,.indexAddr t u i,ty,pos,af,g⟩ w (λv' w'=>w'=w∧v'= .pointer (aa (a.add (j.toNat*ad.sz α)))):=by
 subst h
 unfold idx at hj
 split at hj
 ·rename_i h0;have aS:j.toNat<xs.length:=(g9.1 hj).1;refine OW.run λb hb=>⟨_,w,?_,rfl,rfl⟩;have dt:j<(xs.length:Int):=by omega
  have e1:b.eval u=_:=hb _ _ hx;have e2:b.eval i=_:=hb _ _ hi;simp[execOp,e1,e2,Instr.indexAt,asIntOf,run_underlying hu,h0,dt,hT.sizeOf]
 ·cases hj
def OW.AI [Rd]{o:ba}{p:Option Addr}{n cap:Nat}(hu:P.underlying t=aa (.slice e))(hx:ev L o=aa (.slice p n cap)):
  OW P Q L ⟨d,.call {callee:= .builtin .len,args:= #[o],argTypes:= #[t]},ty,pos,af,g⟩ w (λv' w'=>v'= .int .i64 n∧w'=w):=by
 refine OW.run λa ha=>⟨_,w,?_,rfl,rfl⟩
 simp[execOp,resolve,invoke,builtin,ha _ _ hx,dO.len_,run_underlying hu,goInt]
def Qv(v v':ai)(j:Nat):Prop:=∃p n c,v= .slice p n c∧v'= .slice p j c∧j<=n
def Ca(z:Nat)(v v':ai)(j:Nat):Prop:=∃p n c,v= .slice p n c∧v'= .slice (if c=j then p else p.map (·.add (j*z))) (n-j) (c-j)∧j<=n
def af8(z:Array ai)(hp:0<z.size):∀q:Nat,(bW (q*z.size)).map (z[·% z.size]!)=(cR q z.toList).flatten:=by
 intro q;induction q with
 |zero=>simp
 |succ q ih=>
  rw[List.replicate_succ',oh,<-ih,pX,List.range_add,mS];congr 1;simp only[List.map_map,List.flatten_singleton];apply xL;intro j;by_cases hj:j<z.size
  ·have e1:(q*z.size+j)% z.size=j:=by rw[Nat.mul_comm,Nat.mul_add_mod,Nat.mod_eq_of_lt hj]
   simp[hj,e1,getElem!_pos]
  ·simp[hj]
def OW.azt [Rd]{u:ba}{v v':ai}{j:Nat}{xs:List α}(hu:P.underlying t=aa (.slice e))(hT:bN P e α)(hx:ev L u=aa v')(ho:Ow T o k K w v xs)(ht:Ca (ad.sz α) v v' j)(hd:j7 K [k]=ab):
  OW P Q L ⟨d,.call {callee:= .builtin .clear,args:= #[u],argTypes:= #[t]},ty,pos,af,g⟩ w (λv0 w'=>v0= .tuple #[]∧bJ [k] [] o w o w'∧Ow T o k K w' v (xs.take j++cR (xs.length-j) ad.zero)):=by
 obtain⟨p,m,c,h1,rfl,hj⟩:=ht
 by_cases he:m-j=0
 ·have hm:m=xs.length:=by
   rcases ho with⟨rfl,rfl⟩|⟨gg,f,cap,aU,aJ,rfl,_⟩
   ·cases h1;rfl
   ·cases h1;rfl
  have eJ:xs.take j++cR (xs.length-j) ad.zero=xs:=by rw[show xs.length-j=0 from by omega,List.replicate_zero,pb,xH (by omega)]
  rw[eJ];refine OW.run λa ha=>⟨.tuple #[],w,?_,rfl,bJ.refl _ _ _ _,ho⟩;have e0:(dO.clear_ #[t] ty #[ai.slice (if c=j then p else p.map (·.add (j*ad.sz α))) (m-j) (c-j)]).run P w= .ok (.tuple #[]) w:=by rw[he];cases(if c=j then p else p.map (·.add (j*ad.sz α)))<;>simp[dO.clear_,run_underlying hu]
  simp[execOp,resolve,invoke,builtin,ha _ _ hx,e0]
 ·rcases ho with⟨rfl,rfl⟩|⟨gg,f,cap,aU,aJ,rfl,h2,h3,h4,h5,h6,h7,h8⟩
  ·cases h1;omega
  ·cases h1;obtain⟨i,fP,eb,iK,mK⟩:=hT.m_;have yW:¬c=j:=by omega
   have jX:(⟨gg,f,none⟩:Addr).add (j*ad.sz α)=⟨gg,f+j*ad.sz α,none⟩:=jR _ _ _;have Vs:aU.toList.length=aU.size:=oj;have hz:(pack (ad.agg α) (ad.zc α)).cells.toList=ad.zc α:=wR (α:=α) (ad.gh (λ_=>True) w);have ie:(ad.zc α).length=ad.sz α:=ad.len (ad.gh (α:=α) (λ_=>True) w);have jh:(pack (ad.agg α) (ad.zc α)).cells.size=ad.sz α:=by rw[<-oj,hz,ie]
   have tX:(dO.zeroCells (pack (ad.agg α) (ad.zc α)).cells (xs.length-j)).toList=(cR (xs.length-j) (ad.zc α)).flatten:=by have:=af8 (pack (ad.agg α) (ad.zc α)).cells (by rw[jh];exact ad.pos) (xs.length-j);rw[hz]at this;rw[<-this];simp[dO.zeroCells]
   have eL:=qN h7;have hmul:xs.length*ad.sz α<=c*ad.sz α:=mo _ h4;have Nj:(xs.length-j)*ad.sz α=xs.length*ad.sz α-j*ad.sz α:=Nat.sub_mul _ _ _;have hjm:j*ad.sz α<=xs.length*ad.sz α:=mo _ hj;have l_:(cR (xs.length-j) (ad.zc α)).flatten.length=(xs.length-j)*ad.sz α:=by simp[ie]
   have mI:∀u∈(cR (xs.length-j) (ad.zc α)).flatten,u.oneCell'=ab:=by intro u hu;obtain⟨l,hl,HN⟩:=List.mem_flatten.1 hu;rw[List.mem_replicate]at hl;exact ad.one (ad.gh (α:=α) (λ_=>True) w) u (hl.2▸HN)
   have b6:=run_storeCells_at P gg (f+j*ad.sz α) T (cR (xs.length-j) (ad.zc α)).flatten 0 aU w h3 (by omega) mI;simp only[Nat.add_zero]at b6;have b8:bJ [k] [] o w o (w.setRow gg (aU.toList.take (f+j*ad.sz α)++(cR (xs.length-j) (ad.zc α)).flatten++aU.toList.drop (f+j*ad.sz α+(cR (xs.length-j) (ad.zc α)).flatten.length)).toArray):=bJ.row _ h2;have hlen:(xs.take j++cR (xs.length-j) (ad.zero:α)).length=xs.length:=by simp;omega
   refine OW.run λa ha=>⟨.tuple #[],_,?_,rfl,b8,.inr ⟨gg,f,c,_,aJ.take j++cR (xs.length-j) (ad.zc α),by rw[hlen],h2,setRow_heap w gg aU _ T _ h3,by rw[hlen];exact h4,h5,?_,?_,?_⟩⟩
   ·have e0:(dO.clear_ #[t] ty #[ai.slice (aa ⟨gg,f+j*ad.sz α,none⟩) (xs.length-j) (c-j)]).run P w= .ok (.tuple #[]) (w.setRow gg (aU.toList.take (f+j*ad.sz α)++(cR (xs.length-j) (ad.zc α)).flatten++aU.toList.drop (f+j*ad.sz α+(cR (xs.length-j) (ad.zc α)).flatten.length)).toArray):=by
     obtain⟨q,hq⟩:∃q,xs.length-j=q+1:=⟨xs.length-j-1,by omega⟩;rw[hq]at b6 tX⊢;simp[dO.clear_,run_underlying hu,hT.zero,tX,b6]
    simp[execOp,resolve,invoke,builtin,ha _ _ hx,yW,jX,e0]
   ·simp[ie];omega
   ·exact cA.append ((h7.take j).mono λ_ _=>ad.mono (b8.ro hd)) (cA.replicate (ad.gh _ _) _)
   ·rw[hlen,oh,BG h7.pu,<-h8,List.take_take,Nat.min_eq_left hjm];show((aU.toList.take (f+j*ad.sz α)++(cR (xs.length-j) (ad.zc α)).flatten++aU.toList.drop _).drop f).take _=_;rw[eg,YZ (by rw[o9];omega),List.drop_take,Ci,<-eg];rw[List.take_append_of_le_length (by simp[ie];omega),xH (by simp[ie];omega)]
def OW.ay_ [Rd]{x y:ba}{v v' u:ai}{j:Nat}{xs ys:List α}(hu:P.underlying t=aa (.slice e))(hT:bN P e α)(hx:ev L x=aa v')(hy:ev L y=aa u)(ho:Ow T o k K w v xs)(ht:Ca (ad.sz α) v v' j)(hr:fJ (In o K) w u ys)(hd:j7 K [k]=ab):
  OW P Q L ⟨d,.call {callee:= .builtin .copy,args:= #[x,y],argTypes:= #[t,t]},ty,pos,af,g⟩ w (λv0 w'=>v0= .int .i64 ((Min.min ys.length (xs.length-j):Nat):Int)∧bJ [k] [] o w o w'∧Ow T o k K w' v (xs.take j++(ys.take (xs.length-j)++xs.drop (j+ys.length)))):=by
 obtain⟨p,m,c,h1,rfl,hj⟩:=ht
 obtain⟨q,cy,rfl,tY⟩:=hr
 have hm:m=xs.length:=by
  rcases ho with⟨rfl,rfl⟩|⟨gg,f,cap,aU,aJ,rfl,_⟩
  ·cases h1;rfl
  ·cases h1;rfl
 subst hm
 obtain⟨i,fP,eb,iK,mK⟩:=hT.m_
 by_cases he:Min.min ys.length (xs.length-j)=0
 ·have eJ:xs.take j++(ys.take (xs.length-j)++xs.drop (j+ys.length))=xs:=by
   rcases Nat.eq_zero_or_pos ys.length with h0|h0
   ·have:ys=[]:=zF h0;subst this;simp
   ·rw[show xs.length-j=0 from by omega,List.take_zero,List.nil_append,alN (by omega),pb,xH (by omega)]
  rw[eJ,he];refine OW.run λa ha=>⟨_,w,?_,rfl,bJ.refl _ _ _ _,ho⟩;have yP:Nat.min ys.length (xs.length-j)=0:=he;have e0:(dO.copy_ #[t,t] ty #[ai.slice (if c=j then p else p.map (·.add (j*ad.sz α))) (xs.length-j) (c-j),ai.slice q ys.length cy]).run P w= .ok (.int .i64 0) w:=by cases(if c=j then p else p.map (·.add (j*ad.sz α)))<;>cases q<;>simp[dO.copy_,run_underlying hu,sizeOf,typeInfo,fP,dO.lenOf,dO.firstCells,loadCells,loadCellsFrom,storeCells,yP,goInt]
  simp[execOp,resolve,invoke,builtin,ha _ _ hx,ha _ _ hy,e0]
 ·rcases ho with⟨rfl,rfl⟩|⟨gg,f,cap,aU,aJ,rfl,h2,h3,h4,h5,h6,h7,h8⟩
  ·simp at he
  ·cases h1;rcases tY with rfl|⟨a,oS,rfl,rC,pE⟩
   ·simp at he
   obtain⟨n,hn⟩:∃n,n=Min.min ys.length (xs.length-j):=⟨_,rfl⟩;have yW:¬c=j:=by omega
   have jX:(⟨gg,f,none⟩:Addr).add (j*ad.sz α)=⟨gg,f+j*ad.sz α,none⟩:=jR _ _ _;have Vs:aU.toList.length=aU.size:=oj;have eL:=qN h7;have D5:(oS.take n).flatten=oS.flatten.take (n*ad.sz α):=BG rC.pu n;have hfy:=qN rC;have hny:n*ad.sz α<=ys.length*ad.sz α:=mo _ (by omega);have ub:(j+n)*ad.sz α<=xs.length*ad.sz α:=mo _ (by omega);have hmul:xs.length*ad.sz α<=c*ad.sz α:=mo _ h4;rw[jc]at ub;have hlen:(oS.take n).flatten.length=n*ad.sz α:=by rw[D5,o9];omega
   have mI:∀u∈(oS.take n).flatten,u.oneCell'=ab:=λu hu=>by rw[D5]at hu;exact Aw rC u (List.mem_of_mem_take hu)
   have hf:=run_firstCells_some (P:=P) w i.size n a ys.length cy (oS.take n).flatten (by rw[hlen,eb]) (λz u hz=>pE z u (by
    rw[D5,mq]at hz;split at hz
    ·exact hz
    ·cases hz))
   have b6:=run_storeCells_at P gg (f+j*ad.sz α) T (oS.take n).flatten 0 aU w h3 (by omega) mI;simp only[Nat.add_zero]at b6;have b8:bJ [k] [] o w o (w.setRow gg (aU.toList.take (f+j*ad.sz α)++(oS.take n).flatten++aU.toList.drop (f+j*ad.sz α+(oS.take n).flatten.length)).toArray):=bJ.row _ h2;have e1:xs.take j++(ys.take (xs.length-j)++xs.drop (j+ys.length))=xs.take j++(ys.take n++xs.drop (j+n)):=by
    congr 1;rcases Nat.le_total ys.length (xs.length-j)with hle|hle
    ·rw[show n=ys.length by omega,xH hle,xH (bw _)]
    ·rw[show n=xs.length-j by omega,alN (by omega),alN (by omega)]
   have Bh:(xs.take j++(ys.take n++xs.drop (j+n))).length=xs.length:=by simp;omega
   rw[e1,<-hn];refine OW.run λa' ha=>⟨goInt n,_,?_,rfl,b8,.inr ⟨gg,f,c,_,aJ.take j++(oS.take n++aJ.drop (j+n)),by rw[Bh],h2,setRow_heap w gg aU _ T _ h3,by rw[Bh];exact h4,h5,?_,?_,?_⟩⟩
   ·have yP:Nat.min ys.length (xs.length-j)=n:=hn.symm;simp[execOp,resolve,invoke,builtin,ha _ _ hx,ha _ _ hy,dO.copy_,run_underlying hu,sizeOf,typeInfo,fP,dO.lenOf,yP,yW,jX,hf,b6]
   ·simp[hlen];omega
   ·exact cA.append ((h7.take j).mono λ_ _=>ad.mono (b8.ro hd)) (cA.append ((rC.take n).mono λ_ _=>ad.mono (b8.ro hd)) ((h7.drop (j+n)).mono λ_ _=>ad.mono (b8.ro hd)))
   ·rw[Bh,oh,oh,BG h7.pu,Ey h7.pu];have:=aaK (A:=aU.toList.drop f) (c:=(oS.take n).flatten) (m:=j*ad.sz α) (N:=xs.length*ad.sz α) (by rw[hlen];omega) (by rw[List.length_drop];omega);show((aU.toList.take (f+j*ad.sz α)++(oS.take n).flatten++aU.toList.drop (f+j*ad.sz α+(oS.take n).flatten.length)).drop f).take _=_;have e0:(aU.toList.take (f+j*ad.sz α)++(oS.take n).flatten++aU.toList.drop (f+j*ad.sz α+(oS.take n).flatten.length)).drop f=(aU.toList.drop f).take (j*ad.sz α)++(oS.take n).flatten++(aU.toList.drop f).drop (j*ad.sz α+(oS.take n).flatten.length):=by rw[eg,YZ (by rw[o9];omega),List.drop_take,Ci,eg,List.drop_drop,Nat.add_assoc]
    rw[e0,this,h8,hlen,<-jc,eg]
