import Derived.Test.YtgaghlbepnjhiaaGreatHc
import Derived.Lib.AppendZerosOnto
import Derived.Lib.Overlaps
import Derived.Laws.Externs
set_option linter.all false
open Array renaming getD->uN,getElem?_setIfInBounds->F8,length_toList->oj
open Bool renaming and_eq_true->bt,false->ae,true->ab
open Decidable renaming decide->ak
open Go renaming Builtin->dO,Oper->aV,Operand->ba,Program->cT,TypeId->aX,Value->ai,World->ax
open List renaming all_eq_true->dX,append_assoc->eg,drop_length_add_append->J4,eq_nil_of_length_eq_zero->zF,filter_eq_self->F6,getElem?_eq_some_iff->g9,length_append->cW,length_take->o9,mem_of_getElem?->o8,mem_range->ew,range->bW,replicate->cR,size_toArray->xI,take_append_drop->od,take_left->Cj
open Nat renaming add_mul->jc,blt->dJ,eq_of_beq_eq_true->bA,le_of_ble_eq_true->dw,le_refl->bw,mul_le_mul_right->mo
open Option renaming some->aa
namespace Go.Proofs.YtgaghlbepnjhiaaGreat
open Go Go.RowKit Dp
namespace Rx
def afC(l:List aV)(L:List (Nat×ai))(ds:List Nat)(vs:List ai)(i:Nat):List (Nat×ai):=(gr l i).filterMap (λj=>match ds[j]?,vs[j]? with|some d,aa v=>aa (d,v)|_,_=>none)++L.filter (λp=> !ds.contains p.1)
def ME:List Nat->Bool
 |[]=>ab
 |x::r=> !r.contains x&&ME r
def afJ(n:Nat)(l:List aV)(k:Nat)(ds:List Nat):Bool:=
 Nat.beq ds.length k&&dJ k l.length&&ME ds&&ds.all (λd=>dJ d n)&&
 (bW k).all (λi=>(match l[i]? with|some o=>(match o.dst with|some d=>(match ds[i]? with|some e=>Nat.beq d e|none=>ae)|none=>ae)&&o.guard.isNone|none=>ae))&&
 (bW (k+1)).all (λi=>(gr l i).all λj=>dJ j i)&&
 (bW k).all (λi=>(bW (k+1)).any λj=>dJ i j&&(gr l j).contains i)&&
 (bW l.length).all (λq=>Nat.ble q k||((gr l q).contains (q-1)&&(gr l q).all λj=>dJ j q))
section
variable {P:cT} {n:Nat} {Q:Exit->Act->ax->Prop} {L:List (Nat×ai)} {l:List aV}
def JQ [Rd](P:cT)(Q:Exit->Act->ax->Prop)(w:ax)(E:Nat->List (Nat×ai)):Nat->List aV->List ai->Prop
 |i,o::l,v::vs=>OW P Q (E i) o w (λv' w'=>v'=v∧w'=w)∧JQ P Q w E (i+1) l vs
 |_,_,_=>True
def JQ.get [Rd]{w:ax}{E:Nat->List (Nat×ai)}:∀(j:Nat) {i:Nat} {l:List aV} {vs:List ai} {o:aV} {v:ai},JQ P Q w E i l vs->l[j]? =aa o->vs[j]? =aa v->OW P Q (E (i+j)) o w (λv' w'=>v'=v∧w'=w):=by
 intro j;induction j with
 |zero=>
  intro i l vs o v h h1 h2;cases l with
  |nil=>simp at h1
  |cons o' l=>
   cases vs with
   |nil=>simp at h2
   |cons v' vs=>simp at h1 h2;subst h1 h2;exact h.1
 |succ j ih=>
  intro i l vs o v h h1 h2;cases l with
  |nil=>simp at h1
  |cons o' l=>
   cases vs with
   |nil=>simp at h2
   |cons v' vs=>have:=ih h.2 (by simpa using h1) (by simpa using h2);rw[show i+(j+1)=i+1+j by omega];exact this
def ach:∀{ds:List Nat},ME ds=ab->∀{i j d:Nat},ds[i]? =aa d->ds[j]? =aa d->i=j
 |[],_,i,j,d,h1,_=>by simp at h1
 |x::r,h,i,j,d,h1,h2=>by
  simp only[ME,bt]at h;have hx:x∉r:=by simpa using h.1
  match i,j with
  |0,0=>rfl
  |0,j+1=>simp at h1 h2;subst h1;exact(hx (o8 h2)).elim
  |i+1,0=>simp at h1 h2;subst h2;exact(hx (o8 h1)).elim
  |i+1,j+1=>simp at h1 h2;rw[ach h.2 h1 h2]
def asA{ds:List Nat}{vs:List ai}:∀{t:Nat} {v:ai},Dp.look (ds.zip vs) t=aa v->∃i:Nat,ds[i]? =aa t∧vs[i]? =aa v:=by
 induction ds generalizing vs with
 |nil=>intro t v h;simp[Dp.look]at h
 |cons d ds ih=>
  intro t v h;cases vs with
  |nil=>simp[Dp.look]at h
  |cons u vs=>
   rw[List.zip_cons_cons]at h;by_cases hd:d=t
   ·subst hd;rw[iX]at h;cases h;exact⟨0,rfl,rfl⟩
   ·rw[il _ _ hd]at h;obtain⟨i,h1,h2⟩:=ih h;exact⟨i+1,by simpa using h1,by simpa using h2⟩
def TE{ds:List Nat}{vs:List ai}:∀{js:List Nat} {t:Nat} {v:ai},Dp.look (js.filterMap (λj=>match ds[j]?,vs[j]? with|some d,aa v=>aa (d,v)|_,_=>none)) t=aa v->∃j∈js,ds[j]? =aa t∧vs[j]? =aa v
 |[],t,v,h=>by simp[Dp.look]at h
 |j::js,t,v,h=>by
  rw[List.filterMap_cons]at h;split at h
  ·obtain⟨i,h1,h2⟩:=TE h;exact⟨i,by simp[h1],h2⟩
  ·rename_i b hb;split at hb
   ·rename_i d u h1 h2;cases hb;by_cases hd:d=t
    ·subst hd;rw[iX]at h;cases h;exact⟨j,by simp,h1,h2⟩
    ·rw[il _ _ hd]at h;obtain⟨i,h3,h4⟩:=TE h;exact⟨i,by simp[h3],h4⟩
   ·cases hb
structure DSt [I:Rd](n:Nat)(L:List (Nat×ai))(l:List aV)(k:Nat)(ds:List Nat)(vs:List ai)(cD:Array Bool)(a:Act):Prop where
 sz:cD.size=l.length
 size:a.tmps.size=n
 defers:a.defers=I.ds
 new:∀(i d:Nat) (v:ai),cD.getD i ae=ab->ds[i]? =aa d->vs[i]? =aa v->a.tmps[d]? =aa v
 fU:∀(t:Nat) (v:ai),Dp.look L t=aa v->t∉ds->a.tmps[t]? =aa v
 late:∀i,k<=i->cD.getD i ae=ae
 closed:∀i,cD.getD i ae=ab->∀j∈gr l i,cD.getD j ae=ab
def CW.draw{id:Nat}{w:ax}(hm:P.follows .mixedOrders=ab)(k:Nat)(ds:List Nat)(vs:List ai)(jB:afJ n l k ds=ab)(Uj:vs.length=k)
  (hp:JQ P Q w.drew (afC l L ds vs) 0 (l.take k) vs) (ht:WL P n l.toArray Q (l.drop k) (ds.zip vs++L.filter (λp=> !ds.contains p.1)) w.drew):
  CW P n (.region id l.toArray ab) Q L w:=by
 intro a ha
 refine wpIn_region_any hm ?_
 simp only[afJ,bt]at jB
 obtain⟨⟨⟨⟨⟨⟨⟨c1,c2⟩,c3⟩,c4⟩,c5⟩,c6⟩,c7⟩,c8⟩:=jB
 have vN:ds.length=k:=bA c1
 have sO:k<l.length:=dw c2
 have xn:∀i,i<=k->∀j∈gr l i,j<i:=λi hi j hj=>by have h1:=dX.1 c6 i (ew.2 (by omega));exact dw (dX.1 h1 j hj)
 have UA:∀i,i<k->∃j,j<=k∧i<j∧i∈gr l j:=λi hi=>by have h1:=dX.1 c7 i (ew.2 hi);obtain⟨j,hj,h2⟩:=List.any_eq_true.1 h1;simp only[bt]at h2;have mb:=ew.1 hj;refine⟨j,by omega,dw h2.1,by simpa using h2.2⟩
 have Eo:∀q,k<q->q<l.length->(q-1)∈gr l q∧∀j∈gr l q,j<q:=λq hq A6=>by
  have h1:=dX.1 c8 q (ew.2 A6);simp only[Bool.or_eq_true,bt]at h1;rcases h1 with h1|h1
  ·have:=dw h1;omega
  ·exact⟨by simpa using h1.1,λj hj=>by exact dw (dX.1 h1.2 j hj)⟩
 have UK:∀i,i<k->∃d o v,l[i]? =aa o∧o.dst=aa d∧o.guard=none∧ds[i]? =aa d∧vs[i]? =aa v∧d<n:=λi hi=>by
  have h1:=dX.1 c5 i (ew.2 hi);split at h1
  ·rename_i o ho;simp only[bt]at h1;obtain⟨h1,hg⟩:=h1;split at h1
   ·rename_i d hd;split at h1
    ·rename_i e he;have hde:d=e:=bA h1;subst hde;have hvi:i<vs.length:=by omega
     have hdn:=dX.1 c4 d (o8 he);exact⟨d,o,vs[i],ho,hd,by simpa using hg,he,List.getElem?_eq_getElem hvi,dw hdn⟩
    ·cases h1
   ·cases h1
  ·cases h1
 have gU:∀{cD:Array Bool},(∀i,cD.getD i ae=ab->∀j∈gr l i,cD.getD j ae=ab)->(∀j∈gr l k,cD.getD j ae=ab)->∀i,i<k->cD.getD i ae=ab:=by
  intro cD dh vH i;have key:∀m i,k-i<=m->i<k->cD.getD i ae=ab:=by
   intro m;induction m with
   |zero=>intro i h1 h2;omega
   |succ m ih=>
    intro i h1 h2;obtain⟨j,h3,h4,h5⟩:=UA i h2;by_cases hj:j=k
    ·subst hj;exact vH i h5
    ·exact dh j (ih j (by omega) (by omega)) i h5
  exact key _ i (bw _)
 have main:∀(jP:Nat) (cD:Array Bool) (a:Act),l.length<=jP+((bW l.length).filter λi=>cD.getD i ae).length->DSt n L l k ds vs cD a->wpAnyIn Rd.plain.F 0 P .any l.toArray Q jP cD a w.drew:=by
  intro jP;induction jP with
  |zero=>
   intro cD a hf hJ;exfalso;have Nj:((bW l.length).filter λi=>cD.getD i ae).length<(bW l.length).length:=by have h9:=filter_lt (p:=λ_=>ab) (q:=λi=>cD.getD i ae) (i:=k) (λ_ _=>rfl) rfl (hJ.late k (bw _)) (l:=bW l.length) (ew.2 sO);have h8:(bW l.length).filter (λ_=>ab)=bW l.length:=F6.2 λ_ _=>rfl;rw[h8]at h9;exact h9
   rw[List.length_range]at Nj;omega
  |succ jP ih=>
   intro cD a hf hJ;refine⟨λhr=>?_,λi hi=>?_⟩
   ·exfalso;have Ig:∀i,i<=k->cD.getD i ae=ab:=by
     intro i;induction i using Nat.strongRecOn with
     |_ i HB=>
      intro dV;cases sN:cD.getD i ae with
      |true=>rfl
      |false=>have:i∈Region.ready .any l.toArray cD:=(ym hJ.sz).2 ⟨by omega,sN,λj hj=>HB j (xn i dV j hj) (by have:=xn i dV j hj;omega)⟩;rw[hr]at this;cases this
    have:=Ig k (bw _);rw[hJ.late k (bw _)]at this;cases this
   ·obtain⟨h1,h2,h3⟩:=(ym hJ.sz).1 hi;by_cases dV:i<k
    ·obtain⟨d,o,v,e1,e2,e3,e4,e5,e6⟩:=UK i dV;have Va:l.toArray[i]? =aa o:=by simpa using e1
     have auF:=JQ.get i (o:=o) (v:=v) hp (by rw[List.getElem?_take,aI dV];exact e1) e5;unfold wpOpIn;rw[Va];simp only;rw[aI (by simp[Region.wanted,e3])];refine(auF a _ (λx u hx=>?_) ?_)
     ·rw[Nat.zero_add]at hx;cases x with
      |tmp t=>
       have hx:Dp.look (afC l L ds vs i) t=aa u:=hx;have:a.tmps[t]? =aa u:=by
        rcases acM hx with hx|⟨_,hx⟩
        ·obtain⟨j,hj,h4,h5⟩:=TE hx;exact hJ.new j t u (h3 j hj) h4 h5
        ·obtain⟨h4,h5⟩:=acK (p:=λx=> !ds.contains x) hx;exact hJ.fU t u h4 (by simpa using h5)
       simp[Act.eval,this]
      |const u=>simpa[ev,Act.eval]using hx
      |global g=>simpa[ev,Act.eval]using hx
      |func f=>simpa[ev,Act.eval]using hx
     ·rintro v' w' ⟨rfl,rfl⟩;rw[e2];have nj:i<cD.size:=by rw[hJ.sz];exact h1
      refine ih _ _ ?_ ⟨by simp[hJ.sz],by simp[Act.put,hJ.size],by simp[Act.put,hJ.defers],?_,?_,?_,?_⟩
      ·have aS:=filter_lt (p:=λj=>(cD.setIfInBounds i ab).getD j ae) (q:=λj=>cD.getD j ae) (i:=i) (λx hx=>by
        rw[AF nj];by_cases HI:x=i
        ·simp[HI]
        ·rw[aK HI];exact hx) (by rw[AF nj];simp) h2 (l:=bW l.length) (ew.2 h1)
       omega
      ·intro j e u hj h4 h5;rw[AF nj]at hj;by_cases eV:j=i
       ·subst eV;rw[e4]at h4;cases h4;rw[e5]at h5;cases h5;simp[Act.put,F8,hJ.size,e6]
       ·rw[aK eV]at hj;have bM:d≠e:=λhe=>eV (ach c3 (he▸h4) e4);simp[Act.put,F8,bM];exact hJ.new j e u hj h4 h5
      ·intro t u h4 h5;have bM:d≠t:=λhe=>h5 (he▸o8 e4);simp[Act.put,F8,bM];exact hJ.fU t u h4 h5
      ·intro j hj;rw[AF nj,aK (by omega)];exact hJ.late j hj
      ·intro j hj q hq;rw[AF nj]at hj⊢;by_cases hqi:q=i
       ·simp[hqi]
       ·rw[aK hqi];by_cases eV:j=i
        ·subst eV;exact h3 q hq
        ·rw[aK eV]at hj;exact hJ.closed j hj q hq
    ·have Ia:i=k:=by
      by_cases bM:i=k
      ·exact bM
      ·exfalso;have:=h3 (i-1) (Eo i (by omega) h1).1;rw[hJ.late (i-1) (by omega)]at this;cases this
     subst Ia;have Ig:=gU hJ.closed h3;have Nb:=ht a ⟨hJ.size,hJ.defers,λt v hv=>by
      rcases acM hv with hv|⟨_,hv⟩
      ·obtain⟨j,h4,h5⟩:=asA hv;have mb:j<i:=by have:=(g9.1 h4).1;omega
       exact hJ.new j t v (Ig j mb) h4 h5
      ·obtain⟨h4,h5⟩:=acK (p:=λx=> !ds.contains x) hv;exact hJ.fU t v h4 (by simpa using h5),λ_ _ h=>by cases h⟩
     have hw:=WU (P:=P) (Q:=Q) Eo (xn i (bw _)) (jP+1) i cD a w.drew hJ.sz (bw _) (by omega) (by
      have hle:((bW l.length).filter λj=>cD.getD j ae).length<=i:=by
       have hs:((bW l.length).filter λj=>cD.getD j ae)=(bW l.length).filter λj=>decide (j<i):=by
        refine List.filter_congr λj hj=>?_;by_cases eV:j<i
        ·rw[Ig j eV];simp[eV]
        ·rw[hJ.late j (by omega)];simp[eV]
       rw[hs];have:(bW l.length).filter (λj=>decide (j<i))=bW i:=by
        have h5:bW l.length=bW i++(bW (l.length-i)).map (i+·):=by rw[<-List.range_add];congr 1;omega
        rw[h5,List.filter_append];have h6:(bW i).filter (λj=>decide (j<i))=bW i:=F6.2 λj hj=>by simpa using hj
        have h7:((bW (l.length-i)).map (i+·)).filter (λj=>decide (j<i))=[]:=by rw[List.filter_eq_nil_iff];intro j hj;obtain⟨q,_,rfl⟩:=List.mem_map.1 hj;simp
        rw[h6,h7,List.append_nil]
       rw[this,List.length_range];exact bw _
      omega) (λj hj=>by
       by_cases eV:j<i
       ·rw[Ig j eV];simp[eV]
       ·rw[hJ.late j (by omega)];simp[eV]) Nb
     exact hw.2 i hi
 refine main _ _ a ?_ ⟨by simp,ha.size,ha.defers,λi d v hi=>?_,λt v h _=>ha.get t v h,λi _=>by simp[uN],λi hi=>?_⟩
 ·simp
 ·simp[uN]at hi
 ·simp[uN]at hi
end
def HA{α:Type}(xs:List α)(i:Int)(ys:List α):Option (List α):=match ak (0<=i)&&ak (i<=len xs)&& !ys.isEmpty,bD xs ys with
 |true,aa _=>aa (xs.take i.toNat++ys++xs.drop i.toNat)
 |_,_=>none
def IW{α:Type}(xs:List α)(i j:Int):Option (List α):=match ak (0<=i)&&ak (i<=j)&&ak (j<=len xs)with
 |true=>aa (xs.take i.toNat++xs.drop j.toNat)
 |false=>none
def atq{α:Type}{xs ys r:List α}{i:Int}(h:HA xs i ys=aa r):0<=i∧i<=(xs.length:Int)∧ys≠[]∧bD xs ys=aa (xs++ys)∧xs.length+ys.length<=1073741824∧r=xs.take i.toNat++ys++xs.drop i.toNat:=by
 unfold HA at h;split at h
 ·rename_i h1 h2;simp only[bt,alM]at h1;cases h;have h3:=h2;unfold bD at h3;split at h3
  ·rename_i h4;cases h3;exact⟨h1.1.1,by have:=h1.1.2;unfold len at this;exact this,by intro he;subst he;simp at h1,h2,h4,rfl⟩
  ·cases h3
 ·cases h
def ay3{α:Type}{xs r:List α}{i j:Int}(h:IW xs i j=aa r):0<=i∧i<=j∧j<=(xs.length:Int)∧r=xs.take i.toNat++xs.drop j.toNat:=by
 unfold IW at h;split at h
 ·rename_i h1;simp only[bt,alM]at h1;cases h;exact⟨h1.1.1,h1.1.2,by have:=h1.2;unfold len at this;exact this,rfl⟩
 ·cases h
section
variable {α:Type} [ad α]
variable {P:cT} {Q:Exit->Act->ax->Prop} {L:List (Nat×ai)} {w:ax} {d:Option Tmp} {ty:aX} {pos:String} {af:Array Edge} {g:Option (Nat×Bool)} {t e:aX}
def OW.tK [Rd]{u:ba}{lo hi:Option ba}{l h:Int}{p:Option Addr}{n c:Nat}(hu:P.underlying t=aa (.slice e))(hT:bN P e α)(hx:ev L u=aa (.slice p n c))(Bf:zx L lo 0 l)(Bo:zx L hi n h)(b1:0<=l)(b2:l<=h)(b3:h<=(c:Int)):
  OW P Q L ⟨d,.slice t u lo hi none,ty,pos,af,g⟩ w (λv' w'=>v'= .slice (if c=l.toNat then p else p.map (·.add (l.toNat*ad.sz α))) (h.toNat-l.toNat) (c-l.toNat)∧w'=w):=by
 refine OW.run λa ha=>⟨_,w,?_,rfl,rfl⟩
 have Bn:(h.toNat:Int)=h:=by omega
 have lH:(l.toNat:Int)=l:=by omega
 rcases Bf with⟨rfl,rfl⟩|⟨yl,rfl,hl⟩<;>rcases Bo with⟨rfl,rfl⟩|⟨yh,rfl,hh⟩
 ·simp[execOp,ha _ _ hx,Instr.sliceAt,run_underlying hu,Instr.slice,Instr.sliceBounds,hT.sizeOf]
 ·have b0:0<=h:=by omega
  simp[execOp,ha _ _ hx,ha _ _ hh,Instr.sliceAt,run_underlying hu,Instr.slice,Instr.sliceBounds,Instr.sliceBound,asIntOf,hT.sizeOf,b0,b3]
 ·simp[execOp,ha _ _ hx,ha _ _ hl,Instr.sliceAt,run_underlying hu,Instr.slice,Instr.sliceBounds,Instr.sliceBound,asIntOf,hT.sizeOf,b1,b2]
 ·have b0:0<=h:=by omega
  simp[execOp,ha _ _ hx,ha _ _ hl,ha _ _ hh,Instr.sliceAt,run_underlying hu,Instr.slice,Instr.sliceBounds,Instr.sliceBound,asIntOf,hT.sizeOf,b1,b0,b3,Bn,b2]
def OW.slice3 [Rd]{u y1 y2 y3:ba}{l h m:Int}{p:Option Addr}{n c:Nat}(hu:P.underlying t=aa (.slice e))(hT:bN P e α)(hx:ev L u=aa (.slice p n c))(h1:ev L y1=aa (.int .i64 l))(h2:ev L y2=aa (.int .i64 h))(h3:ev L y3=aa (.int .i64 m))(b1:0<=l)(b2:l<=h)(b3:h<=m)(b4:m<=(c:Int)):
  OW P Q L ⟨d,.slice t u (aa y1) (aa y2) (aa y3),ty,pos,af,g⟩ w (λv' w'=>w'=w∧True):=by
 refine OW.run λa ha=>⟨.slice (if m.toNat=l.toNat then p else p.map (·.add (l.toNat*ad.sz α))) (h.toNat-l.toNat) (m.toNat-l.toNat),w,?_,rfl,trivial⟩
 have Bn:(h.toNat:Int)=h:=by omega
 have lH:(l.toNat:Int)=l:=by omega
 have UQ:(m.toNat:Int)=m:=by omega
 have b0:0<=h:=by omega
 have b5:0<=m:=by omega
 simp[execOp,ha _ _ hx,ha _ _ h1,ha _ _ h2,ha _ _ h3,Instr.sliceAt,run_underlying hu,Instr.slice,Instr.sliceBounds,Instr.sliceBound,asIntOf,hT.sizeOf,b1,b0,b5,b3,b4,Bn,UQ,b2]
def OW.cap [Rd]{o:ba}{p:Option Addr}{n c:Nat}(hu:P.underlying t=aa (.slice e))(hx:ev L o=aa (.slice p n c))(hc:c<=maxLen):
  OW P Q L ⟨d,.call {callee:= .builtin .cap,args:= #[o],argTypes:= #[t]},ty,pos,af,g⟩ w (λv' w'=>v'= .int .i64 c∧w'=w):=by
 refine OW.run λa ha=>⟨_,w,?_,rfl,rfl⟩
 simp[execOp,resolve,invoke,builtin,ha _ _ hx,dO.cap_,run_underlying hu,goInt]
def OW.OU [Rd]{x y:ba}{b off dl dc sl sc:Nat}{a:Addr}{A X B src:List ai}{T:aX}(hu:P.underlying t=aa (.slice e))(hT:bN P e α)(hx:ev L x=aa (.slice (aa ⟨b,off,none⟩) dl dc))(hy:ev L y=aa (.slice (aa a) sl sc))
  (hg:w.heap[b]? =aa (.cells (A++X++B).toArray T (0,0))) (hA:A.length=off) (hX:X.length=src.length) (hl:src.length=min sl dl*ad.sz α) (hs:∀(j:Nat) (u:ai),src[j]? =aa u->w.cell? (a.add j)=aa u) (h1:∀u∈src,u.oneCell'=ab):
  OW P Q L ⟨d,.call {callee:= .builtin .copy,args:= #[x,y],argTypes:= #[t,t]},ty,pos,af,g⟩ w (λv' w'=>w'=w.setRow b (A++src++B).toArray):=by
 obtain⟨i,fP,eb,iK,mK⟩:=hT.m_
 have hf:=run_firstCells_some (P:=P) w i.size (min sl dl) a sl sc src (by rw[hl,eb]) hs
 have b6:=run_storeCells_at P b off T src 0 _ w hg (by simp;omega) h1
 simp only[Nat.add_zero]at b6
 have e1:(A++X++B).toArray.toList.take off++src++(A++X++B).toArray.toList.drop (off+src.length)=A++src++B:=by
  have h2:(A++X++B).toArray.toList=A++(X++B):=by simp
  rw[h2,<-hA,Cj,<-hX,J4,List.drop_left]
 rw[e1]at b6
 refine OW.run λa' ha=>⟨goInt (min sl dl),w.setRow b (A++src++B).toArray,?_,rfl⟩
 have yP:Nat.min sl dl=min sl dl:=rfl
 simp[execOp,resolve,invoke,builtin,ha _ _ hx,ha _ _ hy,dO.copy_,run_underlying hu,sizeOf,typeInfo,fP,dO.lenOf,yP,hf,b6]
 congr 1
 omega
def OW.azu [Rd]{x:ba}{b off k c:Nat}{A X B:List ai}{T:aX}(hu:P.underlying t=aa (.slice e))(hT:bN P e α)(hx:ev L x=aa (.slice (aa ⟨b,off,none⟩) (k+1) c))
  (hg:w.heap[b]? =aa (.cells (A++X++B).toArray T (0,0))) (hA:A.length=off) (hX:X.length=(k+1)*ad.sz α):
  OW P Q L ⟨d,.call {callee:= .builtin .clear,args:= #[x],argTypes:= #[t]},ty,pos,af,g⟩ w (λv' w'=>∃Z:List ai,Z.length=X.length∧w'=w.setRow b (A++Z++B).toArray):=by
 have hz:(pack (ad.agg α) (ad.zc α)).cells.toList=ad.zc α:=wR (α:=α) (ad.gh (λ_=>True) w)
 have ie:(ad.zc α).length=ad.sz α:=ad.len (ad.gh (α:=α) (λ_=>True) w)
 have jh:(pack (ad.agg α) (ad.zc α)).cells.size=ad.sz α:=by rw[<-oj,hz,ie]
 have tX:(dO.zeroCells (pack (ad.agg α) (ad.zc α)).cells (k+1)).toList=(cR (k+1) (ad.zc α)).flatten:=by have:=af8 (pack (ad.agg α) (ad.zc α)).cells (by rw[jh];exact ad.pos) (k+1);rw[hz]at this;rw[<-this];simp[dO.zeroCells]
 have l_:(cR (k+1) (ad.zc α)).flatten.length=(k+1)*ad.sz α:=by simp[ie]
 have mI:∀u∈(cR (k+1) (ad.zc α)).flatten,u.oneCell'=ab:=by intro u hu;obtain⟨l,hl,HN⟩:=List.mem_flatten.1 hu;rw[List.mem_replicate]at hl;exact ad.one (ad.gh (α:=α) (λ_=>True) w) u (hl.2▸HN)
 have b6:=run_storeCells_at P b off T (cR (k+1) (ad.zc α)).flatten 0 _ w hg (by simp only[l_,xI,cW];omega) mI
 simp only[Nat.add_zero]at b6
 have e1:(A++X++B).toArray.toList.take off++(cR (k+1) (ad.zc α)).flatten++(A++X++B).toArray.toList.drop (off+(cR (k+1) (ad.zc α)).flatten.length)=A++(cR (k+1) (ad.zc α)).flatten++B:=by
  have h2:(A++X++B).toArray.toList=A++(X++B):=by simp
  rw[h2,<-hA,Cj,l_,<-hX,J4,List.drop_left]
 rw[e1]at b6
 refine OW.run λa ha=>⟨.tuple #[],_,?_,_,by rw[l_,hX],rfl⟩
 have e0:(dO.clear_ #[t] ty #[ai.slice (aa ⟨b,off,none⟩) (k+1) c]).run P w= .ok (.tuple #[]) (w.setRow b (A++(cR (k+1) (ad.zc α)).flatten++B).toArray):=by simp[dO.clear_,run_underlying hu,hT.zero,tX,b6]
 simp[execOp,resolve,invoke,builtin,ha _ _ hx,e0]
def OW.overlaps [Rd]{x y:ba}{f:Nat}{fn:Func}{a b la ca lb cb oa ob:Nat}{ca' W0:Array ai}{ta tb tR:aX}{ats:Array aX}(hu:P.underlying t=aa (.slice e))(hT:bN P e α)(hf:P.funcs[f]? =aa fn)(hn:(fn.name== "runtime.NumGoroutine")=ae)(hb:fn.body.isNone=ab)(ub:Extern.findNext fn=none)(he:Extern.find fn=aa (Extern.SlicesOverlaps.overlaps #[t,t] #[tR]))
  (hx:ev L x=aa (.slice (aa ⟨a,oa,none⟩) la ca)) (hy:ev L y=aa (.slice (aa ⟨b,ob,none⟩) lb cb)) (bM:a≠b) (Ie:w.heap[a]? =aa (.cells ca' ta (0,0))) (Nz:w.heap[b]? =aa (.cells W0 tb (0,0))) (hs:W0.size≠0):
  OW P Q L ⟨d,.call {callee:= .value (.func f),args:= #[x,y],argTypes:=ats},ty,pos,af,g⟩ w (λv' w'=>v'= .bool ae∧w'=w):=by
 have h1:=run_callFunc_extern hf hn hb ub he #[.slice (aa ⟨a,oa,none⟩) la ca,.slice (aa ⟨b,ob,none⟩) lb cb] w
 rw[Lib.run_overlaps_apart w t tR e hu (ad.sz α) (λw=>hT.sizeOf w) ⟨a,oa,none⟩ ⟨b,ob,none⟩ la ca lb cb bM ta tb ca'.size W0.size (by simp[ax.shape?,Ie]) (by simp[ax.shape?,Nz]) hs (by simp[ax.frozen?,Ie]) (by simp[ax.frozen?,Ie])]at h1
 refine OW.run λa' ha=>⟨_,_,?_,rfl,rfl⟩
 have h2:=ha _ _ hx
 have h3:=ha _ _ hy
 simp[Act.eval]at h2 h3
 simp[execOp,resolve,invoke,Deferred.ofValue,Act.eval]
 rw[h2,h3,h1]
 rfl
def OW.pvE [Rd]{op:Op}{v v':ai}(h:Dp.pv L op=aa v)(hv:v=v'):OW P Q L ⟨d,op,ty,pos,af,g⟩ w (λu w'=>u=v'∧w'=w):=hv▸OW.pv h
def WL.pe [I:Rd]{n d:Nat}{ops:Array aV}{rest:List aV}{op:Op}{v v':ai}(h:Dp.pv L op=aa v)(hv:v=v')(hd:I.fb n d=ab)(k:WL P n ops Q rest ((d,v')::L) w):WL P n ops Q (⟨aa d,op,ty,pos,af,none⟩::rest) L w:=by subst hv;exact WL.v h hd k
def OW.pre [Rd]{u y:ba}{q:Nat}{p:Option Addr}{n c:Nat}(hu:P.underlying t=aa (.slice e))(hT:bN P e α)(hx:ev L u=aa (.slice p n c))(hy:ev L y=aa (.int .i64 (q:Int)))(hq:q<=c):
  OW P Q L ⟨d,.slice t u none (aa y) none,ty,pos,af,g⟩ w (λv' w'=>v'= .slice p q c∧w'=w):=by
 refine OW.imp (OW.tK (l:=0) (h:=(q:Int)) hu hT hx (.inl ⟨rfl,rfl⟩) (.inr ⟨y,rfl,hy⟩) (by omega) (by omega) (by omega)) ?_
 rintro v' w' ⟨rfl,rfl⟩
 refine⟨?_,rfl⟩
 have h0:p.map (λa:Addr=>a.add 0)=p:=by cases p<;>simp[Addr.add]
 simp[h0]
def OW.tl [Rd]{u y:ba}{q b n c f p:Nat}(hu:P.underlying t=aa (.slice e))(hT:bN P e α)(hx:ev L u=aa (.slice (aa ⟨b,f,none⟩) n c))(hy:ev L y=aa (.int .i64 (q:Int)))(hq:q<=n)(hn:n<=c)(hc:q<c)(hp:f+q*ad.sz α=p):
  OW P Q L ⟨d,.slice t u (aa y) none none,ty,pos,af,g⟩ w (λv' w'=>v'= .slice (aa ⟨b,p,none⟩) (n-q) (c-q)∧w'=w):=by
 refine OW.imp (OW.tK (l:=(q:Int)) (h:=(n:Int)) hu hT hx (.inr ⟨y,rfl,hy⟩) (.inl ⟨rfl,rfl⟩) (by omega) (by omega) (by omega)) ?_
 rintro v' w' ⟨rfl,rfl⟩
 refine⟨?_,rfl⟩
 have Vw:¬c=q:=by omega
 simp[Vw,jR,hp]
def OW.aor [Rd]{u y:ba}{q n c:Nat}{p:Option Addr}(hu:P.underlying t=aa (.slice e))(hT:bN P e α)(hx:ev L u=aa (.slice p n c))(hy:ev L y=aa (.int .i64 (q:Int)))(hq:q<=n)(hn:n<=c):
  OW P Q L ⟨d,.slice t u (aa y) none none,ty,pos,af,g⟩ w (λv' w'=>w'=w∧True):=
 OW.imp (OW.tK (l:=(q:Int)) (h:=(n:Int)) hu hT hx (.inr ⟨y,rfl,hy⟩) (.inl ⟨rfl,rfl⟩) (by omega) (by omega) (by omega)) λv' w' h=>⟨h.2,trivial⟩
def Dv{w:ax}{b off:Nat}{A X B:List ai}{T:aX}(hg:w.heap[b]? =aa (.cells (A++X++B).toArray T (0,0)))(hA:A.length=off):j_ w ⟨b,off,none⟩ X:=by
 intro j u hj;have jX:(⟨b,off,none⟩:Addr).add j=⟨b,off+j,none⟩:=by unfold Addr.add;split<;>simp_all
 rw[jX,cell_of_row w b (off+j) _ T (0,0) hg];have aS:j<X.length:=(g9.1 hj).1;have h1:(A++X++B).toArray[off+j]? =(A++(X++B))[off+j]? :=by simp
 rw[h1,<-hA,List.getElem?_append_right (by omega),Nat.add_sub_cancel_left,List.getElem?_append_left aS];exact hj
def OW.aDP [Rd]{x y:ba}{b i c k f:Nat}{J A B:List ai}{T tn:aX}(hu:P.underlying t=aa (.slice e))(hT:bN P e α)(yI:P.underlying tn=aa (.int .i64))(hx:ev L x=aa (.slice (aa ⟨b,f,none⟩) i c))(hy:ev L y=aa (.int .i64 (k:Int)))
  (hg:w.heap[b]? =aa (.cells (J++A++B).toArray T (0,0))) (hJ:J.length=f) (hA:A.length=i*ad.sz α) (h0:0<k) (hc:c<i+k) (UU:i+k<=1073741824):
  OW P Q L ⟨d,.call {callee:= .builtin .append,args:= #[x,y],argTypes:= #[t,tn]},ty,pos,af,g⟩ w (λv' w'=>∃(G:Nat) (Z:List ai),v'= .slice (aa ⟨w.heap.size,0,none⟩) (i+k) G∧i+k<=G∧G<=maxLen∧Z.length=(G-i)*ad.sz α∧w'=w.drew.alloc (.cells (A++Z).toArray e)):=by
 obtain⟨ti,fP,eb,iK,mK⟩:=hT.m_
 have hz:(pack (ad.agg α) (ad.zc α)).cells.toList=ad.zc α:=wR (α:=α) (ad.gh (λ_=>True) w)
 have ie:(ad.zc α).length=ad.sz α:=ad.len (ad.gh (α:=α) (λ_=>True) w)
 have jh:(pack (ad.agg α) (ad.zc α)).cells.size=ad.sz α:=by rw[<-oj,hz,ie]
 have Ij:j_ w ⟨b,f,none⟩ A:=Dv (A:=J) (X:=A) (B:=B) hg hJ
 have Ep:(i+k)*ti.bytes<=140737488355328:=by have:=Nat.mul_le_mul UU iK;omega
 have hold:(dO.firstCells ti.size i (.slice (aa ⟨b,f,none⟩) i c)).run P w.drew= .ok A.toArray w.drew:=
  run_firstCells_some w.drew ti.size i ⟨b,f,none⟩ i c A (by rw[hA,eb]) Ij
 have hkb:k*ti.bytes<=(i+k)*ti.bytes:=mo _ (by omega)
 have h:=Lib.run_append_grow_zeros (P:=P) w t tn ty e ti _ .i64 .i64 hu yI fP mK (aa ⟨b,f,none⟩) i c A hold k h0 (by rw[eb];exact ad.pos) hc (by omega) (by omega) (growslice_fits hc Ep)
 have sP:=grownCap_ge w (i+k) c e
 have h9:∀Z1 Z2:Array ai,A.toArray++Z1++Z2=(A++(Z1++Z2).toList).toArray:=λZ1 Z2=>by apply Array.ext';simp
 rw[h9]at h
 refine OW.run λa ha=>⟨_,_,?_,grownCap w (i+k) c e,(dO.zeroCells (pack (ad.agg α) (ad.zc α)).cells k++dO.zeroCells (pack (ad.agg α) (ad.zc α)).cells (grownCap w (i+k) c e-(i+k))).toList,rfl,sP,grownCap_le_maxLen w _ _ _ (by unfold maxLen;omega),?_,rfl⟩
 ·simp only[execOp,resolve,invoke,builtin,Sem.run_bind,Sem.run_pure,Result.andThen_ok,List.map_toArray,List.map_cons,List.map_nil,ha _ _ hx,ha _ _ hy,h]
 ·simp only[oj,Array.size_append,size_zeroCells,jh,<-jc];congr 1;omega
def Ow.split{o:cE}{k:Nat}{K:List Nat}{b f n cap:Nat}{xs:List α}(h:Ow e o k K w (.slice (aa ⟨b,f,none⟩) n cap) xs){i:Nat}(hi:i<=n):
  ∃(J:List ai) (c1 c2:List (List ai)) (S:List ai),J.length=f∧w.heap[b]? =aa (.cells (J++c1.flatten++c2.flatten++S).toArray e (0,0))∧cA (ad.rd (In o K) w) c1 (xs.take i)∧cA (ad.rd (In o K) w) c2 (xs.drop i)∧
   c1.flatten.length=i*ad.sz α∧c2.flatten.length=(n-i)*ad.sz α∧(cap-n)*ad.sz α<=S.length∧o b=k∧n=xs.length∧n<=cap∧cap<=maxLen:=by
 rcases h with⟨h,_⟩|⟨g,f',zi,aU,aJ,h1,h2,h3,h4,h5,h6,h7,h8⟩
 ·cases h
 ·cases h1;have ni:=qN (h7.take i);have ud:=qN (h7.drop i);have dh:aU.toList.length=aU.size:=oj;have Vr:aU.toList=aU.toList.take f++(aJ.take i).flatten++(aJ.drop i).flatten++(aU.toList.drop f).drop (xs.length*ad.sz α):=by rw[eg (aU.toList.take f),<-List.flatten_append,od,<-h8,eg,od,od]
  have hmul:xs.length*ad.sz α<=cap*ad.sz α:=mo _ h4;refine⟨aU.toList.take f,aJ.take i,aJ.drop i,(aU.toList.drop f).drop (xs.length*ad.sz α),by rw[o9];omega,?_,h7.take i,h7.drop i,?_,?_,?_,h2,rfl,h4,h5⟩
  ·rw[<-Vr];simpa using h3
  ·rw[ni,o9,Nat.min_eq_left hi]
  ·rw[ud,List.length_drop]
  ·rw[List.length_drop,List.length_drop,Nat.sub_mul];omega
def Kv(b f q c z:Nat):Option Addr:=if c=q then aa ⟨b,f,none⟩else aa ⟨b,f+q*z,none⟩
def OW.tl2 [Rd]{u y:ba}{q b n c f:Nat}(hu:P.underlying t=aa (.slice e))(hT:bN P e α)(hx:ev L u=aa (.slice (aa ⟨b,f,none⟩) n c))(hy:ev L y=aa (.int .i64 (q:Int)))(hq:q<=n)(hn:n<=c):
  OW P Q L ⟨d,.slice t u (aa y) none none,ty,pos,af,g⟩ w (λv' w'=>v'= .slice (Kv b f q c (ad.sz α)) (n-q) (c-q)∧w'=w):=by
 refine OW.imp (OW.tK (l:=(q:Int)) (h:=(n:Int)) hu hT hx (.inr ⟨y,rfl,hy⟩) (.inl ⟨rfl,rfl⟩) (by omega) (by omega) (by omega)) ?_
 rintro v' w' ⟨rfl,rfl⟩
 refine⟨?_,rfl⟩
 by_cases Vw:c=q<;>simp[Kv,Vw,jR]
def OW.mid [Rd]{u y1 y2:ba}{l h b n c f:Nat}(hu:P.underlying t=aa (.slice e))(hT:bN P e α)(hx:ev L u=aa (.slice (aa ⟨b,f,none⟩) n c))(hy1:ev L y1=aa (.int .i64 (l:Int)))(tY:ev L y2=aa (.int .i64 (h:Int)))(hq:l<h)(hn:h<=c):
  OW P Q L ⟨d,.slice t u (aa y1) (aa y2) none,ty,pos,af,g⟩ w (λv' w'=>v'= .slice (aa ⟨b,f+l*ad.sz α,none⟩) (h-l) (c-l)∧w'=w):=by
 refine OW.imp (OW.tK (l:=(l:Int)) (h:=(h:Int)) hu hT hx (.inr ⟨y1,rfl,hy1⟩) (.inr ⟨y2,rfl,tY⟩) (by omega) (by omega) (by omega)) ?_
 rintro v' w' ⟨rfl,rfl⟩
 refine⟨?_,rfl⟩
 have dh:¬c=l:=by omega
 simp[dh,jR]
def OW.aDQ [Rd]{x y:ba}{b i c m c2 f:Nat}{p2:Option Addr}{A X B src:List ai}(hu:P.underlying t=aa (.slice e))(hT:bN P e α)(hx:ev L x=aa (.slice (aa ⟨b,f,none⟩) i c))(hy:ev L y=aa (.slice p2 m c2))
  (hg:w.heap[b]? =aa (.cells (A++X++B).toArray e (0,0))) (hA:A.length=f+i*ad.sz α) (hX:X.length=src.length) (hl:src.length=m*ad.sz α) (hs:0<m->∃a,p2=aa a∧j_ w a src) (h1:∀u∈src,u.oneCell'=ab) (hc:i+m<=c):
  OW P Q L ⟨d,.call {callee:= .builtin .append,args:= #[x,y],argTypes:= #[t,t]},ty,pos,af,g⟩ w (λv' w'=>v'= .slice (aa ⟨b,f,none⟩) (i+m) c∧w'=w.setRow b (A++src++B).toArray):=by
 obtain⟨ti,fP,eb,iK,mK⟩:=hT.m_
 rcases Nat.eq_zero_or_pos m with rfl|hm
 ·have yJ:src=[]:=zF (by rw[hl,Nat.zero_mul]);have hXe:X=[]:=zF (by rw[hX,yJ];rfl);subst yJ hXe;have aun:w.setRow b (A++[]++B).toArray=w:=setRow_self w b _ e (0,0) hg;refine OW.run λa ha=>⟨_,w,?_,rfl,aun.symm⟩;have h2:(dO.append_ #[t,t] ty #[.slice (aa ⟨b,f,none⟩) i c,.slice p2 0 c2]).run P w= .ok (.slice (aa ⟨b,f,none⟩) i c) w:=by cases p2<;>simp[dO.append_,run_underlying hu,sizeOf,typeInfo,fP,dO.lenOf,dO.firstCells,loadCells,loadCellsFrom,storeCells,show i<=c by omega]
  simp[execOp,resolve,invoke,builtin,ha _ _ hx,ha _ _ hy,h2]
 ·obtain⟨a,rfl,ul⟩:=hs hm;have h2:=abc (P:=P) w t ty e ti hu fP b f i c _ hg a m c2 src (by rw[hl,eb]) ul h1 hc (by rw[eb,xI,cW,cW,hA];omega);have e1:(A++X++B).toArray.toList.take (f+i*ti.size)++src++(A++X++B).toArray.toList.drop (f+i*ti.size+src.length)=A++src++B:=by
   have h3:(A++X++B).toArray.toList=A++(X++B):=by simp
   rw[h3,eb,<-hA,Cj,<-hX,J4,List.drop_left]
  rw[e1]at h2;refine OW.run λa' ha=>⟨_,_,?_,rfl,rfl⟩;simp[execOp,resolve,invoke,builtin,ha _ _ hx,ha _ _ hy,h2]
def V7{M N:List Nat}{o o':cE}{w w':ax}(h:bJ M N o w.drew o' w'):bJ M N o w o' w':=⟨h.os,h.tape,h.output,h.size,h.fU,h.new,h.nu⟩
def EC{o:cE}{w:ax}{b:Nat}(cs:Array ai)(hb:o b=1000):bJ [1000] [1000] o w o (w.setRow b cs):=(bJ.row cs hb).weaken (by simp) (by simp)
def Ow.shape{o:cE}{k:Nat}{K:List Nat}{v:ai}{xs:List α}(h:Ow e o k K w v xs):∃p cap,v= .slice p xs.length cap∧xs.length<=cap∧cap<=maxLen:=by
 rcases h with⟨rfl,rfl⟩|⟨g,f,cap,aU,aJ,rfl,_,_,h4,h5,_⟩
 ·exact⟨none,0,rfl,bw _,Nat.zero_le _⟩
 ·exact⟨_,cap,rfl,h4,h5⟩
def Ow.aa1{o:cE}{k:Nat}{K:List Nat}{v:ai}{xs:List α}(h:Ow e o k K w v xs)(hx:xs≠[]):∃b f cap,v= .slice (aa ⟨b,f,none⟩) xs.length cap:=by
 rcases h with⟨rfl,rfl⟩|⟨g,f,cap,aU,aJ,rfl,_⟩
 ·exact(hx rfl).elim
 ·exact⟨g,f,cap,rfl⟩
def Ow.block{o:cE}{k:Nat}{K:List Nat}{p:Option Addr}{n cap:Nat}{xs:List α}(h:Ow e o k K w (.slice p n cap) xs)(hx:xs≠[]):∃b f,p=aa ⟨b,f,none⟩:=by obtain⟨b,f,c,h1⟩:=Ow.aa1 h hx;cases h1;exact⟨b,f,rfl⟩
def Ow.Tg [Flat α]{o:cE}{k:Nat}{K:List Nat}{b f cap:Nat}{xs:List α}{aJ:List (List ai)}{J S:List ai}{S0:Nat->Prop}{w0:ax}(hg:w.heap[b]? =aa (.cells (J++aJ.flatten++S).toArray e (0,0)))(hJ:J.length=f)(hb:o b=k)(h:cA (ad.rd S0 w0) aJ xs)(h1:xs.length<=cap)(h2:cap<=maxLen)(hs:(cap-xs.length)*ad.sz α<=S.length):
  Ow e o k K w (.slice (aa ⟨b,f,none⟩) xs.length cap) xs:=by
 have hl:=qN h
 refine .inr ⟨b,f,cap,_,aJ,rfl,hb,hg,h1,h2,?_,h.mono λ_ _ hh=>Flat.any hh,?_⟩
 ·have e1:xs.length*ad.sz α+(cap-xs.length)*ad.sz α=cap*ad.sz α:=by rw[<-jc,show xs.length+(cap-xs.length)=cap by omega]
  simp only[xI,cW,hl,hJ];omega
 ·show((J++aJ.flatten++S).drop f).take _=_;rw[eg,<-hJ,List.drop_left,<-hl,Cj]
def WB(l:List ai)(a b:Nat)(h:a+b<=l.length):∃Y X S,l=Y++X++S∧Y.length=a∧X.length=b∧S.length=l.length-(a+b):=⟨l.take a,(l.drop a).take b,l.drop (a+b),by rw[<-List.drop_drop,eg,od,od],by simp;omega,by simp;omega,by simp⟩
section
variable {D:Nat->Type} [∀n,ad (D n)]
variable {T:bc D}
def II{c:az D}{γ:Gh D}{w w':ax}{rr:HH D c.outs}{v:ai}{n e q k:Nat}{K K' M N:List Nat}{o':cE}{r:List (D n)}[Flat (D n)]
  (h1:im T (dK T c.outs rr) aa id 3000 c.kl=aa [.one (.own q)]) (h2:jN T (dK T c.outs rr) aa id 3000 c.cn=aa [(q,aa (.sl n e r K 3000))]) (h3:stay c=[]) (hq:1000<=q) (hk:1000<=k)
  (hM:∀x∈M,1000<=x) (hN:∀x∈N,1000<=x) (ev:bJ M N γ.o w o' w') (kw:Ow e o' k K' w' v r) (hK:eo K):alA T c γ w rr v w':=by
 obtain⟨iV,ho⟩:∃iV:cE,∀b,iV b=if 1000<=o' b then q else o' b:=⟨λb=>if 1000<=o' b then q else o' b,λ_=>rfl⟩
 have A8:Ow e iV q K w' v r:=by
  rcases kw with h|⟨g,f,cap,aU,aJ,a1,a2,a3,a4,a5,a6,a7,a8⟩
  ·exact .inl h
  ·exact .inr ⟨g,f,cap,aU,aJ,a1,by rw[ho,a2,aI hk],a3,a4,a5,a6,a7.mono λ_ _ hh=>Flat.any hh,a8⟩
 refine⟨λ_=>True,⟨iV,λ_=>v,λ_=>⟨.sl n,r⟩⟩,_,_,h1,h2,⟨trivial,rfl,A8.one⟩,λp x hx=>?_,(λp hp=>by rw[h3]at hp;cases hp),ev.os,ev.tape,ev.output,ev.size,λb hb hc=>?_,λb hb hc=>?_⟩
 ·have hb:aF [(q,aa (AO.sl n e r K 3000))] p=aa (aa x):=by
   unfold dC at hx;split at hx
   ·rename_i y hy;rw[hy];cases hx;rfl
   ·cases hx
  obtain⟨rfl,hy⟩:=nN hb;cases hy;exact⟨A8,hK,.inr ⟨trivial,rfl⟩⟩
 ·have bK:=ev.fU b hb;refine⟨?_,ev.nu b hb λhm=>?_⟩
  ·show iV b=γ.o b;rw[ho,bK,aK (by omega)]
  ·have:=hM _ hm;omega
 ·have hc:iV b=0∨iV b=3:=hc;rw[ho]at hc;by_cases aS:b<w.heap.size
  ·refine⟨aS,?_⟩;show γ.o b=iV b;rw[ho];have bK:=ev.fU b aS;split
   ·rename_i h9;rw[aI h9]at hc;omega
   ·exact bK.symm
  ·have:=hN _ (ev.new b (by omega) hb);rw[aI this]at hc;omega
