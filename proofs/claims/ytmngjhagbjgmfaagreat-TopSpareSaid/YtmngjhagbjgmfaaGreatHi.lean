import Derived.Test.YtmngjhagbjgmfaaGreatHc
import Derived.Lib.AppendZerosOnto
import Derived.Lib.Overlaps
import Derived.Laws.Externs
set_option linter.all false
open Array renaming getD->uM,getElem?_setIfInBounds->FC,length_toList->oc
open Bool renaming and_eq_true->bt,false->ai,true->ab
open Decidable renaming decide->al
open Go renaming Builtin->dN,Oper->aT,Operand->a_,Program->cQ,TypeId->aY,Value->ah,World->ay
open List renaming all_eq_true->dU,append_assoc->ed,drop_length_add_append->Ju,eq_nil_of_length_eq_zero->zn,filter_eq_self->FA,getElem?_eq_some_iff->gK,length_append->cW,length_take->oX,mem_of_getElem?->oW,mem_range->eu,range->bW,replicate->cU,size_toArray->xy,take_append_drop->pR,take_left->B5
open Nat renaming add_mul->iT,blt->dz,eq_of_beq_eq_true->bB,le_of_ble_eq_true->dp,le_refl->bx,mul_le_mul_right->mj
open Option renaming none->ak,some->aa
namespace Go.Proofs.YtmngjhagbjgmfaaGreat
open Go Go.RowKit Dp
namespace Rx
def aeM(l:List aT)(L:List (Nat×ah))(ds:List Nat)(vs:List ah)(i:Nat):List (Nat×ah):=(gl l i).filterMap (λj=>match ds[j]?,vs[j]? with|some d,aa v=>aa (d,v)|_,_=>ak)++L.filter (λp=> !ds.contains p.1)
def LS:List Nat->Bool
 |[]=>ab
 |x::r=> !r.contains x&&LS r
def aeT(n:Nat)(l:List aT)(k:Nat)(ds:List Nat):Bool:=
 Nat.beq ds.length k&&dz k l.length&&LS ds&&ds.all (λd=>dz d n)&&
 (bW k).all (λi=>(match l[i]? with|some o=>(match o.dst with|some d=>(match ds[i]? with|some e=>Nat.beq d e|none=>ai)|none=>ai)&&o.guard.isNone|none=>ai))&&
 (bW (k+1)).all (λi=>(gl l i).all λj=>dz j i)&&
 (bW k).all (λi=>(bW (k+1)).any λj=>dz i j&&(gl l j).contains i)&&
 (bW l.length).all (λq=>Nat.ble q k||((gl l q).contains (q-1)&&(gl l q).all λj=>dz j q))
section
variable {P:cQ} {n:Nat} {Q:Exit->Act->ay->Prop} {L:List (Nat×ah)} {l:List aT}
def Jf [Rd](P:cQ)(Q:Exit->Act->ay->Prop)(w:ay)(E:Nat->List (Nat×ah)):Nat->List aT->List ah->Prop
 |i,o::l,v::vs=>OW P Q (E i) o w (λv' w'=>v'=v∧w'=w)∧Jf P Q w E (i+1) l vs
 |_,_,_=>True
def Jf.get [Rd]{w:ay}{E:Nat->List (Nat×ah)}:∀(j:Nat) {i:Nat} {l:List aT} {vs:List ah} {o:aT} {v:ah},Jf P Q w E i l vs->l[j]? =aa o->vs[j]? =aa v->OW P Q (E (i+j)) o w (λv' w'=>v'=v∧w'=w):=by
 intro j;induction j with
 |zero=>
  intro i l vs o v h h1 h2;cases l with
  |nil=>simp at h1
  |cons o' l=>
   cases vs with
   |nil=>simp at h2
   |cons v' vs=>simp at h1 h2;subst h1 h2;exact h.1
 |succ j ih=>
  intro i l vs o v h h1 h2;cases l with
  |nil=>simp at h1
  |cons o' l=>
   cases vs with
   |nil=>simp at h2
   |cons v' vs=>have:=ih h.2 (by simpa using h1) (by simpa using h2);rw[show i+(j+1)=i+1+j by omega];exact this
def abq:∀{ds:List Nat},LS ds=ab->∀{i j d:Nat},ds[i]? =aa d->ds[j]? =aa d->i=j
 |[],_,i,j,d,h1,_=>by simp at h1
 |x::r,h,i,j,d,h1,h2=>by
  simp only[LS,bt]at h;have hx:x∉r:=by simpa using h.1
  match i,j with
  |0,0=>rfl
  |0,j+1=>simp at h1 h2;subst h1;exact(hx (oW h2)).elim
  |i+1,0=>simp at h1 h2;subst h2;exact(hx (oW h1)).elim
  |i+1,j+1=>simp at h1 h2;rw[abq h.2 h1 h2]
def arl{ds:List Nat}{vs:List ah}:∀{t:Nat} {v:ah},Dp.look (ds.zip vs) t=aa v->∃i:Nat,ds[i]? =aa t∧vs[i]? =aa v:=by
 induction ds generalizing vs with
 |nil=>intro t v h;simp[Dp.look]at h
 |cons d ds ih=>
  intro t v h;cases vs with
  |nil=>simp[Dp.look]at h
  |cons u vs=>
   rw[List.zip_cons_cons]at h;by_cases hd:d=t
   ·subst hd;rw[iK]at h;cases h;exact⟨0,rfl,rfl⟩
   ·rw[gZ _ _ hd]at h;obtain⟨i,h1,h2⟩:=ih h;exact⟨i+1,by simpa using h1,by simpa using h2⟩
def SN{ds:List Nat}{vs:List ah}:∀{js:List Nat} {t:Nat} {v:ah},Dp.look (js.filterMap (λj=>match ds[j]?,vs[j]? with|some d,aa v=>aa (d,v)|_,_=>ak)) t=aa v->∃j∈js,ds[j]? =aa t∧vs[j]? =aa v
 |[],t,v,h=>by simp[Dp.look]at h
 |j::js,t,v,h=>by
  rw[List.filterMap_cons]at h;split at h
  ·obtain⟨i,h1,h2⟩:=SN h;exact⟨i,by simp[h1],h2⟩
  ·rename_i b hb;split at hb
   ·rename_i d u h1 h2;cases hb;by_cases hd:d=t
    ·subst hd;rw[iK]at h;cases h;exact⟨j,by simp,h1,h2⟩
    ·rw[gZ _ _ hd]at h;obtain⟨i,h3,h4⟩:=SN h;exact⟨i,by simp[h3],h4⟩
   ·cases hb
structure DSt [I:Rd](n:Nat)(L:List (Nat×ah))(l:List aT)(k:Nat)(ds:List Nat)(vs:List ah)(cz:Array Bool)(a:Act):Prop where
 sz:cz.size=l.length
 size:a.tmps.size=n
 defers:a.defers=I.ds
 new:∀(i d:Nat) (v:ah),cz.getD i ai=ab->ds[i]? =aa d->vs[i]? =aa v->a.tmps[d]? =aa v
 gY:∀(t:Nat) (v:ah),Dp.look L t=aa v->t∉ds->a.tmps[t]? =aa v
 late:∀i,k<=i->cz.getD i ai=ai
 closed:∀i,cz.getD i ai=ab->∀j∈gl l i,cz.getD j ai=ab
def CW.draw{id:Nat}{w:ay}(hm:P.follows .mixedOrders=ab)(k:Nat)(ds:List Nat)(vs:List ah)(jt:aeT n l k ds=ab)(Tx:vs.length=k)
  (hp:Jf P Q w.drew (aeM l L ds vs) 0 (l.take k) vs) (ht:WL P n l.toArray Q (l.drop k) (ds.zip vs++L.filter (λp=> !ds.contains p.1)) w.drew):
  CW P n (.region id l.toArray ab) Q L w:=by
 intro a ha
 refine wpIn_region_any hm ?_
 simp only[aeT,bt]at jt
 obtain⟨⟨⟨⟨⟨⟨⟨c1,c2⟩,c3⟩,c4⟩,c5⟩,c6⟩,c7⟩,c8⟩:=jt
 have vI:ds.length=k:=bB c1
 have sK:k<l.length:=dp c2
 have xg:∀i,i<=k->∀j∈gl l i,j<i:=λi hi j hj=>by have h1:=dU.1 c6 i (eu.2 (by omega));exact dp (dU.1 h1 j hj)
 have TO:∀i,i<k->∃j,j<=k∧i<j∧i∈gl l j:=λi hi=>by have h1:=dU.1 c7 i (eu.2 hi);obtain⟨j,hj,h2⟩:=List.any_eq_true.1 h1;simp only[bt]at h2;have ma:=eu.1 hj;refine⟨j,by omega,dp h2.1,by simpa using h2.2⟩
 have D0:∀q,k<q->q<l.length->(q-1)∈gl l q∧∀j∈gl l q,j<q:=λq hq AM=>by
  have h1:=dU.1 c8 q (eu.2 AM);simp only[Bool.or_eq_true,bt]at h1;rcases h1 with h1|h1
  ·have:=dp h1;omega
  ·exact⟨by simpa using h1.1,λj hj=>by exact dp (dU.1 h1.2 j hj)⟩
 have TX:∀i,i<k->∃d o v,l[i]? =aa o∧o.dst=aa d∧o.guard=ak∧ds[i]? =aa d∧vs[i]? =aa v∧d<n:=λi hi=>by
  have h1:=dU.1 c5 i (eu.2 hi);split at h1
  ·rename_i o ho;simp only[bt]at h1;obtain⟨h1,hg⟩:=h1;split at h1
   ·rename_i d hd;split at h1
    ·rename_i e he;have hde:d=e:=bB h1;subst hde;have hvi:i<vs.length:=by omega
     have hdn:=dU.1 c4 d (oW he);exact⟨d,o,vs[i],ho,hd,by simpa using hg,he,List.getElem?_eq_getElem hvi,dp hdn⟩
    ·cases h1
   ·cases h1
  ·cases h1
 have gG:∀{cz:Array Bool},(∀i,cz.getD i ai=ab->∀j∈gl l i,cz.getD j ai=ab)->(∀j∈gl l k,cz.getD j ai=ab)->∀i,i<k->cz.getD i ai=ab:=by
  intro cz c_ vC i;have key:∀m i,k-i<=m->i<k->cz.getD i ai=ab:=by
   intro m;induction m with
   |zero=>intro i h1 h2;omega
   |succ m ih=>
    intro i h1 h2;obtain⟨j,h3,h4,h5⟩:=TO i h2;by_cases hj:j=k
    ·subst hj;exact vC i h5
    ·exact c_ j (ih j (by omega) (by omega)) i h5
  exact key _ i (bx _)
 have main:∀(jI:Nat) (cz:Array Bool) (a:Act),l.length<=jI+((bW l.length).filter λi=>cz.getD i ai).length->DSt n L l k ds vs cz a->wpAnyIn Rd.plain.F 0 P .any l.toArray Q jI cz a w.drew:=by
  intro jI;induction jI with
  |zero=>
   intro cz a hf hJ;exfalso;have MD:((bW l.length).filter λi=>cz.getD i ai).length<(bW l.length).length:=by have h9:=filter_lt (p:=λ_=>ab) (q:=λi=>cz.getD i ai) (i:=k) (λ_ _=>rfl) rfl (hJ.late k (bx _)) (l:=bW l.length) (eu.2 sK);have h8:(bW l.length).filter (λ_=>ab)=bW l.length:=FA.2 λ_ _=>rfl;rw[h8]at h9;exact h9
   rw[List.length_range]at MD;omega
  |succ jI ih=>
   intro cz a hf hJ;refine⟨λhr=>?_,λi hi=>?_⟩
   ·exfalso;have HN:∀i,i<=k->cz.getD i ai=ab:=by
     intro i;induction i using Nat.strongRecOn with
     |_ i G8=>
      intro eN;cases sJ:cz.getD i ai with
      |true=>rfl
      |false=>have:i∈Region.ready .any l.toArray cz:=(xV hJ.sz).2 ⟨by omega,sJ,λj hj=>G8 j (xg i eN j hj) (by have:=xg i eN j hj;omega)⟩;rw[hr]at this;cases this
    have:=HN k (bx _);rw[hJ.late k (bx _)]at this;cases this
   ·obtain⟨h1,h2,h3⟩:=(xV hJ.sz).1 hi;by_cases eN:i<k
    ·obtain⟨d,o,v,e1,e2,e3,e4,e5,e6⟩:=TX i eN;have Ui:l.toArray[i]? =aa o:=by simpa using e1
     have atp:=Jf.get i (o:=o) (v:=v) hp (by rw[List.getElem?_take,aH eN];exact e1) e5;unfold wpOpIn;rw[Ui];simp only;rw[aH (by simp[Region.wanted,e3])];refine(atp a _ (λx u hx=>?_) ?_)
     ·rw[Nat.zero_add]at hx;cases x with
      |tmp t=>
       have hx:Dp.look (aeM l L ds vs i) t=aa u:=hx;have:a.tmps[t]? =aa u:=by
        rcases abT hx with hx|⟨_,hx⟩
        ·obtain⟨j,hj,h4,h5⟩:=SN hx;exact hJ.new j t u (h3 j hj) h4 h5
        ·obtain⟨h4,h5⟩:=abR (p:=λx=> !ds.contains x) hx;exact hJ.gY t u h4 (by simpa using h5)
       simp[Act.eval,this]
      |const u=>simpa[ev,Act.eval]using hx
      |global g=>simpa[ev,Act.eval]using hx
      |func f=>simpa[ev,Act.eval]using hx
     ·rintro v' w' ⟨rfl,rfl⟩;rw[e2];have m_:i<cz.size:=by rw[hJ.sz];exact h1
      refine ih _ _ ?_ ⟨by simp[hJ.sz],by simp[Act.put,hJ.size],by simp[Act.put,hJ.defers],?_,?_,?_,?_⟩
      ·have aV:=filter_lt (p:=λj=>(cz.setIfInBounds i ab).getD j ai) (q:=λj=>cz.getD j ai) (i:=i) (λx hx=>by
        rw[Am m_];by_cases Hd:x=i
        ·simp[Hd]
        ·rw[aL Hd];exact hx) (by rw[Am m_];simp) h2 (l:=bW l.length) (eu.2 h1)
       omega
      ·intro j e u hj h4 h5;rw[Am m_]at hj;by_cases fI:j=i
       ·subst fI;rw[e4]at h4;cases h4;rw[e5]at h5;cases h5;simp[Act.put,FC,hJ.size,e6]
       ·rw[aL fI]at hj;have bR:d≠e:=λhe=>fI (abq c3 (he▸h4) e4);simp[Act.put,FC,bR];exact hJ.new j e u hj h4 h5
      ·intro t u h4 h5;have bR:d≠t:=λhe=>h5 (he▸oW e4);simp[Act.put,FC,bR];exact hJ.gY t u h4 h5
      ·intro j hj;rw[Am m_,aL (by omega)];exact hJ.late j hj
      ·intro j hj q hq;rw[Am m_]at hj⊢;by_cases hqi:q=i
       ·simp[hqi]
       ·rw[aL hqi];by_cases fI:j=i
        ·subst fI;exact h3 q hq
        ·rw[aL fI]at hj;exact hJ.closed j hj q hq
    ·have HG:i=k:=by
      by_cases bR:i=k
      ·exact bR
      ·exfalso;have:=h3 (i-1) (D0 i (by omega) h1).1;rw[hJ.late (i-1) (by omega)]at this;cases this
     subst HG;have HN:=gG hJ.closed h3;have Mv:=ht a ⟨hJ.size,hJ.defers,λt v hv=>by
      rcases abT hv with hv|⟨_,hv⟩
      ·obtain⟨j,h4,h5⟩:=arl hv;have ma:j<i:=by have:=(gK.1 h4).1;omega
       exact hJ.new j t v (HN j ma) h4 h5
      ·obtain⟨h4,h5⟩:=abR (p:=λx=> !ds.contains x) hv;exact hJ.gY t v h4 (by simpa using h5),λ_ _ h=>by cases h⟩
     have hw:=V1 (P:=P) (Q:=Q) D0 (xg i (bx _)) (jI+1) i cz a w.drew hJ.sz (bx _) (by omega) (by
      have hle:((bW l.length).filter λj=>cz.getD j ai).length<=i:=by
       have hs:((bW l.length).filter λj=>cz.getD j ai)=(bW l.length).filter λj=>decide (j<i):=by
        refine List.filter_congr λj hj=>?_;by_cases fI:j<i
        ·rw[HN j fI];simp[fI]
        ·rw[hJ.late j (by omega)];simp[fI]
       rw[hs];have:(bW l.length).filter (λj=>decide (j<i))=bW i:=by
        have h5:bW l.length=bW i++(bW (l.length-i)).map (i+·):=by rw[<-List.range_add];cR 1;omega
        rw[h5,List.filter_append];have h6:(bW i).filter (λj=>decide (j<i))=bW i:=FA.2 λj hj=>by simpa using hj
        have h7:((bW (l.length-i)).map (i+·)).filter (λj=>decide (j<i))=[]:=by rw[List.filter_eq_nil_iff];intro j hj;obtain⟨q,_,rfl⟩:=List.mem_map.1 hj;simp
        rw[h6,h7,List.append_nil]
       rw[this,List.length_range];exact bx _
      omega) (λj hj=>by
       by_cases fI:j<i
       ·rw[HN j fI];simp[fI]
       ·rw[hJ.late j (by omega)];simp[fI]) Mv
     exact hw.2 i hi
 refine main _ _ a ?_ ⟨by simp,ha.size,ha.defers,λi d v hi=>?_,λt v h _=>ha.get t v h,λi _=>by simp[uM],λi hi=>?_⟩
 ·simp
 ·simp[uM]at hi
 ·simp[uM]at hi
end
def G7{α:Type}(xs:List α)(i:Int)(ys:List α):Option (List α):=match al (0<=i)&&al (i<=len xs)&& !ys.isEmpty,bG xs ys with
 |true,aa _=>aa (xs.take i.toNat++ys++xs.drop i.toNat)
 |_,_=>ak
def Io{α:Type}(xs:List α)(i j:Int):Option (List α):=match al (0<=i)&&al (i<=j)&&al (j<=len xs)with
 |true=>aa (xs.take i.toNat++xs.drop j.toNat)
 |false=>ak
def asb{α:Type}{xs ys r:List α}{i:Int}(h:G7 xs i ys=aa r):0<=i∧i<=(xs.length:Int)∧ys≠[]∧bG xs ys=aa (xs++ys)∧xs.length+ys.length<=1073741824∧r=xs.take i.toNat++ys++xs.drop i.toNat:=by
 unfold G7 at h;split at h
 ·rename_i h1 h2;simp only[bt,akE]at h1;cases h;have h3:=h2;unfold bG at h3;split at h3
  ·rename_i h4;cases h3;exact⟨h1.1.1,by have:=h1.1.2;unfold len at this;exact this,by intro he;subst he;simp at h1,h2,h4,rfl⟩
  ·cases h3
 ·cases h
def axP{α:Type}{xs r:List α}{i j:Int}(h:Io xs i j=aa r):0<=i∧i<=j∧j<=(xs.length:Int)∧r=xs.take i.toNat++xs.drop j.toNat:=by
 unfold Io at h;split at h
 ·rename_i h1;simp only[bt,akE]at h1;cases h;exact⟨h1.1.1,h1.1.2,by have:=h1.2;unfold len at this;exact this,rfl⟩
 ·cases h
section
variable {α:Type} [ad α]
variable {P:cQ} {Q:Exit->Act->ay->Prop} {L:List (Nat×ah)} {w:ay} {d:Option Tmp} {ty:aY} {pos:String} {af:Array Edge} {g:Option (Nat×Bool)} {t e:aY}
def OW.tL [Rd]{u:a_}{lo hi:Option a_}{l h:Int}{p:Option Addr}{n c:Nat}(hu:P.underlying t=aa (.slice e))(hT:bO P e α)(hx:ev L u=aa (.slice p n c))(AZ:zj L lo 0 l)(A_:zj L hi n h)(b1:0<=l)(b2:l<=h)(b3:h<=(c:Int)):
  OW P Q L ⟨d,.slice t u lo hi ak,ty,pos,af,g⟩ w (λv' w'=>v'= .slice (if c=l.toNat then p else p.map (·.add (l.toNat*ad.sz α))) (h.toNat-l.toNat) (c-l.toNat)∧w'=w):=by
 refine OW.run λa ha=>⟨_,w,?_,rfl,rfl⟩
 have A9:(h.toNat:Int)=h:=by omega
 have rF:(l.toNat:Int)=l:=by omega
 rcases AZ with⟨rfl,rfl⟩|⟨yl,rfl,hl⟩<;>rcases A_ with⟨rfl,rfl⟩|⟨yh,rfl,hh⟩
 ·simp[execOp,ha _ _ hx,Instr.sliceAt,run_underlying hu,Instr.slice,Instr.sliceBounds,hT.sizeOf]
 ·have b0:0<=h:=by omega
  simp[execOp,ha _ _ hx,ha _ _ hh,Instr.sliceAt,run_underlying hu,Instr.slice,Instr.sliceBounds,Instr.sliceBound,asIntOf,hT.sizeOf,b0,b3]
 ·simp[execOp,ha _ _ hx,ha _ _ hl,Instr.sliceAt,run_underlying hu,Instr.slice,Instr.sliceBounds,Instr.sliceBound,asIntOf,hT.sizeOf,b1,b2]
 ·have b0:0<=h:=by omega
  simp[execOp,ha _ _ hx,ha _ _ hl,ha _ _ hh,Instr.sliceAt,run_underlying hu,Instr.slice,Instr.sliceBounds,Instr.sliceBound,asIntOf,hT.sizeOf,b1,b0,b3,A9,b2]
def OW.slice3 [Rd]{u y1 y2 y3:a_}{l h m:Int}{p:Option Addr}{n c:Nat}(hu:P.underlying t=aa (.slice e))(hT:bO P e α)(hx:ev L u=aa (.slice p n c))(h1:ev L y1=aa (.int .i64 l))(h2:ev L y2=aa (.int .i64 h))(h3:ev L y3=aa (.int .i64 m))(b1:0<=l)(b2:l<=h)(b3:h<=m)(b4:m<=(c:Int)):
  OW P Q L ⟨d,.slice t u (aa y1) (aa y2) (aa y3),ty,pos,af,g⟩ w (λv' w'=>w'=w∧True):=by
 refine OW.run λa ha=>⟨.slice (if m.toNat=l.toNat then p else p.map (·.add (l.toNat*ad.sz α))) (h.toNat-l.toNat) (m.toNat-l.toNat),w,?_,rfl,trivial⟩
 have A9:(h.toNat:Int)=h:=by omega
 have rF:(l.toNat:Int)=l:=by omega
 have T4:(m.toNat:Int)=m:=by omega
 have b0:0<=h:=by omega
 have b5:0<=m:=by omega
 simp[execOp,ha _ _ hx,ha _ _ h1,ha _ _ h2,ha _ _ h3,Instr.sliceAt,run_underlying hu,Instr.slice,Instr.sliceBounds,Instr.sliceBound,asIntOf,hT.sizeOf,b1,b0,b5,b3,b4,A9,T4,b2]
def OW.cap [Rd]{o:a_}{p:Option Addr}{n c:Nat}(hu:P.underlying t=aa (.slice e))(hx:ev L o=aa (.slice p n c))(hc:c<=maxLen):
  OW P Q L ⟨d,.call {callee:= .builtin .cap,args:= #[o],argTypes:= #[t]},ty,pos,af,g⟩ w (λv' w'=>v'= .int .i64 c∧w'=w):=by
 refine OW.run λa ha=>⟨_,w,?_,rfl,rfl⟩
 simp[execOp,resolve,invoke,builtin,ha _ _ hx,dN.cap_,run_underlying hu,goInt]
def OW.NX [Rd]{x y:a_}{b off dl dc sl sc:Nat}{a:Addr}{A X B src:List ah}{T:aY}(hu:P.underlying t=aa (.slice e))(hT:bO P e α)(hx:ev L x=aa (.slice (aa ⟨b,off,ak⟩) dl dc))(hy:ev L y=aa (.slice (aa a) sl sc))
  (hg:w.heap[b]? =aa (.cells (A++X++B).toArray T (0,0))) (hA:A.length=off) (hX:X.length=src.length) (hl:src.length=min sl dl*ad.sz α) (hs:∀(j:Nat) (u:ah),src[j]? =aa u->w.cell? (a.add j)=aa u) (h1:∀u∈src,u.oneCell'=ab):
  OW P Q L ⟨d,.call {callee:= .builtin .copy,args:= #[x,y],argTypes:= #[t,t]},ty,pos,af,g⟩ w (λv' w'=>w'=w.setRow b (A++src++B).toArray):=by
 obtain⟨i,gw,ep,iy,mH⟩:=hT.nG
 have hf:=run_firstCells_some (P:=P) w i.size (min sl dl) a sl sc src (by rw[hl,ep]) hs
 have bV:=run_storeCells_at P b off T src 0 _ w hg (by simp;omega) h1
 simp only[Nat.add_zero]at bV
 have e1:(A++X++B).toArray.toList.take off++src++(A++X++B).toArray.toList.drop (off+src.length)=A++src++B:=by
  have h2:(A++X++B).toArray.toList=A++(X++B):=by simp
  rw[h2,<-hA,B5,<-hX,Ju,List.drop_left]
 rw[e1]at bV
 refine OW.run λa' ha=>⟨goInt (min sl dl),w.setRow b (A++src++B).toArray,?_,rfl⟩
 have yA:Nat.min sl dl=min sl dl:=rfl
 simp[execOp,resolve,invoke,builtin,ha _ _ hx,ha _ _ hy,dN.copy_,run_underlying hu,sizeOf,typeInfo,gw,dN.lenOf,yA,hf,bV]
 cR 1
 omega
def OW.ayc [Rd]{x:a_}{b off k c:Nat}{A X B:List ah}{T:aY}(hu:P.underlying t=aa (.slice e))(hT:bO P e α)(hx:ev L x=aa (.slice (aa ⟨b,off,ak⟩) (k+1) c))
  (hg:w.heap[b]? =aa (.cells (A++X++B).toArray T (0,0))) (hA:A.length=off) (hX:X.length=(k+1)*ad.sz α):
  OW P Q L ⟨d,.call {callee:= .builtin .clear,args:= #[x],argTypes:= #[t]},ty,pos,af,g⟩ w (λv' w'=>∃Z:List ah,Z.length=X.length∧w'=w.setRow b (A++Z++B).toArray):=by
 have hz:(pack (ad.agg α) (ad.zc α)).cells.toList=ad.zc α:=wM (α:=α) (ad.ga (λ_=>True) w)
 have gT:(ad.zc α).length=ad.sz α:=ad.len (ad.ga (α:=α) (λ_=>True) w)
 have iZ:(pack (ad.agg α) (ad.zc α)).cells.size=ad.sz α:=by rw[<-oc,hz,gT]
 have tY:(dN.zeroCells (pack (ad.agg α) (ad.zc α)).cells (k+1)).toList=(cU (k+1) (ad.zc α)).flatten:=by have:=afe (pack (ad.agg α) (ad.zc α)).cells (by rw[iZ];exact ad.pos) (k+1);rw[hz]at this;rw[<-this];simp[dN.zeroCells]
 have l8:(cU (k+1) (ad.zc α)).flatten.length=(k+1)*ad.sz α:=by simp[gT]
 have mE:∀u∈(cU (k+1) (ad.zc α)).flatten,u.oneCell'=ab:=by intro u hu;obtain⟨l,hl,Hh⟩:=List.mem_flatten.1 hu;rw[List.mem_replicate]at hl;exact ad.one (ad.ga (α:=α) (λ_=>True) w) u (hl.2▸Hh)
 have bV:=run_storeCells_at P b off T (cU (k+1) (ad.zc α)).flatten 0 _ w hg (by simp only[l8,xy,cW];omega) mE
 simp only[Nat.add_zero]at bV
 have e1:(A++X++B).toArray.toList.take off++(cU (k+1) (ad.zc α)).flatten++(A++X++B).toArray.toList.drop (off+(cU (k+1) (ad.zc α)).flatten.length)=A++(cU (k+1) (ad.zc α)).flatten++B:=by
  have h2:(A++X++B).toArray.toList=A++(X++B):=by simp
  rw[h2,<-hA,B5,l8,<-hX,Ju,List.drop_left]
 rw[e1]at bV
 refine OW.run λa ha=>⟨.tuple #[],_,?_,_,by rw[l8,hX],rfl⟩
 have e0:(dN.clear_ #[t] ty #[ah.slice (aa ⟨b,off,ak⟩) (k+1) c]).run P w= .ok (.tuple #[]) (w.setRow b (A++(cU (k+1) (ad.zc α)).flatten++B).toArray):=by simp[dN.clear_,run_underlying hu,hT.zero,tY,bV]
 simp[execOp,resolve,invoke,builtin,ha _ _ hx,e0]
def OW.overlaps [Rd]{x y:a_}{f:Nat}{fn:Func}{a b la ca lb cb oa ob:Nat}{ca' V6:Array ah}{ta tb tR:aY}{ats:Array aY}(hu:P.underlying t=aa (.slice e))(hT:bO P e α)(hf:P.funcs[f]? =aa fn)(hn:(fn.name== "runtime.NumGoroutine")=ai)(hb:fn.body.isNone=ab)(ud:Extern.findNext fn=ak)(he:Extern.find fn=aa (Extern.SlicesOverlaps.overlaps #[t,t] #[tR]))
  (hx:ev L x=aa (.slice (aa ⟨a,oa,ak⟩) la ca)) (hy:ev L y=aa (.slice (aa ⟨b,ob,ak⟩) lb cb)) (bR:a≠b) (HK:w.heap[a]? =aa (.cells ca' ta (0,0))) (MT:w.heap[b]? =aa (.cells V6 tb (0,0))) (hs:V6.size≠0):
  OW P Q L ⟨d,.call {callee:= .value (.func f),args:= #[x,y],argTypes:=ats},ty,pos,af,g⟩ w (λv' w'=>v'= .bool ai∧w'=w):=by
 have h1:=run_callFunc_extern hf hn hb ud he #[.slice (aa ⟨a,oa,ak⟩) la ca,.slice (aa ⟨b,ob,ak⟩) lb cb] w
 rw[Lib.run_overlaps_apart w t tR e hu (ad.sz α) (λw=>hT.sizeOf w) ⟨a,oa,ak⟩ ⟨b,ob,ak⟩ la ca lb cb bR ta tb ca'.size V6.size (by simp[ay.shape?,HK]) (by simp[ay.shape?,MT]) hs (by simp[ay.frozen?,HK]) (by simp[ay.frozen?,HK])]at h1
 refine OW.run λa' ha=>⟨_,_,?_,rfl,rfl⟩
 have h2:=ha _ _ hx
 have h3:=ha _ _ hy
 simp[Act.eval]at h2 h3
 simp[execOp,resolve,invoke,Deferred.ofValue,Act.eval]
 rw[h2,h3,h1]
 rfl
def OW.pvE [Rd]{op:Op}{v v':ah}(h:Dp.pv L op=aa v)(hv:v=v'):OW P Q L ⟨d,op,ty,pos,af,g⟩ w (λu w'=>u=v'∧w'=w):=hv▸OW.pv h
def WL.pe [I:Rd]{n d:Nat}{ops:Array aT}{rest:List aT}{op:Op}{v v':ah}(h:Dp.pv L op=aa v)(hv:v=v')(hd:I.eZ n d=ab)(k:WL P n ops Q rest ((d,v')::L) w):WL P n ops Q (⟨aa d,op,ty,pos,af,ak⟩::rest) L w:=by subst hv;exact WL.v h hd k
def OW.pre [Rd]{u y:a_}{q:Nat}{p:Option Addr}{n c:Nat}(hu:P.underlying t=aa (.slice e))(hT:bO P e α)(hx:ev L u=aa (.slice p n c))(hy:ev L y=aa (.int .i64 (q:Int)))(hq:q<=c):
  OW P Q L ⟨d,.slice t u ak (aa y) ak,ty,pos,af,g⟩ w (λv' w'=>v'= .slice p q c∧w'=w):=by
 refine OW.imp (OW.tL (l:=0) (h:=(q:Int)) hu hT hx (.inl ⟨rfl,rfl⟩) (.inr ⟨y,rfl,hy⟩) (by omega) (by omega) (by omega)) ?_
 rintro v' w' ⟨rfl,rfl⟩
 refine⟨?_,rfl⟩
 have h0:p.map (λa:Addr=>a.add 0)=p:=by cases p<;>simp[Addr.add]
 simp[h0]
def OW.tl [Rd]{u y:a_}{q b n c f p:Nat}(hu:P.underlying t=aa (.slice e))(hT:bO P e α)(hx:ev L u=aa (.slice (aa ⟨b,f,ak⟩) n c))(hy:ev L y=aa (.int .i64 (q:Int)))(hq:q<=n)(hn:n<=c)(hc:q<c)(hp:f+q*ad.sz α=p):
  OW P Q L ⟨d,.slice t u (aa y) ak ak,ty,pos,af,g⟩ w (λv' w'=>v'= .slice (aa ⟨b,p,ak⟩) (n-q) (c-q)∧w'=w):=by
 refine OW.imp (OW.tL (l:=(q:Int)) (h:=(n:Int)) hu hT hx (.inr ⟨y,rfl,hy⟩) (.inl ⟨rfl,rfl⟩) (by omega) (by omega) (by omega)) ?_
 rintro v' w' ⟨rfl,rfl⟩
 refine⟨?_,rfl⟩
 have UF:¬c=q:=by omega
 simp[UF,jL,hp]
def OW.ang [Rd]{u y:a_}{q n c:Nat}{p:Option Addr}(hu:P.underlying t=aa (.slice e))(hT:bO P e α)(hx:ev L u=aa (.slice p n c))(hy:ev L y=aa (.int .i64 (q:Int)))(hq:q<=n)(hn:n<=c):
  OW P Q L ⟨d,.slice t u (aa y) ak ak,ty,pos,af,g⟩ w (λv' w'=>w'=w∧True):=
 OW.imp (OW.tL (l:=(q:Int)) (h:=(n:Int)) hu hT hx (.inr ⟨y,rfl,hy⟩) (.inl ⟨rfl,rfl⟩) (by omega) (by omega) (by omega)) λv' w' h=>⟨h.2,trivial⟩
def C3{w:ay}{b off:Nat}{A X B:List ah}{T:aY}(hg:w.heap[b]? =aa (.cells (A++X++B).toArray T (0,0)))(hA:A.length=off):kb w ⟨b,off,ak⟩ X:=by
 intro j u hj;have jX:(⟨b,off,ak⟩:Addr).add j=⟨b,off+j,ak⟩:=by unfold Addr.add;split<;>simp_all
 rw[jX,cell_of_row w b (off+j) _ T (0,0) hg];have aV:j<X.length:=(gK.1 hj).1;have h1:(A++X++B).toArray[off+j]? =(A++(X++B))[off+j]? :=by simp
 rw[h1,<-hA,List.getElem?_append_right (by omega),Nat.add_sub_cancel_left,List.getElem?_append_left aV];exact hj
def OW.aCn [Rd]{x y:a_}{b i c k f:Nat}{J A B:List ah}{T tn:aY}(hu:P.underlying t=aa (.slice e))(hT:bO P e α)(yr:P.underlying tn=aa (.int .i64))(hx:ev L x=aa (.slice (aa ⟨b,f,ak⟩) i c))(hy:ev L y=aa (.int .i64 (k:Int)))
  (hg:w.heap[b]? =aa (.cells (J++A++B).toArray T (0,0))) (hJ:J.length=f) (hA:A.length=i*ad.sz α) (h0:0<k) (hc:c<i+k) (T7:i+k<=1073741824):
  OW P Q L ⟨d,.call {callee:= .builtin .append,args:= #[x,y],argTypes:= #[t,tn]},ty,pos,af,g⟩ w (λv' w'=>∃(G:Nat) (Z:List ah),v'= .slice (aa ⟨w.heap.size,0,ak⟩) (i+k) G∧i+k<=G∧G<=maxLen∧Z.length=(G-i)*ad.sz α∧w'=w.drew.alloc (.cells (A++Z).toArray e)):=by
 obtain⟨ti,gw,ep,iy,mH⟩:=hT.nG
 have hz:(pack (ad.agg α) (ad.zc α)).cells.toList=ad.zc α:=wM (α:=α) (ad.ga (λ_=>True) w)
 have gT:(ad.zc α).length=ad.sz α:=ad.len (ad.ga (α:=α) (λ_=>True) w)
 have iZ:(pack (ad.agg α) (ad.zc α)).cells.size=ad.sz α:=by rw[<-oc,hz,gT]
 have HQ:kb w ⟨b,f,ak⟩ A:=C3 (A:=J) (X:=A) (B:=B) hg hJ
 have D1:(i+k)*ti.bytes<=140737488355328:=by have:=Nat.mul_le_mul T7 iy;omega
 have hold:(dN.firstCells ti.size i (.slice (aa ⟨b,f,ak⟩) i c)).run P w.drew= .ok A.toArray w.drew:=
  run_firstCells_some w.drew ti.size i ⟨b,f,ak⟩ i c A (by rw[hA,ep]) HQ
 have hkb:k*ti.bytes<=(i+k)*ti.bytes:=mj _ (by omega)
 have h:=Lib.run_append_grow_zeros (P:=P) w t tn ty e ti _ .i64 .i64 hu yr gw mH (aa ⟨b,f,ak⟩) i c A hold k h0 (by rw[ep];exact ad.pos) hc (by omega) (by omega) (growslice_fits hc D1)
 have sL:=grownCap_ge w (i+k) c e
 have h9:∀Z1 Z2:Array ah,A.toArray++Z1++Z2=(A++(Z1++Z2).toList).toArray:=λZ1 Z2=>by apply Array.ext';simp
 rw[h9]at h
 refine OW.run λa ha=>⟨_,_,?_,grownCap w (i+k) c e,(dN.zeroCells (pack (ad.agg α) (ad.zc α)).cells k++dN.zeroCells (pack (ad.agg α) (ad.zc α)).cells (grownCap w (i+k) c e-(i+k))).toList,rfl,sL,grownCap_le_maxLen w _ _ _ (by unfold maxLen;omega),?_,rfl⟩
 ·simp only[execOp,resolve,invoke,builtin,Sem.run_bind,Sem.run_pure,Result.andThen_ok,List.map_toArray,List.map_cons,List.map_nil,ha _ _ hx,ha _ _ hy,h]
 ·simp only[oc,Array.size_append,size_zeroCells,iZ,<-iT];cR 1;omega
def Ow.split{o:cB}{k:Nat}{K:List Nat}{b f n cap:Nat}{xs:List α}(h:Ow e o k K w (.slice (aa ⟨b,f,ak⟩) n cap) xs){i:Nat}(hi:i<=n):
  ∃(J:List ah) (c1 c2:List (List ah)) (S:List ah),J.length=f∧w.heap[b]? =aa (.cells (J++c1.flatten++c2.flatten++S).toArray e (0,0))∧cp (ad.rd (In o K) w) c1 (xs.take i)∧cp (ad.rd (In o K) w) c2 (xs.drop i)∧
   c1.flatten.length=i*ad.sz α∧c2.flatten.length=(n-i)*ad.sz α∧(cap-n)*ad.sz α<=S.length∧o b=k∧n=xs.length∧n<=cap∧cap<=maxLen:=by
 rcases h with⟨h,_⟩|⟨g,f',yZ,aW,aK,h1,h2,h3,h4,h5,h6,h7,h8⟩
 ·cases h
 ·cases h1;have nM:=qG (h7.take i);have vB:=qG (h7.drop i);have c_:aW.toList.length=aW.size:=oc;have Uz:aW.toList=aW.toList.take f++(aK.take i).flatten++(aK.drop i).flatten++(aW.toList.drop f).drop (xs.length*ad.sz α):=by rw[ed (aW.toList.take f),<-List.flatten_append,pR,<-h8,ed,pR,pR]
  have hmul:xs.length*ad.sz α<=cap*ad.sz α:=mj _ h4;refine⟨aW.toList.take f,aK.take i,aK.drop i,(aW.toList.drop f).drop (xs.length*ad.sz α),by rw[oX];omega,?_,h7.take i,h7.drop i,?_,?_,?_,h2,rfl,h4,h5⟩
  ·rw[<-Uz];simpa using h3
  ·rw[nM,oX,Nat.min_eq_left hi]
  ·rw[vB,List.length_drop]
  ·rw[List.length_drop,List.length_drop,Nat.sub_mul];omega
def JR(b f q c z:Nat):Option Addr:=if c=q then aa ⟨b,f,ak⟩else aa ⟨b,f+q*z,ak⟩
def OW.tl2 [Rd]{u y:a_}{q b n c f:Nat}(hu:P.underlying t=aa (.slice e))(hT:bO P e α)(hx:ev L u=aa (.slice (aa ⟨b,f,ak⟩) n c))(hy:ev L y=aa (.int .i64 (q:Int)))(hq:q<=n)(hn:n<=c):
  OW P Q L ⟨d,.slice t u (aa y) ak ak,ty,pos,af,g⟩ w (λv' w'=>v'= .slice (JR b f q c (ad.sz α)) (n-q) (c-q)∧w'=w):=by
 refine OW.imp (OW.tL (l:=(q:Int)) (h:=(n:Int)) hu hT hx (.inr ⟨y,rfl,hy⟩) (.inl ⟨rfl,rfl⟩) (by omega) (by omega) (by omega)) ?_
 rintro v' w' ⟨rfl,rfl⟩
 refine⟨?_,rfl⟩
 by_cases UF:c=q<;>simp[JR,UF,jL]
def OW.mid [Rd]{u y1 y2:a_}{l h b n c f:Nat}(hu:P.underlying t=aa (.slice e))(hT:bO P e α)(hx:ev L u=aa (.slice (aa ⟨b,f,ak⟩) n c))(hy1:ev L y1=aa (.int .i64 (l:Int)))(tZ:ev L y2=aa (.int .i64 (h:Int)))(hq:l<h)(hn:h<=c):
  OW P Q L ⟨d,.slice t u (aa y1) (aa y2) ak,ty,pos,af,g⟩ w (λv' w'=>v'= .slice (aa ⟨b,f+l*ad.sz α,ak⟩) (h-l) (c-l)∧w'=w):=by
 refine OW.imp (OW.tL (l:=(l:Int)) (h:=(h:Int)) hu hT hx (.inr ⟨y1,rfl,hy1⟩) (.inr ⟨y2,rfl,tZ⟩) (by omega) (by omega) (by omega)) ?_
 rintro v' w' ⟨rfl,rfl⟩
 refine⟨?_,rfl⟩
 have c_:¬c=l:=by omega
 simp[c_,jL]
def OW.aCo [Rd]{x y:a_}{b i c m c2 f:Nat}{p2:Option Addr}{A X B src:List ah}(hu:P.underlying t=aa (.slice e))(hT:bO P e α)(hx:ev L x=aa (.slice (aa ⟨b,f,ak⟩) i c))(hy:ev L y=aa (.slice p2 m c2))
  (hg:w.heap[b]? =aa (.cells (A++X++B).toArray e (0,0))) (hA:A.length=f+i*ad.sz α) (hX:X.length=src.length) (hl:src.length=m*ad.sz α) (hs:0<m->∃a,p2=aa a∧kb w a src) (h1:∀u∈src,u.oneCell'=ab) (hc:i+m<=c):
  OW P Q L ⟨d,.call {callee:= .builtin .append,args:= #[x,y],argTypes:= #[t,t]},ty,pos,af,g⟩ w (λv' w'=>v'= .slice (aa ⟨b,f,ak⟩) (i+m) c∧w'=w.setRow b (A++src++B).toArray):=by
 obtain⟨ti,gw,ep,iy,mH⟩:=hT.nG
 rcases Nat.eq_zero_or_pos m with rfl|hm
 ·have yt:src=[]:=zn (by rw[hl,Nat.zero_mul]);have hXe:X=[]:=zn (by rw[hX,yt];rfl);subst yt hXe;have as9:w.setRow b (A++[]++B).toArray=w:=setRow_self w b _ e (0,0) hg;refine OW.run λa ha=>⟨_,w,?_,rfl,as9.symm⟩;have h2:(dN.append_ #[t,t] ty #[.slice (aa ⟨b,f,ak⟩) i c,.slice p2 0 c2]).run P w= .ok (.slice (aa ⟨b,f,ak⟩) i c) w:=by cases p2<;>simp[dN.append_,run_underlying hu,sizeOf,typeInfo,gw,dN.lenOf,dN.firstCells,loadCells,loadCellsFrom,storeCells,show i<=c by omega]
  simp[execOp,resolve,invoke,builtin,ha _ _ hx,ha _ _ hy,h2]
 ·obtain⟨a,rfl,um⟩:=hs hm;have h2:=aap (P:=P) w t ty e ti hu gw b f i c _ hg a m c2 src (by rw[hl,ep]) um h1 hc (by rw[ep,xy,cW,cW,hA];omega);have e1:(A++X++B).toArray.toList.take (f+i*ti.size)++src++(A++X++B).toArray.toList.drop (f+i*ti.size+src.length)=A++src++B:=by
   have h3:(A++X++B).toArray.toList=A++(X++B):=by simp
   rw[h3,ep,<-hA,B5,<-hX,Ju,List.drop_left]
  rw[e1]at h2;refine OW.run λa' ha=>⟨_,_,?_,rfl,rfl⟩;simp[execOp,resolve,invoke,builtin,ha _ _ hx,ha _ _ hy,h2]
def Vi{M N:List Nat}{o o':cB}{w w':ay}(h:bP M N o w.drew o' w'):bP M N o w o' w':=⟨h.os,h.tape,h.output,h.size,h.gY,h.new,h.rR⟩
def Ec{o:cB}{w:ay}{b:Nat}(cs:Array ah)(hb:o b=1000):bP [1000] [1000] o w o (w.setRow b cs):=(bP.row cs hb).weaken (by simp) (by simp)
def Ow.shape{o:cB}{k:Nat}{K:List Nat}{v:ah}{xs:List α}(h:Ow e o k K w v xs):∃p cap,v= .slice p xs.length cap∧xs.length<=cap∧cap<=maxLen:=by
 rcases h with⟨rfl,rfl⟩|⟨g,f,cap,aW,aK,rfl,_,_,h4,h5,_⟩
 ·exact⟨ak,0,rfl,bx _,Nat.zero_le _⟩
 ·exact⟨_,cap,rfl,h4,h5⟩
def Ow.aac{o:cB}{k:Nat}{K:List Nat}{v:ah}{xs:List α}(h:Ow e o k K w v xs)(hx:xs≠[]):∃b f cap,v= .slice (aa ⟨b,f,ak⟩) xs.length cap:=by
 rcases h with⟨rfl,rfl⟩|⟨g,f,cap,aW,aK,rfl,_⟩
 ·exact(hx rfl).elim
 ·exact⟨g,f,cap,rfl⟩
def Ow.block{o:cB}{k:Nat}{K:List Nat}{p:Option Addr}{n cap:Nat}{xs:List α}(h:Ow e o k K w (.slice p n cap) xs)(hx:xs≠[]):∃b f,p=aa ⟨b,f,ak⟩:=by obtain⟨b,f,c,h1⟩:=Ow.aac h hx;cases h1;exact⟨b,f,rfl⟩
def Ow.Sp [Flat α]{o:cB}{k:Nat}{K:List Nat}{b f cap:Nat}{xs:List α}{aK:List (List ah)}{J S:List ah}{S0:Nat->Prop}{w0:ay}(hg:w.heap[b]? =aa (.cells (J++aK.flatten++S).toArray e (0,0)))(hJ:J.length=f)(hb:o b=k)(h:cp (ad.rd S0 w0) aK xs)(h1:xs.length<=cap)(h2:cap<=maxLen)(hs:(cap-xs.length)*ad.sz α<=S.length):
  Ow e o k K w (.slice (aa ⟨b,f,ak⟩) xs.length cap) xs:=by
 have hl:=qG h
 refine .inr ⟨b,f,cap,_,aK,rfl,hb,hg,h1,h2,?_,h.mono λ_ _ hh=>Flat.any hh,?_⟩
 ·have e1:xs.length*ad.sz α+(cap-xs.length)*ad.sz α=cap*ad.sz α:=by rw[<-iT,show xs.length+(cap-xs.length)=cap by omega]
  simp only[xy,cW,hl,hJ];omega
 ·show((J++aK.flatten++S).drop f).take _=_;rw[ed,<-hJ,List.drop_left,<-hl,B5]
def VK(l:List ah)(a b:Nat)(h:a+b<=l.length):∃Y X S,l=Y++X++S∧Y.length=a∧X.length=b∧S.length=l.length-(a+b):=⟨l.take a,(l.drop a).take b,l.drop (a+b),by rw[<-List.drop_drop,ed,pR,pR],by simp;omega,by simp;omega,by simp⟩
section
variable {D:Nat->Type} [∀n,ad (D n)]
variable {T:bc D}
def H'{c:aA D}{γ:Gh D}{w w':ay}{rr:HH D c.outs}{v:ah}{n e q k:Nat}{K K' M N:List Nat}{o':cB}{r:List (D n)}[Flat (D n)]
  (h1:g9 T (dH T c.outs rr) aa id 3000 c.jU=aa [.one (.own q)]) (h2:jF T (dH T c.outs rr) aa id 3000 c.b8=aa [(q,aa (.sl n e r K 3000))]) (h3:stay c=[]) (hq:1000<=q) (hk:1000<=k)
  (hM:∀x∈M,1000<=x) (hN:∀x∈N,1000<=x) (ev:bP M N γ.o w o' w') (kn:Ow e o' k K' w' v r) (hK:ek K):akq T c γ w rr v w':=by
 obtain⟨iI,ho⟩:∃iI:cB,∀b,iI b=if 1000<=o' b then q else o' b:=⟨λb=>if 1000<=o' b then q else o' b,λ_=>rfl⟩
 have AP:Ow e iI q K w' v r:=by
  rcases kn with h|⟨g,f,cap,aW,aK,a1,a2,a3,a4,a5,a6,a7,a8⟩
  ·exact .inl h
  ·exact .inr ⟨g,f,cap,aW,aK,a1,by rw[ho,a2,aH hk],a3,a4,a5,a6,a7.mono λ_ _ hh=>Flat.any hh,a8⟩
 refine⟨λ_=>True,⟨iI,λ_=>v,λ_=>⟨.sl n,r⟩⟩,_,_,h1,h2,⟨trivial,rfl,AP.one⟩,λp x hx=>?_,(λp hp=>by rw[h3]at hp;cases hp),ev.os,ev.tape,ev.output,ev.size,λb hb hc=>?_,λb hb hc=>?_⟩
 ·have hb:aF [(q,aa (AO.sl n e r K 3000))] p=aa (aa x):=by
   unfold dw at hx;split at hx
   ·rename_i y hy;rw[hy];cases hx;rfl
   ·cases hx
  obtain⟨rfl,hy⟩:=nF hb;cases hy;exact⟨AP,hK,.inr ⟨trivial,rfl⟩⟩
 ·have bH:=ev.gY b hb;refine⟨?_,ev.rR b hb λhm=>?_⟩
  ·show iI b=γ.o b;rw[ho,bH,aL (by omega)]
  ·have:=hM _ hm;omega
 ·have hc:iI b=0∨iI b=3:=hc;rw[ho]at hc;by_cases aV:b<w.heap.size
  ·refine⟨aV,?_⟩;show γ.o b=iI b;rw[ho];have bH:=ev.gY b aV;split
   ·rename_i h9;rw[aH h9]at hc;omega
   ·exact bH.symm
  ·have:=hN _ (ev.new b (by omega) hb);rw[aH this]at hc;omega
