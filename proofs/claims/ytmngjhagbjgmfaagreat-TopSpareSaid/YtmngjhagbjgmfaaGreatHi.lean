import Derived.Test.YtmngjhagbjgmfaaGreatHc
import Derived.Lib.AppendZerosOnto
import Derived.Lib.Overlaps
import Derived.Laws.Externs
set_option linter.all false
open Array renaming getD->uI,getElem?_setIfInBounds->Fy,length_toList->nZ
open Bool renaming and_eq_true->bq,false->ai,true->ab
open Decidable renaming decide->ak
open Go renaming Builtin->dL,Oper->aS,Operand->aZ,Program->cP,TypeId->aX,Value->ah,World->ax
open List renaming all_eq_true->dR,append_assoc->d_,drop_length_add_append->Jq,eq_nil_of_length_eq_zero->zj,filter_eq_self->Fw,getElem?_eq_some_iff->gH,length_append->cU,length_take->oU,mem_of_getElem?->oT,mem_range->er,range->bV,replicate->cR,size_toArray->xu,take_append_drop->pO,take_left->B0
open Nat renaming add_mul->iQ,blt->dx,eq_of_beq_eq_true->bA,le_of_ble_eq_true->dm,le_refl->bw,mul_le_mul_right->mg
open Option renaming some->aa
namespace Go.Proofs.YtmngjhagbjgmfaaGreat
open Go Go.RowKit Dp
namespace Rx
def aeI(l:List aS)(L:List (Nat×ah))(ds:List Nat)(vs:List ah)(i:Nat):List (Nat×ah):=(gf l i).filterMap (λj=>match ds[j]?,vs[j]? with|some d,aa v=>aa (d,v)|_,_=>none)++L.filter (λp=> !ds.contains p.1)
def LO:List Nat->Bool
 |[]=>ab
 |x::r=> !r.contains x&&LO r
def aeP(n:Nat)(l:List aS)(k:Nat)(ds:List Nat):Bool:=
 Nat.beq ds.length k&&dx k l.length&&LO ds&&ds.all (λd=>dx d n)&&
 (bV k).all (λi=>(match l[i]? with|some o=>(match o.dst with|some d=>(match ds[i]? with|some e=>Nat.beq d e|none=>ai)|none=>ai)&&o.guard.isNone|none=>ai))&&
 (bV (k+1)).all (λi=>(gf l i).all λj=>dx j i)&&
 (bV k).all (λi=>(bV (k+1)).any λj=>dx i j&&(gf l j).contains i)&&
 (bV l.length).all (λq=>Nat.ble q k||((gf l q).contains (q-1)&&(gf l q).all λj=>dx j q))
section
variable {P:cP} {n:Nat} {Q:Exit->Act->ax->Prop} {L:List (Nat×ah)} {l:List aS}
def Jb [Rd](P:cP)(Q:Exit->Act->ax->Prop)(w:ax)(E:Nat->List (Nat×ah)):Nat->List aS->List ah->Prop
 |i,o::l,v::vs=>OW P Q (E i) o w (λv' w'=>v'=v∧w'=w)∧Jb P Q w E (i+1) l vs
 |_,_,_=>True
def Jb.get [Rd]{w:ax}{E:Nat->List (Nat×ah)}:∀(j:Nat) {i:Nat} {l:List aS} {vs:List ah} {o:aS} {v:ah},Jb P Q w E i l vs->l[j]? =aa o->vs[j]? =aa v->OW P Q (E (i+j)) o w (λv' w'=>v'=v∧w'=w):=by
 intro j;induction j with
 |zero=>
  intro i l vs o v h h1 h2;cases l with
  |nil=>simp at h1
  |cons o' l=>
   cases vs with
   |nil=>simp at h2
   |cons v' vs=>simp at h1 h2;subst h1 h2;exact h.1
 |succ j ih=>
  intro i l vs o v h h1 h2;cases l with
  |nil=>simp at h1
  |cons o' l=>
   cases vs with
   |nil=>simp at h2
   |cons v' vs=>have:=ih h.2 (by simpa using h1) (by simpa using h2);rw[show i+(j+1)=i+1+j by omega];exact this
def abm:∀{ds:List Nat},LO ds=ab->∀{i j d:Nat},ds[i]? =aa d->ds[j]? =aa d->i=j
 |[],_,i,j,d,h1,_=>by simp at h1
 |x::r,h,i,j,d,h1,h2=>by
  simp only[LO,bq]at h;have hx:x∉r:=by simpa using h.1
  match i,j with
  |0,0=>rfl
  |0,j+1=>simp at h1 h2;subst h1;exact(hx (oT h2)).elim
  |i+1,0=>simp at h1 h2;subst h2;exact(hx (oT h1)).elim
  |i+1,j+1=>simp at h1 h2;rw[abm h.2 h1 h2]
def arh{ds:List Nat}{vs:List ah}:∀{t:Nat} {v:ah},Dp.look (ds.zip vs) t=aa v->∃i:Nat,ds[i]? =aa t∧vs[i]? =aa v:=by
 induction ds generalizing vs with
 |nil=>intro t v h;simp[Dp.look]at h
 |cons d ds ih=>
  intro t v h;cases vs with
  |nil=>simp[Dp.look]at h
  |cons u vs=>
   rw[List.zip_cons_cons]at h;by_cases hd:d=t
   ·subst hd;rw[iH]at h;cases h;exact⟨0,rfl,rfl⟩
   ·rw[gW _ _ hd]at h;obtain⟨i,h1,h2⟩:=ih h;exact⟨i+1,by simpa using h1,by simpa using h2⟩
def SJ{ds:List Nat}{vs:List ah}:∀{js:List Nat} {t:Nat} {v:ah},Dp.look (js.filterMap (λj=>match ds[j]?,vs[j]? with|some d,aa v=>aa (d,v)|_,_=>none)) t=aa v->∃j∈js,ds[j]? =aa t∧vs[j]? =aa v
 |[],t,v,h=>by simp[Dp.look]at h
 |j::js,t,v,h=>by
  rw[List.filterMap_cons]at h;split at h
  ·obtain⟨i,h1,h2⟩:=SJ h;exact⟨i,by simp[h1],h2⟩
  ·rename_i b hb;split at hb
   ·rename_i d u h1 h2;cases hb;by_cases hd:d=t
    ·subst hd;rw[iH]at h;cases h;exact⟨j,by simp,h1,h2⟩
    ·rw[gW _ _ hd]at h;obtain⟨i,h3,h4⟩:=SJ h;exact⟨i,by simp[h3],h4⟩
   ·cases hb
structure DSt [I:Rd](n:Nat)(L:List (Nat×ah))(l:List aS)(k:Nat)(ds:List Nat)(vs:List ah)(cw:Array Bool)(a:Act):Prop where
 sz:cw.size=l.length
 size:a.tmps.size=n
 defers:a.defers=I.ds
 new:∀(i d:Nat) (v:ah),cw.getD i ai=ab->ds[i]? =aa d->vs[i]? =aa v->a.tmps[d]? =aa v
 gV:∀(t:Nat) (v:ah),Dp.look L t=aa v->t∉ds->a.tmps[t]? =aa v
 late:∀i,k<=i->cw.getD i ai=ai
 closed:∀i,cw.getD i ai=ab->∀j∈gf l i,cw.getD j ai=ab
def CW.draw{id:Nat}{w:ax}(hm:P.follows .mixedOrders=ab)(k:Nat)(ds:List Nat)(vs:List ah)(jp:aeP n l k ds=ab)(Tt:vs.length=k)
  (hp:Jb P Q w.drew (aeI l L ds vs) 0 (l.take k) vs) (ht:WL P n l.toArray Q (l.drop k) (ds.zip vs++L.filter (λp=> !ds.contains p.1)) w.drew):
  CW P n (.region id l.toArray ab) Q L w:=by
 intro a ha
 refine wpIn_region_any hm ?_
 simp only[aeP,bq]at jp
 obtain⟨⟨⟨⟨⟨⟨⟨c1,c2⟩,c3⟩,c4⟩,c5⟩,c6⟩,c7⟩,c8⟩:=jp
 have vE:ds.length=k:=bA c1
 have sG:k<l.length:=dm c2
 have xc:∀i,i<=k->∀j∈gf l i,j<i:=λi hi j hj=>by have h1:=dR.1 c6 i (er.2 (by omega));exact dm (dR.1 h1 j hj)
 have TK:∀i,i<k->∃j,j<=k∧i<j∧i∈gf l j:=λi hi=>by have h1:=dR.1 c7 i (er.2 hi);obtain⟨j,hj,h2⟩:=List.any_eq_true.1 h1;simp only[bq]at h2;have l7:=er.1 hj;refine⟨j,by omega,dm h2.1,by simpa using h2.2⟩
 have DW:∀q,k<q->q<l.length->(q-1)∈gf l q∧∀j∈gf l q,j<q:=λq hq AI=>by
  have h1:=dR.1 c8 q (er.2 AI);simp only[Bool.or_eq_true,bq]at h1;rcases h1 with h1|h1
  ·have:=dm h1;omega
  ·exact⟨by simpa using h1.1,λj hj=>by exact dm (dR.1 h1.2 j hj)⟩
 have TT:∀i,i<k->∃d o v,l[i]? =aa o∧o.dst=aa d∧o.guard=none∧ds[i]? =aa d∧vs[i]? =aa v∧d<n:=λi hi=>by
  have h1:=dR.1 c5 i (er.2 hi);split at h1
  ·rename_i o ho;simp only[bq]at h1;obtain⟨h1,hg⟩:=h1;split at h1
   ·rename_i d hd;split at h1
    ·rename_i e he;have hde:d=e:=bA h1;subst hde;have hvi:i<vs.length:=by omega
     have hdn:=dR.1 c4 d (oT he);exact⟨d,o,vs[i],ho,hd,by simpa using hg,he,List.getElem?_eq_getElem hvi,dm hdn⟩
    ·cases h1
   ·cases h1
  ·cases h1
 have gD:∀{cw:Array Bool},(∀i,cw.getD i ai=ab->∀j∈gf l i,cw.getD j ai=ab)->(∀j∈gf l k,cw.getD j ai=ab)->∀i,i<k->cw.getD i ai=ab:=by
  intro cw cY vw i;have key:∀m i,k-i<=m->i<k->cw.getD i ai=ab:=by
   intro m;induction m with
   |zero=>intro i h1 h2;omega
   |succ m ih=>
    intro i h1 h2;obtain⟨j,h3,h4,h5⟩:=TK i h2;by_cases hj:j=k
    ·subst hj;exact vw i h5
    ·exact cY j (ih j (by omega) (by omega)) i h5
  exact key _ i (bw _)
 have main:∀(jF:Nat) (cw:Array Bool) (a:Act),l.length<=jF+((bV l.length).filter λi=>cw.getD i ai).length->DSt n L l k ds vs cw a->wpAnyIn Rd.plain.F 0 P .any l.toArray Q jF cw a w.drew:=by
  intro jF;induction jF with
  |zero=>
   intro cw a hf hJ;exfalso;have Mz:((bV l.length).filter λi=>cw.getD i ai).length<(bV l.length).length:=by have h9:=filter_lt (p:=λ_=>ab) (q:=λi=>cw.getD i ai) (i:=k) (λ_ _=>rfl) rfl (hJ.late k (bw _)) (l:=bV l.length) (er.2 sG);have h8:(bV l.length).filter (λ_=>ab)=bV l.length:=Fw.2 λ_ _=>rfl;rw[h8]at h9;exact h9
   rw[List.length_range]at Mz;omega
  |succ jF ih=>
   intro cw a hf hJ;refine⟨λhr=>?_,λi hi=>?_⟩
   ·exfalso;have HI:∀i,i<=k->cw.getD i ai=ab:=by
     intro i;induction i using Nat.strongRecOn with
     |_ i G4=>
      intro eL;cases sF:cw.getD i ai with
      |true=>rfl
      |false=>have:i∈Region.ready .any l.toArray cw:=(xR hJ.sz).2 ⟨by omega,sF,λj hj=>G4 j (xc i eL j hj) (by have:=xc i eL j hj;omega)⟩;rw[hr]at this;cases this
    have:=HI k (bw _);rw[hJ.late k (bw _)]at this;cases this
   ·obtain⟨h1,h2,h3⟩:=(xR hJ.sz).1 hi;by_cases eL:i<k
    ·obtain⟨d,o,v,e1,e2,e3,e4,e5,e6⟩:=TT i eL;have Ue:l.toArray[i]? =aa o:=by simpa using e1
     have atl:=Jb.get i (o:=o) (v:=v) hp (by rw[List.getElem?_take,aG eL];exact e1) e5;unfold wpOpIn;rw[Ue];simp only;rw[aG (by simp[Region.wanted,e3])];refine(atl a _ (λx u hx=>?_) ?_)
     ·rw[Nat.zero_add]at hx;cases x with
      |tmp t=>
       have hx:Dp.look (aeI l L ds vs i) t=aa u:=hx;have:a.tmps[t]? =aa u:=by
        rcases abP hx with hx|⟨_,hx⟩
        ·obtain⟨j,hj,h4,h5⟩:=SJ hx;exact hJ.new j t u (h3 j hj) h4 h5
        ·obtain⟨h4,h5⟩:=abN (p:=λx=> !ds.contains x) hx;exact hJ.gV t u h4 (by simpa using h5)
       simp[Act.eval,this]
      |const u=>simpa[ev,Act.eval]using hx
      |global g=>simpa[ev,Act.eval]using hx
      |func f=>simpa[ev,Act.eval]using hx
     ·rintro v' w' ⟨rfl,rfl⟩;rw[e2];have mY:i<cw.size:=by rw[hJ.sz];exact h1
      refine ih _ _ ?_ ⟨by simp[hJ.sz],by simp[Act.put,hJ.size],by simp[Act.put,hJ.defers],?_,?_,?_,?_⟩
      ·have aU:=filter_lt (p:=λj=>(cw.setIfInBounds i ab).getD j ai) (q:=λj=>cw.getD j ai) (i:=i) (λx hx=>by
        rw[Ai mY];by_cases G':x=i
        ·simp[G']
        ·rw[aK G'];exact hx) (by rw[Ai mY];simp) h2 (l:=bV l.length) (er.2 h1)
       omega
      ·intro j e u hj h4 h5;rw[Ai mY]at hj;by_cases fG:j=i
       ·subst fG;rw[e4]at h4;cases h4;rw[e5]at h5;cases h5;simp[Act.put,Fy,hJ.size,e6]
       ·rw[aK fG]at hj;have bQ:d≠e:=λhe=>fG (abm c3 (he▸h4) e4);simp[Act.put,Fy,bQ];exact hJ.new j e u hj h4 h5
      ·intro t u h4 h5;have bQ:d≠t:=λhe=>h5 (he▸oT e4);simp[Act.put,Fy,bQ];exact hJ.gV t u h4 h5
      ·intro j hj;rw[Ai mY,aK (by omega)];exact hJ.late j hj
      ·intro j hj q hq;rw[Ai mY]at hj⊢;by_cases hqi:q=i
       ·simp[hqi]
       ·rw[aK hqi];by_cases fG:j=i
        ·subst fG;exact h3 q hq
        ·rw[aK fG]at hj;exact hJ.closed j hj q hq
    ·have HC:i=k:=by
      by_cases bQ:i=k
      ·exact bQ
      ·exfalso;have:=h3 (i-1) (DW i (by omega) h1).1;rw[hJ.late (i-1) (by omega)]at this;cases this
     subst HC;have HI:=gD hJ.closed h3;have Mr:=ht a ⟨hJ.size,hJ.defers,λt v hv=>by
      rcases abP hv with hv|⟨_,hv⟩
      ·obtain⟨j,h4,h5⟩:=arh hv;have l7:j<i:=by have:=(gH.1 h4).1;omega
       exact hJ.new j t v (HI j l7) h4 h5
      ·obtain⟨h4,h5⟩:=abN (p:=λx=> !ds.contains x) hv;exact hJ.gV t v h4 (by simpa using h5),λ_ _ h=>by cases h⟩
     have hw:=VX (P:=P) (Q:=Q) DW (xc i (bw _)) (jF+1) i cw a w.drew hJ.sz (bw _) (by omega) (by
      have hle:((bV l.length).filter λj=>cw.getD j ai).length<=i:=by
       have hs:((bV l.length).filter λj=>cw.getD j ai)=(bV l.length).filter λj=>decide (j<i):=by
        refine List.filter_congr λj hj=>?_;by_cases fG:j<i
        ·rw[HI j fG];simp[fG]
        ·rw[hJ.late j (by omega)];simp[fG]
       rw[hs];have:(bV l.length).filter (λj=>decide (j<i))=bV i:=by
        have h5:bV l.length=bV i++(bV (l.length-i)).map (i+·):=by rw[<-List.range_add];congr 1;omega
        rw[h5,List.filter_append];have h6:(bV i).filter (λj=>decide (j<i))=bV i:=Fw.2 λj hj=>by simpa using hj
        have h7:((bV (l.length-i)).map (i+·)).filter (λj=>decide (j<i))=[]:=by rw[List.filter_eq_nil_iff];intro j hj;obtain⟨q,_,rfl⟩:=List.mem_map.1 hj;simp
        rw[h6,h7,List.append_nil]
       rw[this,List.length_range];exact bw _
      omega) (λj hj=>by
       by_cases fG:j<i
       ·rw[HI j fG];simp[fG]
       ·rw[hJ.late j (by omega)];simp[fG]) Mr
     exact hw.2 i hi
 refine main _ _ a ?_ ⟨by simp,ha.size,ha.defers,λi d v hi=>?_,λt v h _=>ha.get t v h,λi _=>by simp[uI],λi hi=>?_⟩
 ·simp
 ·simp[uI]at hi
 ·simp[uI]at hi
end
def G3{α:Type}(xs:List α)(i:Int)(ys:List α):Option (List α):=match ak (0<=i)&&ak (i<=len xs)&& !ys.isEmpty,bF xs ys with
 |true,aa _=>aa (xs.take i.toNat++ys++xs.drop i.toNat)
 |_,_=>none
def Ij{α:Type}(xs:List α)(i j:Int):Option (List α):=match ak (0<=i)&&ak (i<=j)&&ak (j<=len xs)with
 |true=>aa (xs.take i.toNat++xs.drop j.toNat)
 |false=>none
def ar9{α:Type}{xs ys r:List α}{i:Int}(h:G3 xs i ys=aa r):0<=i∧i<=(xs.length:Int)∧ys≠[]∧bF xs ys=aa (xs++ys)∧xs.length+ys.length<=1073741824∧r=xs.take i.toNat++ys++xs.drop i.toNat:=by
 unfold G3 at h;split at h
 ·rename_i h1 h2;simp only[bq,akA]at h1;cases h;have h3:=h2;unfold bF at h3;split at h3
  ·rename_i h4;cases h3;exact⟨h1.1.1,by have:=h1.1.2;unfold len at this;exact this,by intro he;subst he;simp at h1,h2,h4,rfl⟩
  ·cases h3
 ·cases h
def axL{α:Type}{xs r:List α}{i j:Int}(h:Ij xs i j=aa r):0<=i∧i<=j∧j<=(xs.length:Int)∧r=xs.take i.toNat++xs.drop j.toNat:=by
 unfold Ij at h;split at h
 ·rename_i h1;simp only[bq,akA]at h1;cases h;exact⟨h1.1.1,h1.1.2,by have:=h1.2;unfold len at this;exact this,rfl⟩
 ·cases h
section
variable {α:Type} [ad α]
variable {P:cP} {Q:Exit->Act->ax->Prop} {L:List (Nat×ah)} {w:ax} {d:Option Tmp} {ty:aX} {pos:String} {af:Array Edge} {g:Option (Nat×Bool)} {t e:aX}
def OW.tH [Rd]{u:aZ}{lo hi:Option aZ}{l h:Int}{p:Option Addr}{n c:Nat}(hu:P.underlying t=aa (.slice e))(hT:bN P e α)(hx:ev L u=aa (.slice p n c))(AU:zf L lo 0 l)(A6:zf L hi n h)(b1:0<=l)(b2:l<=h)(b3:h<=(c:Int)):
  OW P Q L ⟨d,.slice t u lo hi none,ty,pos,af,g⟩ w (λv' w'=>v'= .slice (if c=l.toNat then p else p.map (·.add (l.toNat*ad.sz α))) (h.toNat-l.toNat) (c-l.toNat)∧w'=w):=by
 refine OW.run λa ha=>⟨_,w,?_,rfl,rfl⟩
 have A5:(h.toNat:Int)=h:=by omega
 have rC:(l.toNat:Int)=l:=by omega
 rcases AU with⟨rfl,rfl⟩|⟨yl,rfl,hl⟩<;>rcases A6 with⟨rfl,rfl⟩|⟨yh,rfl,hh⟩
 ·simp[execOp,ha _ _ hx,Instr.sliceAt,run_underlying hu,Instr.slice,Instr.sliceBounds,hT.sizeOf]
 ·have b0:0<=h:=by omega
  simp[execOp,ha _ _ hx,ha _ _ hh,Instr.sliceAt,run_underlying hu,Instr.slice,Instr.sliceBounds,Instr.sliceBound,asIntOf,hT.sizeOf,b0,b3]
 ·simp[execOp,ha _ _ hx,ha _ _ hl,Instr.sliceAt,run_underlying hu,Instr.slice,Instr.sliceBounds,Instr.sliceBound,asIntOf,hT.sizeOf,b1,b2]
 ·have b0:0<=h:=by omega
  simp[execOp,ha _ _ hx,ha _ _ hl,ha _ _ hh,Instr.sliceAt,run_underlying hu,Instr.slice,Instr.sliceBounds,Instr.sliceBound,asIntOf,hT.sizeOf,b1,b0,b3,A5,b2]
def OW.slice3 [Rd]{u y1 y2 y3:aZ}{l h m:Int}{p:Option Addr}{n c:Nat}(hu:P.underlying t=aa (.slice e))(hT:bN P e α)(hx:ev L u=aa (.slice p n c))(h1:ev L y1=aa (.int .i64 l))(h2:ev L y2=aa (.int .i64 h))(h3:ev L y3=aa (.int .i64 m))(b1:0<=l)(b2:l<=h)(b3:h<=m)(b4:m<=(c:Int)):
  OW P Q L ⟨d,.slice t u (aa y1) (aa y2) (aa y3),ty,pos,af,g⟩ w (λv' w'=>w'=w∧True):=by
 refine OW.run λa ha=>⟨.slice (if m.toNat=l.toNat then p else p.map (·.add (l.toNat*ad.sz α))) (h.toNat-l.toNat) (m.toNat-l.toNat),w,?_,rfl,trivial⟩
 have A5:(h.toNat:Int)=h:=by omega
 have rC:(l.toNat:Int)=l:=by omega
 have TZ:(m.toNat:Int)=m:=by omega
 have b0:0<=h:=by omega
 have b5:0<=m:=by omega
 simp[execOp,ha _ _ hx,ha _ _ h1,ha _ _ h2,ha _ _ h3,Instr.sliceAt,run_underlying hu,Instr.slice,Instr.sliceBounds,Instr.sliceBound,asIntOf,hT.sizeOf,b1,b0,b5,b3,b4,A5,TZ,b2]
def OW.cap [Rd]{o:aZ}{p:Option Addr}{n c:Nat}(hu:P.underlying t=aa (.slice e))(hx:ev L o=aa (.slice p n c))(hc:c<=maxLen):
  OW P Q L ⟨d,.call {callee:= .builtin .cap,args:= #[o],argTypes:= #[t]},ty,pos,af,g⟩ w (λv' w'=>v'= .int .i64 c∧w'=w):=by
 refine OW.run λa ha=>⟨_,w,?_,rfl,rfl⟩
 simp[execOp,resolve,invoke,builtin,ha _ _ hx,dL.cap_,run_underlying hu,goInt]
def OW.NT [Rd]{x y:aZ}{b off dl dc sl sc:Nat}{a:Addr}{A X B src:List ah}{T:aX}(hu:P.underlying t=aa (.slice e))(hT:bN P e α)(hx:ev L x=aa (.slice (aa ⟨b,off,none⟩) dl dc))(hy:ev L y=aa (.slice (aa a) sl sc))
  (hg:w.heap[b]? =aa (.cells (A++X++B).toArray T (0,0))) (hA:A.length=off) (hX:X.length=src.length) (hl:src.length=min sl dl*ad.sz α) (hs:∀(j:Nat) (u:ah),src[j]? =aa u->w.cell? (a.add j)=aa u) (h1:∀u∈src,u.oneCell'=ab):
  OW P Q L ⟨d,.call {callee:= .builtin .copy,args:= #[x,y],argTypes:= #[t,t]},ty,pos,af,g⟩ w (λv' w'=>w'=w.setRow b (A++src++B).toArray):=by
 obtain⟨i,gp,ek,iu,mE⟩:=hT.nD
 have hf:=run_firstCells_some (P:=P) w i.size (min sl dl) a sl sc src (by rw[hl,ek]) hs
 have bU:=run_storeCells_at P b off T src 0 _ w hg (by simp;omega) h1
 simp only[Nat.add_zero]at bU
 have e1:(A++X++B).toArray.toList.take off++src++(A++X++B).toArray.toList.drop (off+src.length)=A++src++B:=by
  have h2:(A++X++B).toArray.toList=A++(X++B):=by simp
  rw[h2,<-hA,B0,<-hX,Jq,List.drop_left]
 rw[e1]at bU
 refine OW.run λa' ha=>⟨goInt (min sl dl),w.setRow b (A++src++B).toArray,?_,rfl⟩
 have yv:Nat.min sl dl=min sl dl:=rfl
 simp[execOp,resolve,invoke,builtin,ha _ _ hx,ha _ _ hy,dL.copy_,run_underlying hu,sizeOf,typeInfo,gp,dL.lenOf,yv,hf,bU]
 congr 1
 omega
def OW.ax_ [Rd]{x:aZ}{b off k c:Nat}{A X B:List ah}{T:aX}(hu:P.underlying t=aa (.slice e))(hT:bN P e α)(hx:ev L x=aa (.slice (aa ⟨b,off,none⟩) (k+1) c))
  (hg:w.heap[b]? =aa (.cells (A++X++B).toArray T (0,0))) (hA:A.length=off) (hX:X.length=(k+1)*ad.sz α):
  OW P Q L ⟨d,.call {callee:= .builtin .clear,args:= #[x],argTypes:= #[t]},ty,pos,af,g⟩ w (λv' w'=>∃Z:List ah,Z.length=X.length∧w'=w.setRow b (A++Z++B).toArray):=by
 have hz:(pack (ad.agg α) (ad.zc α)).cells.toList=ad.zc α:=wI (α:=α) (ad.fY (λ_=>True) w)
 have gP:(ad.zc α).length=ad.sz α:=ad.len (ad.fY (α:=α) (λ_=>True) w)
 have iW:(pack (ad.agg α) (ad.zc α)).cells.size=ad.sz α:=by rw[<-nZ,hz,gP]
 have tU:(dL.zeroCells (pack (ad.agg α) (ad.zc α)).cells (k+1)).toList=(cR (k+1) (ad.zc α)).flatten:=by have:=afa (pack (ad.agg α) (ad.zc α)).cells (by rw[iW];exact ad.pos) (k+1);rw[hz]at this;rw[<-this];simp[dL.zeroCells]
 have lY:(cR (k+1) (ad.zc α)).flatten.length=(k+1)*ad.sz α:=by simp[gP]
 have mA:∀u∈(cR (k+1) (ad.zc α)).flatten,u.oneCell'=ab:=by intro u hu;obtain⟨l,hl,Hd⟩:=List.mem_flatten.1 hu;rw[List.mem_replicate]at hl;exact ad.one (ad.fY (α:=α) (λ_=>True) w) u (hl.2▸Hd)
 have bU:=run_storeCells_at P b off T (cR (k+1) (ad.zc α)).flatten 0 _ w hg (by simp only[lY,xu,cU];omega) mA
 simp only[Nat.add_zero]at bU
 have e1:(A++X++B).toArray.toList.take off++(cR (k+1) (ad.zc α)).flatten++(A++X++B).toArray.toList.drop (off+(cR (k+1) (ad.zc α)).flatten.length)=A++(cR (k+1) (ad.zc α)).flatten++B:=by
  have h2:(A++X++B).toArray.toList=A++(X++B):=by simp
  rw[h2,<-hA,B0,lY,<-hX,Jq,List.drop_left]
 rw[e1]at bU
 refine OW.run λa ha=>⟨.tuple #[],_,?_,_,by rw[lY,hX],rfl⟩
 have e0:(dL.clear_ #[t] ty #[ah.slice (aa ⟨b,off,none⟩) (k+1) c]).run P w= .ok (.tuple #[]) (w.setRow b (A++(cR (k+1) (ad.zc α)).flatten++B).toArray):=by simp[dL.clear_,run_underlying hu,hT.zero,tU,bU]
 simp[execOp,resolve,invoke,builtin,ha _ _ hx,e0]
def OW.overlaps [Rd]{x y:aZ}{f:Nat}{fn:Func}{a b la ca lb cb oa ob:Nat}{ca' V2:Array ah}{ta tb tR:aX}{ats:Array aX}(hu:P.underlying t=aa (.slice e))(hT:bN P e α)(hf:P.funcs[f]? =aa fn)(hn:(fn.name== "runtime.NumGoroutine")=ai)(hb:fn.body.isNone=ab)(t_:Extern.findNext fn=none)(he:Extern.find fn=aa (Extern.SlicesOverlaps.overlaps #[t,t] #[tR]))
  (hx:ev L x=aa (.slice (aa ⟨a,oa,none⟩) la ca)) (hy:ev L y=aa (.slice (aa ⟨b,ob,none⟩) lb cb)) (bQ:a≠b) (HF:w.heap[a]? =aa (.cells ca' ta (0,0))) (MP:w.heap[b]? =aa (.cells V2 tb (0,0))) (hs:V2.size≠0):
  OW P Q L ⟨d,.call {callee:= .value (.func f),args:= #[x,y],argTypes:=ats},ty,pos,af,g⟩ w (λv' w'=>v'= .bool ai∧w'=w):=by
 have h1:=run_callFunc_extern hf hn hb t_ he #[.slice (aa ⟨a,oa,none⟩) la ca,.slice (aa ⟨b,ob,none⟩) lb cb] w
 rw[Lib.run_overlaps_apart w t tR e hu (ad.sz α) (λw=>hT.sizeOf w) ⟨a,oa,none⟩ ⟨b,ob,none⟩ la ca lb cb bQ ta tb ca'.size V2.size (by simp[ax.shape?,HF]) (by simp[ax.shape?,MP]) hs (by simp[ax.frozen?,HF]) (by simp[ax.frozen?,HF])]at h1
 refine OW.run λa' ha=>⟨_,_,?_,rfl,rfl⟩
 have h2:=ha _ _ hx
 have h3:=ha _ _ hy
 simp[Act.eval]at h2 h3
 simp[execOp,resolve,invoke,Deferred.ofValue,Act.eval]
 rw[h2,h3,h1]
 rfl
def OW.pvE [Rd]{op:Op}{v v':ah}(h:Dp.pv L op=aa v)(hv:v=v'):OW P Q L ⟨d,op,ty,pos,af,g⟩ w (λu w'=>u=v'∧w'=w):=hv▸OW.pv h
def WL.pe [I:Rd]{n d:Nat}{ops:Array aS}{rest:List aS}{op:Op}{v v':ah}(h:Dp.pv L op=aa v)(hv:v=v')(hd:I.eX n d=ab)(k:WL P n ops Q rest ((d,v')::L) w):WL P n ops Q (⟨aa d,op,ty,pos,af,none⟩::rest) L w:=by subst hv;exact WL.v h hd k
def OW.pre [Rd]{u y:aZ}{q:Nat}{p:Option Addr}{n c:Nat}(hu:P.underlying t=aa (.slice e))(hT:bN P e α)(hx:ev L u=aa (.slice p n c))(hy:ev L y=aa (.int .i64 (q:Int)))(hq:q<=c):
  OW P Q L ⟨d,.slice t u none (aa y) none,ty,pos,af,g⟩ w (λv' w'=>v'= .slice p q c∧w'=w):=by
 refine OW.imp (OW.tH (l:=0) (h:=(q:Int)) hu hT hx (.inl ⟨rfl,rfl⟩) (.inr ⟨y,rfl,hy⟩) (by omega) (by omega) (by omega)) ?_
 rintro v' w' ⟨rfl,rfl⟩
 refine⟨?_,rfl⟩
 have h0:p.map (λa:Addr=>a.add 0)=p:=by cases p<;>simp[Addr.add]
 simp[h0]
def OW.tl [Rd]{u y:aZ}{q b n c f p:Nat}(hu:P.underlying t=aa (.slice e))(hT:bN P e α)(hx:ev L u=aa (.slice (aa ⟨b,f,none⟩) n c))(hy:ev L y=aa (.int .i64 (q:Int)))(hq:q<=n)(hn:n<=c)(hc:q<c)(hp:f+q*ad.sz α=p):
  OW P Q L ⟨d,.slice t u (aa y) none none,ty,pos,af,g⟩ w (λv' w'=>v'= .slice (aa ⟨b,p,none⟩) (n-q) (c-q)∧w'=w):=by
 refine OW.imp (OW.tH (l:=(q:Int)) (h:=(n:Int)) hu hT hx (.inr ⟨y,rfl,hy⟩) (.inl ⟨rfl,rfl⟩) (by omega) (by omega) (by omega)) ?_
 rintro v' w' ⟨rfl,rfl⟩
 refine⟨?_,rfl⟩
 have UA:¬c=q:=by omega
 simp[UA,jI,hp]
def OW.am_ [Rd]{u y:aZ}{q n c:Nat}{p:Option Addr}(hu:P.underlying t=aa (.slice e))(hT:bN P e α)(hx:ev L u=aa (.slice p n c))(hy:ev L y=aa (.int .i64 (q:Int)))(hq:q<=n)(hn:n<=c):
  OW P Q L ⟨d,.slice t u (aa y) none none,ty,pos,af,g⟩ w (λv' w'=>w'=w∧True):=
 OW.imp (OW.tH (l:=(q:Int)) (h:=(n:Int)) hu hT hx (.inr ⟨y,rfl,hy⟩) (.inl ⟨rfl,rfl⟩) (by omega) (by omega) (by omega)) λv' w' h=>⟨h.2,trivial⟩
def CZ{w:ax}{b off:Nat}{A X B:List ah}{T:aX}(hg:w.heap[b]? =aa (.cells (A++X++B).toArray T (0,0)))(hA:A.length=off):j8 w ⟨b,off,none⟩ X:=by
 intro j u hj;have jU:(⟨b,off,none⟩:Addr).add j=⟨b,off+j,none⟩:=by unfold Addr.add;split<;>simp_all
 rw[jU,cell_of_row w b (off+j) _ T (0,0) hg];have aU:j<X.length:=(gH.1 hj).1;have h1:(A++X++B).toArray[off+j]? =(A++(X++B))[off+j]? :=by simp
 rw[h1,<-hA,List.getElem?_append_right (by omega),Nat.add_sub_cancel_left,List.getElem?_append_left aU];exact hj
def OW.aCj [Rd]{x y:aZ}{b i c k f:Nat}{J A B:List ah}{T tn:aX}(hu:P.underlying t=aa (.slice e))(hT:bN P e α)(yn:P.underlying tn=aa (.int .i64))(hx:ev L x=aa (.slice (aa ⟨b,f,none⟩) i c))(hy:ev L y=aa (.int .i64 (k:Int)))
  (hg:w.heap[b]? =aa (.cells (J++A++B).toArray T (0,0))) (hJ:J.length=f) (hA:A.length=i*ad.sz α) (h0:0<k) (hc:c<i+k) (T3:i+k<=1073741824):
  OW P Q L ⟨d,.call {callee:= .builtin .append,args:= #[x,y],argTypes:= #[t,tn]},ty,pos,af,g⟩ w (λv' w'=>∃(G:Nat) (Z:List ah),v'= .slice (aa ⟨w.heap.size,0,none⟩) (i+k) G∧i+k<=G∧G<=maxLen∧Z.length=(G-i)*ad.sz α∧w'=w.drew.alloc (.cells (A++Z).toArray e)):=by
 obtain⟨ti,gp,ek,iu,mE⟩:=hT.nD
 have hz:(pack (ad.agg α) (ad.zc α)).cells.toList=ad.zc α:=wI (α:=α) (ad.fY (λ_=>True) w)
 have gP:(ad.zc α).length=ad.sz α:=ad.len (ad.fY (α:=α) (λ_=>True) w)
 have iW:(pack (ad.agg α) (ad.zc α)).cells.size=ad.sz α:=by rw[<-nZ,hz,gP]
 have HM:j8 w ⟨b,f,none⟩ A:=CZ (A:=J) (X:=A) (B:=B) hg hJ
 have DX:(i+k)*ti.bytes<=140737488355328:=by have:=Nat.mul_le_mul T3 iu;omega
 have hold:(dL.firstCells ti.size i (.slice (aa ⟨b,f,none⟩) i c)).run P w.drew= .ok A.toArray w.drew:=
  run_firstCells_some w.drew ti.size i ⟨b,f,none⟩ i c A (by rw[hA,ek]) HM
 have hkb:k*ti.bytes<=(i+k)*ti.bytes:=mg _ (by omega)
 have h:=Lib.run_append_grow_zeros (P:=P) w t tn ty e ti _ .i64 .i64 hu yn gp mE (aa ⟨b,f,none⟩) i c A hold k h0 (by rw[ek];exact ad.pos) hc (by omega) (by omega) (growslice_fits hc DX)
 have sH:=grownCap_ge w (i+k) c e
 have h9:∀Z1 Z2:Array ah,A.toArray++Z1++Z2=(A++(Z1++Z2).toList).toArray:=λZ1 Z2=>by apply Array.ext';simp
 rw[h9]at h
 refine OW.run λa ha=>⟨_,_,?_,grownCap w (i+k) c e,(dL.zeroCells (pack (ad.agg α) (ad.zc α)).cells k++dL.zeroCells (pack (ad.agg α) (ad.zc α)).cells (grownCap w (i+k) c e-(i+k))).toList,rfl,sH,grownCap_le_maxLen w _ _ _ (by unfold maxLen;omega),?_,rfl⟩
 ·simp only[execOp,resolve,invoke,builtin,Sem.run_bind,Sem.run_pure,Result.andThen_ok,List.map_toArray,List.map_cons,List.map_nil,ha _ _ hx,ha _ _ hy,h]
 ·simp only[nZ,Array.size_append,size_zeroCells,iW,<-iQ];congr 1;omega
def Ow.split{o:cA}{k:Nat}{K:List Nat}{b f n cap:Nat}{xs:List α}(h:Ow e o k K w (.slice (aa ⟨b,f,none⟩) n cap) xs){i:Nat}(hi:i<=n):
  ∃(J:List ah) (c1 c2:List (List ah)) (S:List ah),J.length=f∧w.heap[b]? =aa (.cells (J++c1.flatten++c2.flatten++S).toArray e (0,0))∧cn (ad.rd (In o K) w) c1 (xs.take i)∧cn (ad.rd (In o K) w) c2 (xs.drop i)∧
   c1.flatten.length=i*ad.sz α∧c2.flatten.length=(n-i)*ad.sz α∧(cap-n)*ad.sz α<=S.length∧o b=k∧n=xs.length∧n<=cap∧cap<=maxLen:=by
 rcases h with⟨h,_⟩|⟨g,f',yV,aV,aJ,h1,h2,h3,h4,h5,h6,h7,h8⟩
 ·cases h
 ·cases h1;have nJ:=qD (h7.take i);have vv:=qD (h7.drop i);have cY:aV.toList.length=aV.size:=nZ;have Uv:aV.toList=aV.toList.take f++(aJ.take i).flatten++(aJ.drop i).flatten++(aV.toList.drop f).drop (xs.length*ad.sz α):=by rw[d_ (aV.toList.take f),<-List.flatten_append,pO,<-h8,d_,pO,pO]
  have hmul:xs.length*ad.sz α<=cap*ad.sz α:=mg _ h4;refine⟨aV.toList.take f,aJ.take i,aJ.drop i,(aV.toList.drop f).drop (xs.length*ad.sz α),by rw[oU];omega,?_,h7.take i,h7.drop i,?_,?_,?_,h2,rfl,h4,h5⟩
  ·rw[<-Uv];simpa using h3
  ·rw[nJ,oU,Nat.min_eq_left hi]
  ·rw[vv,List.length_drop]
  ·rw[List.length_drop,List.length_drop,Nat.sub_mul];omega
def JN(b f q c z:Nat):Option Addr:=if c=q then aa ⟨b,f,none⟩else aa ⟨b,f+q*z,none⟩
def OW.tl2 [Rd]{u y:aZ}{q b n c f:Nat}(hu:P.underlying t=aa (.slice e))(hT:bN P e α)(hx:ev L u=aa (.slice (aa ⟨b,f,none⟩) n c))(hy:ev L y=aa (.int .i64 (q:Int)))(hq:q<=n)(hn:n<=c):
  OW P Q L ⟨d,.slice t u (aa y) none none,ty,pos,af,g⟩ w (λv' w'=>v'= .slice (JN b f q c (ad.sz α)) (n-q) (c-q)∧w'=w):=by
 refine OW.imp (OW.tH (l:=(q:Int)) (h:=(n:Int)) hu hT hx (.inr ⟨y,rfl,hy⟩) (.inl ⟨rfl,rfl⟩) (by omega) (by omega) (by omega)) ?_
 rintro v' w' ⟨rfl,rfl⟩
 refine⟨?_,rfl⟩
 by_cases UA:c=q<;>simp[JN,UA,jI]
def OW.mid [Rd]{u y1 y2:aZ}{l h b n c f:Nat}(hu:P.underlying t=aa (.slice e))(hT:bN P e α)(hx:ev L u=aa (.slice (aa ⟨b,f,none⟩) n c))(hy1:ev L y1=aa (.int .i64 (l:Int)))(tV:ev L y2=aa (.int .i64 (h:Int)))(hq:l<h)(hn:h<=c):
  OW P Q L ⟨d,.slice t u (aa y1) (aa y2) none,ty,pos,af,g⟩ w (λv' w'=>v'= .slice (aa ⟨b,f+l*ad.sz α,none⟩) (h-l) (c-l)∧w'=w):=by
 refine OW.imp (OW.tH (l:=(l:Int)) (h:=(h:Int)) hu hT hx (.inr ⟨y1,rfl,hy1⟩) (.inr ⟨y2,rfl,tV⟩) (by omega) (by omega) (by omega)) ?_
 rintro v' w' ⟨rfl,rfl⟩
 refine⟨?_,rfl⟩
 have cY:¬c=l:=by omega
 simp[cY,jI]
def OW.aCk [Rd]{x y:aZ}{b i c m c2 f:Nat}{p2:Option Addr}{A X B src:List ah}(hu:P.underlying t=aa (.slice e))(hT:bN P e α)(hx:ev L x=aa (.slice (aa ⟨b,f,none⟩) i c))(hy:ev L y=aa (.slice p2 m c2))
  (hg:w.heap[b]? =aa (.cells (A++X++B).toArray e (0,0))) (hA:A.length=f+i*ad.sz α) (hX:X.length=src.length) (hl:src.length=m*ad.sz α) (hs:0<m->∃a,p2=aa a∧j8 w a src) (h1:∀u∈src,u.oneCell'=ab) (hc:i+m<=c):
  OW P Q L ⟨d,.call {callee:= .builtin .append,args:= #[x,y],argTypes:= #[t,t]},ty,pos,af,g⟩ w (λv' w'=>v'= .slice (aa ⟨b,f,none⟩) (i+m) c∧w'=w.setRow b (A++src++B).toArray):=by
 obtain⟨ti,gp,ek,iu,mE⟩:=hT.nD
 rcases Nat.eq_zero_or_pos m with rfl|hm
 ·have yo:src=[]:=zj (by rw[hl,Nat.zero_mul]);have hXe:X=[]:=zj (by rw[hX,yo];rfl);subst yo hXe;have as5:w.setRow b (A++[]++B).toArray=w:=setRow_self w b _ e (0,0) hg;refine OW.run λa ha=>⟨_,w,?_,rfl,as5.symm⟩;have h2:(dL.append_ #[t,t] ty #[.slice (aa ⟨b,f,none⟩) i c,.slice p2 0 c2]).run P w= .ok (.slice (aa ⟨b,f,none⟩) i c) w:=by cases p2<;>simp[dL.append_,run_underlying hu,sizeOf,typeInfo,gp,dL.lenOf,dL.firstCells,loadCells,loadCellsFrom,storeCells,show i<=c by omega]
  simp[execOp,resolve,invoke,builtin,ha _ _ hx,ha _ _ hy,h2]
 ·obtain⟨a,rfl,ui⟩:=hs hm;have h2:=aal (P:=P) w t ty e ti hu gp b f i c _ hg a m c2 src (by rw[hl,ek]) ui h1 hc (by rw[ek,xu,cU,cU,hA];omega);have e1:(A++X++B).toArray.toList.take (f+i*ti.size)++src++(A++X++B).toArray.toList.drop (f+i*ti.size+src.length)=A++src++B:=by
   have h3:(A++X++B).toArray.toList=A++(X++B):=by simp
   rw[h3,ek,<-hA,B0,<-hX,Jq,List.drop_left]
  rw[e1]at h2;refine OW.run λa' ha=>⟨_,_,?_,rfl,rfl⟩;simp[execOp,resolve,invoke,builtin,ha _ _ hx,ha _ _ hy,h2]
def Ve{M N:List Nat}{o o':cA}{w w':ax}(h:bO M N o w.drew o' w'):bO M N o w o' w':=⟨h.os,h.tape,h.output,h.size,h.gV,h.new,h.rO⟩
def D9{o:cA}{w:ax}{b:Nat}(cs:Array ah)(hb:o b=1000):bO [1000] [1000] o w o (w.setRow b cs):=(bO.row cs hb).weaken (by simp) (by simp)
def Ow.shape{o:cA}{k:Nat}{K:List Nat}{v:ah}{xs:List α}(h:Ow e o k K w v xs):∃p cap,v= .slice p xs.length cap∧xs.length<=cap∧cap<=maxLen:=by
 rcases h with⟨rfl,rfl⟩|⟨g,f,cap,aV,aJ,rfl,_,_,h4,h5,_⟩
 ·exact⟨none,0,rfl,bw _,Nat.zero_le _⟩
 ·exact⟨_,cap,rfl,h4,h5⟩
def Ow.Z9{o:cA}{k:Nat}{K:List Nat}{v:ah}{xs:List α}(h:Ow e o k K w v xs)(hx:xs≠[]):∃b f cap,v= .slice (aa ⟨b,f,none⟩) xs.length cap:=by
 rcases h with⟨rfl,rfl⟩|⟨g,f,cap,aV,aJ,rfl,_⟩
 ·exact(hx rfl).elim
 ·exact⟨g,f,cap,rfl⟩
def Ow.block{o:cA}{k:Nat}{K:List Nat}{p:Option Addr}{n cap:Nat}{xs:List α}(h:Ow e o k K w (.slice p n cap) xs)(hx:xs≠[]):∃b f,p=aa ⟨b,f,none⟩:=by obtain⟨b,f,c,h1⟩:=Ow.Z9 h hx;cases h1;exact⟨b,f,rfl⟩
def Ow.Sk [Flat α]{o:cA}{k:Nat}{K:List Nat}{b f cap:Nat}{xs:List α}{aJ:List (List ah)}{J S:List ah}{S0:Nat->Prop}{w0:ax}(hg:w.heap[b]? =aa (.cells (J++aJ.flatten++S).toArray e (0,0)))(hJ:J.length=f)(hb:o b=k)(h:cn (ad.rd S0 w0) aJ xs)(h1:xs.length<=cap)(h2:cap<=maxLen)(hs:(cap-xs.length)*ad.sz α<=S.length):
  Ow e o k K w (.slice (aa ⟨b,f,none⟩) xs.length cap) xs:=by
 have hl:=qD h
 refine .inr ⟨b,f,cap,_,aJ,rfl,hb,hg,h1,h2,?_,h.mono λ_ _ hh=>Flat.any hh,?_⟩
 ·have e1:xs.length*ad.sz α+(cap-xs.length)*ad.sz α=cap*ad.sz α:=by rw[<-iQ,show xs.length+(cap-xs.length)=cap by omega]
  simp only[xu,cU,hl,hJ];omega
 ·show((J++aJ.flatten++S).drop f).take _=_;rw[d_,<-hJ,List.drop_left,<-hl,B0]
def VG(l:List ah)(a b:Nat)(h:a+b<=l.length):∃Y X S,l=Y++X++S∧Y.length=a∧X.length=b∧S.length=l.length-(a+b):=⟨l.take a,(l.drop a).take b,l.drop (a+b),by rw[<-List.drop_drop,d_,pO,pO],by simp;omega,by simp;omega,by simp⟩
section
variable {D:Nat->Type} [∀n,ad (D n)]
variable {T:bb D}
def H7{c:az D}{γ:Gh D}{w w':ax}{rr:HH D c.outs}{v:ah}{n e q k:Nat}{K K' M N:List Nat}{o':cA}{r:List (D n)}[Flat (D n)]
  (h1:gX T (dE T c.outs rr) aa id 3000 c.jR=aa [.one (.own q)]) (h2:jC T (dE T c.outs rr) aa id 3000 c.b7=aa [(q,aa (.sl n e r K 3000))]) (h3:stay c=[]) (hq:1000<=q) (hk:1000<=k)
  (hM:∀x∈M,1000<=x) (hN:∀x∈N,1000<=x) (ev:bO M N γ.o w o' w') (kj:Ow e o' k K' w' v r) (hK:eh K):akm T c γ w rr v w':=by
 obtain⟨iF,ho⟩:∃iF:cA,∀b,iF b=if 1000<=o' b then q else o' b:=⟨λb=>if 1000<=o' b then q else o' b,λ_=>rfl⟩
 have AK:Ow e iF q K w' v r:=by
  rcases kj with h|⟨g,f,cap,aV,aJ,a1,a2,a3,a4,a5,a6,a7,a8⟩
  ·exact .inl h
  ·exact .inr ⟨g,f,cap,aV,aJ,a1,by rw[ho,a2,aG hk],a3,a4,a5,a6,a7.mono λ_ _ hh=>Flat.any hh,a8⟩
 refine⟨λ_=>True,⟨iF,λ_=>v,λ_=>⟨.sl n,r⟩⟩,_,_,h1,h2,⟨trivial,rfl,AK.one⟩,λp x hx=>?_,(λp hp=>by rw[h3]at hp;cases hp),ev.os,ev.tape,ev.output,ev.size,λb hb hc=>?_,λb hb hc=>?_⟩
 ·have hb:aE [(q,aa (AO.sl n e r K 3000))] p=aa (aa x):=by
   unfold dt at hx;split at hx
   ·rename_i y hy;rw[hy];cases hx;rfl
   ·cases hx
  obtain⟨rfl,hy⟩:=nC hb;cases hy;exact⟨AK,hK,.inr ⟨trivial,rfl⟩⟩
 ·have bG:=ev.gV b hb;refine⟨?_,ev.rO b hb λhm=>?_⟩
  ·show iF b=γ.o b;rw[ho,bG,aK (by omega)]
  ·have:=hM _ hm;omega
 ·have hc:iF b=0∨iF b=3:=hc;rw[ho]at hc;by_cases aU:b<w.heap.size
  ·refine⟨aU,?_⟩;show γ.o b=iF b;rw[ho];have bG:=ev.gV b aU;split
   ·rename_i h9;rw[aG h9]at hc;omega
   ·exact bG.symm
  ·have:=hN _ (ev.new b (by omega) hb);rw[aG this]at hc;omega
