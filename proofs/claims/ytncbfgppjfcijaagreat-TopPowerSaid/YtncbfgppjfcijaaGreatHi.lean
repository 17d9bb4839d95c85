import Derived.Test.YtncbfgppjfcijaaGreatHc
import Derived.Lib.AppendZerosOnto
import Derived.Lib.Overlaps
import Derived.Laws.Externs
set_option linter.unusedVariables false
set_option linter.unusedSimpArgs false
set_option linter.unusedSectionVars false
open Array renaming getD→arJ,getElem?_setIfInBounds→ar2,length_toList→arE
open Bool renaming and_eq_true→aqL
open List renaming all_eq_true→aq0,drop_length_add_append→asc,eq_nil_of_length_eq_zero→ar5,getElem?_eq_getElem→arx,getElem?_eq_some_iff→aq9,length_append→aqY,mem_filter→arf,mem_map→aqX,mem_of_getElem?→art,mem_range→aqV,range→aqN,replicate→aqS,size_toArray→arS,take_append_drop→arv,take_left→ar8
open Nat renaming add_mul→aq_,blt→aqZ,eq_of_beq_eq_true→aqK,le_of_ble_eq_true→aqT,le_refl→aqM
namespace Go.Proofs.YtncbfgppjfcijaaGreat
open Go Go.RowKit Dp
namespace Rx
def fK(l:List Oper)(i:Nat):List Nat:=match l[i]? with
 |some o=>(o.after.toList.filter (Region.binds .any)).map Edge.on
 |none=>[]
def VB(l:List Oper)(L:List (Nat×Value))(ds:List Nat)(vs:List Value)(i:Nat):List (Nat×Value):=
 (fK l i).filterMap (fun j=>match ds[j]?,vs[j]? with|some d,some v=>some (d,v)|_,_=>none)++L.filter (fun p=> !ds.contains p.1)
def E6:List Nat→Bool
 |[]=>true
 |x::r=> !r.contains x&&E6 r
def VG(n:Nat)(l:List Oper)(k:Nat)(ds:List Nat):Bool:=
 Nat.beq ds.length k&&aqZ k l.length&&E6 ds&&ds.all (fun d=>aqZ d n)&&
 (aqN k).all (fun i=>(match l[i]? with|some o=>(match o.dst with|some d=>(match ds[i]? with|some e=>Nat.beq d e|none=>false)|none=>false)&&o.guard.isNone|none=>false))&&
 (aqN (k+1)).all (fun i=>(fK l i).all fun j=>aqZ j i)&&
 (aqN k).all (fun i=>(aqN (k+1)).any fun j=>aqZ i j&&(fK l j).contains i)&&
 (aqN l.length).all (fun q=>Nat.ble q k||((fK l q).contains (q-1)&&(fK l q).all fun j=>aqZ j q))
section
variable {P:Program} {n:Nat} {Q:Exit→Act→World→Prop} {L:List (Nat×Value)} {l:List Oper}
def C0 [Rd](P:Program)(Q:Exit→Act→World→Prop)(w:World)(E:Nat→List (Nat×Value)):Nat→List Oper→List Value→Prop
 |i,o::l,v::vs=>OW P Q (E i) o w (fun v' w'=>v'=v∧w'=w)∧C0 P Q w E (i+1) l vs
 |_,_,_=>True
theorem C0.get [Rd]{w:World}{E:Nat→List (Nat×Value)}:∀(j:Nat) {i:Nat} {l:List Oper} {vs:List Value} {o:Oper} {v:Value},C0 P Q w E i l vs→l[j]? =some o→vs[j]? =some v→OW P Q (E (i+j)) o w (fun v' w'=>v'=v∧w'=w):=by
 intro j
 induction j with
 |zero=>
  intro i l vs o v h h1 h2
  cases l with
  |nil=>simp at h1
  |cons o' l=>
   cases vs with
   |nil=>simp at h2
   |cons v' vs=>
    simp at h1 h2
    subst h1 h2
    exact h.1
 |succ j ih=>
  intro i l vs o v h h1 h2
  cases l with
  |nil=>simp at h1
  |cons o' l=>
   cases vs with
   |nil=>simp at h2
   |cons v' vs=>
    have:=ih h.2 (by simpa using h1) (by simpa using h2)
    rw[show i+(j+1)=i+1+j by omega]
    exact this
theorem afl{i:Nat}{o:Oper}(h:l[i]? =some o){e:Edge}(he:e∈o.after.toList)(hb:Region.binds .any e=true):e.on∈fK l i:=by
 simp only[fK,h]
 exact aqX.2 ⟨e,arf.2 ⟨he,hb⟩,rfl⟩
theorem ae6{i j:Nat}(hj:j∈fK l i):∃o,l[i]? =some o∧∃e∈o.after.toList,Region.binds .any e=true∧e.on=j:=by
 unfold fK at hj
 split at hj
 · rename_i o ho
   obtain⟨e,he,rfl⟩:=aqX.1 hj
   obtain⟨h1,h2⟩:=arf.1 he
   exact⟨o,ho,e,h1,h2,rfl⟩
 · cases hj
theorem AF{bI:Array Bool}(dy:bI.size=l.length){i:Nat}:i∈Region.ready .any l.toArray bI↔i<l.length∧bI.getD i false=false∧∀j∈fK l i,bI.getD j false=true:=by
 simp only[Region.ready,arf,aqV,arS]
 constructor
 · rintro⟨hi,h⟩
   have u7:l[i]? =some l[i]:=arx hi
   have MG:l.toArray[i]? =some l[i]:=by simp[hi]
   have kh:i<bI.size:=by omega
   simp only[aqL] at h
   refine⟨hi, ?_,fun j hj=> ?_⟩
   · have:=h.1
     simp[arJ,kh] at this⊢
     exact this
   · obtain⟨o,ho,e,he,hb,rfl⟩:=ae6 hj
     rw[u7] at ho;cases ho
     have h2:=h.2
     rw[MG] at h2
     simp only[Option.map_some,Option.getD_some] at h2
     have:=Array.all_eq_true'.1 h2 e (by simpa using he)
     simpa[hb] using this
 · rintro⟨hi,h1,h2⟩
   have MG:l.toArray[i]? =some l[i]:=by simp[hi]
   have kh:i<bI.size:=by omega
   refine⟨hi, ?_⟩
   rw[MG]
   simp only[aqL,Option.map_some,Option.getD_some]
   refine⟨?_,Array.all_eq_true'.2 fun e he=> ?_⟩
   · simp[arJ,kh] at h1⊢
     exact h1
   · cases hb:Region.binds .any e with
     |false=>simp
     |true=>
      have:=h2 e.on (afl (arx hi) (by simpa using he) hb)
      simpa using this
theorem xu{bI:Array Bool}{i j:Nat}(hi:i<bI.size):(bI.setIfInBounds i true).getD j false=(if j=i then true else bI.getD j false):=by
 by_cases ed:j=i
 · subst ed;simp[arJ,hi]
 · rw[if_neg ed];exact getD_set_ne false (Ne.symm ed)
theorem alu [I:Rd]{k:Nat}(sK:∀q,k<q→q<l.length→(q-1)∈fK l q∧∀j∈fK l q,j<q)(hk:∀j∈fK l k,j<k):∀(gH p:Nat) (bI:Array Bool) (a:Act) (w:World),bI.size=l.length→k≤p→p≤l.length→l.length-p≤gH→
  (∀j,j<l.length→bI.getD j false=decide (j<p))→wpListIn I.F 0 P l.toArray Q (l.drop p) a w→wpAnyIn I.F 0 P .any l.toArray Q gH bI a w:=by
 intro gH
 induction gH with
 |zero=>
  intro p bI a w dy eb hp hf hl h
  have lj:p=l.length:=by omega
  subst lj
  refine⟨List.eq_nil_iff_forall_not_mem.2 fun i hi=> ?_, ?_⟩
  · obtain⟨h1,h2,_⟩:=(AF dy).1 hi
    rw[hl i h1] at h2
    simp[h1] at h2
  · rw[List.drop_length] at h;exact h
 |succ gH ih=>
  intro p bI a w dy eb hp hf hl h
  refine⟨fun hr=> ?_,fun i hi=> ?_⟩
  · by_cases lj:p=l.length
    · subst lj;rw[List.drop_length] at h;exact h
    · exfalso
      have Ml:p<l.length:=by omega
      have:p∈Region.ready .any l.toArray bI:=(AF dy).2 ⟨Ml,by rw[hl p Ml];simp,fun j hj=>by
       have hjp:j<p:=by
        by_cases li:p=k
        · subst li;exact hk j hj
        · exact(sK p (by omega) Ml).2 j hj
       rw[hl j (by omega)];simp[hjp]⟩
      rw[hr] at this;cases this
  · obtain⟨h1,h2,h3⟩:=(AF dy).1 hi
    rw[hl i h1] at h2
    have hip:¬i<p:=by simpa using h2
    have MH:i=p:=by
     by_cases bg:i=p
     · exact bg
     · exfalso
       have h4:=h3 (i-1) (sK i (by omega) h1).1
       rw[hl (i-1) (by omega)] at h4
       have:i-1<p:=by simpa using h4
       omega
    subst MH
    have hd:l.drop i=l[i]::l.drop (i+1):=by rw[List.drop_eq_getElem_cons h1]
    rw[hd] at h
    have MJ:l.toArray[i]? =some l[i]:=by simp[h1]
    unfold wpOpIn
    rw[MJ]
    simp only
    have FP:∀a' w',wpListIn I.F 0 P l.toArray Q (l.drop (i+1)) a' w'→wpAnyIn I.F 0 P .any l.toArray Q gH (bI.setIfInBounds i true) a' w':=fun a' w' h'=>
     ih (i+1) _ a' w' (by simp[dy]) (by omega) (by omega) (by omega) (fun j hj=>by
      rw[xu (by omega),hl j hj]
      by_cases ed:j=i
      · subst ed;simp
      · rw[if_neg ed]
        have:(j<i)↔(j<i+1):=by omega
        simp[this]) h'
    simp only[wpListIn] at h
    split
    · rename_i hw
      rw[if_pos hw] at h
      exact Oper.wpIn_mono FP h
    · rename_i hw
      rw[if_neg hw] at h
      exact⟨h.1,FP _ _ h.2⟩
theorem Ss:∀{ds:List Nat},E6 ds=true→∀{i j d:Nat},ds[i]? =some d→ds[j]? =some d→i=j
 |[],_,i,j,d,h1,_=>by simp at h1
 |x::r,h,i,j,d,h1,h2=>by
  simp only[E6,aqL] at h
  have hx:x∉r:=by simpa using h.1
  match i,j with
  |0,0=>rfl
  |0,j+1=>simp at h1 h2;subst h1;exact(hx (art h2)).elim
  |i+1,0=>simp at h1 h2;subst h2;exact(hx (art h1)).elim
  |i+1,j+1=>simp at h1 h2;rw[Ss h.2 h1 h2]
theorem afL{ds:List Nat}{vs:List Value}:∀{t:Nat} {v:Value},Dp.look (ds.zip vs) t=some v→∃i:Nat,ds[i]? =some t∧vs[i]? =some v:=by
 induction ds generalizing vs with
 |nil=>intro t v h;simp[Dp.look] at h
 |cons d ds ih=>
  intro t v h
  cases vs with
  |nil=>simp[Dp.look] at h
  |cons u vs=>
   rw[List.zip_cons_cons] at h
   by_cases hd:d=t
   · subst hd
     rw[mK] at h
     cases h
     exact⟨0,rfl,rfl⟩
   · rw[k7 _ _ hd] at h
     obtain⟨i,h1,h2⟩:=ih h
     exact⟨i+1,by simpa using h1,by simpa using h2⟩
theorem Lh{ds:List Nat}{vs:List Value}:∀{js:List Nat} {t:Nat} {v:Value},Dp.look (js.filterMap (fun j=>match ds[j]?,vs[j]? with|some d,some v=>some (d,v)|_,_=>none)) t=some v→∃j∈js,ds[j]? =some t∧vs[j]? =some v
 |[],t,v,h=>by simp[Dp.look] at h
 |j::js,t,v,h=>by
  rw[List.filterMap_cons] at h
  split at h
  · obtain⟨i,h1,h2⟩:=Lh h
    exact⟨i,by simp[h1],h2⟩
  · rename_i b hb
    split at hb
    · rename_i d u h1 h2
      cases hb
      by_cases hd:d=t
      · subst hd
        rw[mK] at h
        cases h
        exact⟨j,by simp,h1,h2⟩
      · rw[k7 _ _ hd] at h
        obtain⟨i,h3,h4⟩:=Lh h
        exact⟨i,by simp[h3],h4⟩
    · cases hb
structure DSt [I:Rd](n:Nat)(L:List (Nat×Value))(l:List Oper)(k:Nat)(ds:List Nat)(vs:List Value)(bI:Array Bool)(a:Act):Prop where
 sz:bI.size=l.length
 size:a.tmps.size=n
 defers:a.defers=I.ds
 new:∀(i d:Nat) (v:Value),bI.getD i false=true→ds[i]? =some d→vs[i]? =some v→a.tmps[d]? =some v
 dW:∀(t:Nat) (v:Value),Dp.look L t=some v→t∉ds→a.tmps[t]? =some v
 late:∀i,k≤i→bI.getD i false=false
 closed:∀i,bI.getD i false=true→∀j∈fK l i,bI.getD j false=true
theorem CW.draw{id:Nat}{w:World}(hm:P.follows .mixedOrders=true)(k:Nat)(ds:List Nat)(vs:List Value)(fS:VG n l k ds=true)(LZ:vs.length=k)
  (hp:C0 P Q w.drew (VB l L ds vs) 0 (l.take k) vs) (ht:WL P n l.toArray Q (l.drop k) (ds.zip vs++L.filter (fun p=> !ds.contains p.1)) w.drew):
  CW P n (.region id l.toArray true) Q L w:=by
 intro a ha
 refine wpIn_region_any hm ?_
 simp only[VG,aqL] at fS
 obtain⟨⟨⟨⟨⟨⟨⟨c1,c2⟩,c3⟩,c4⟩,c5⟩,c6⟩,c7⟩,c8⟩:=fS
 have qY:ds.length=k:=aqK c1
 have mU:k<l.length:=aqT c2
 have q8:∀i,i≤k→∀j∈fK l i,j<i:=fun i hi j hj=>by
  have h1:=aq0.1 c6 i (aqV.2 (by omega))
  exact aqT (aq0.1 h1 j hj)
 have ahq:∀i,i<k→∃j,j≤k∧i<j∧i∈fK l j:=fun i hi=>by
  have h1:=aq0.1 c7 i (aqV.2 hi)
  obtain⟨j,hj,h2⟩:=List.any_eq_true.1 h1
  simp only[aqL] at h2
  have lq:=aqV.1 hj
  refine⟨j,by omega,aqT h2.1,by simpa using h2.2⟩
 have UK:∀q,k<q→q<l.length→(q-1)∈fK l q∧∀j∈fK l q,j<q:=fun q hq Bo=>by
  have h1:=aq0.1 c8 q (aqV.2 Bo)
  simp only[Bool.or_eq_true,aqL] at h1
  rcases h1 with h1|h1
  · have:=aqT h1;omega
  · exact⟨by simpa using h1.1,fun j hj=>by
     exact aqT (aq0.1 h1.2 j hj)⟩
 have hop:∀i,i<k→∃d o v,l[i]? =some o∧o.dst=some d∧o.guard=none∧ds[i]? =some d∧vs[i]? =some v∧d<n:=fun i hi=>by
  have h1:=aq0.1 c5 i (aqV.2 hi)
  split at h1
  · rename_i o ho
    simp only[aqL] at h1
    obtain⟨h1,hg⟩:=h1
    split at h1
    · rename_i d hd
      split at h1
      · rename_i e he
        have hde:d=e:=aqK h1
        subst hde
        have hvi:i<vs.length:=by omega
        have hdn:=aq0.1 c4 d (art he)
        exact⟨d,o,vs[i],ho,hd,by simpa using hg,he,arx hvi,aqT hdn⟩
      · cases h1
    · cases h1
  · cases h1
 have lr:∀{bI:Array Bool},(∀i,bI.getD i false=true→∀j∈fK l i,bI.getD j false=true)→(∀j∈fK l k,bI.getD j false=true)→∀i,i<k→bI.getD i false=true:=by
  intro bI cf hkd i
  have key:∀m i,k-i≤m→i<k→bI.getD i false=true:=by
   intro m
   induction m with
   |zero=>intro i h1 h2;omega
   |succ m ih=>
    intro i h1 h2
    obtain⟨j,h3,h4,h5⟩:=ahq i h2
    by_cases hj:j=k
    · subst hj;exact hkd i h5
    · exact cf j (ih j (by omega) (by omega)) i h5
  exact key _ i (aqM _)
 have main:∀(gH:Nat) (bI:Array Bool) (a:Act),l.length≤gH+((aqN l.length).filter fun i=>bI.getD i false).length→DSt n L l k ds vs bI a→wpAnyIn Rd.plain.F 0 P .any l.toArray Q gH bI a w.drew:=by
  intro gH
  induction gH with
  |zero=>
   intro bI a hf hJ
   exfalso
   have Bl:((aqN l.length).filter fun i=>bI.getD i false).length<(aqN l.length).length:=by
    have h9:=filter_lt (p:=fun _=>true) (q:=fun i=>bI.getD i false) (i:=k) (fun _ _=>rfl) rfl (hJ.late k (aqM _)) (l:=aqN l.length) (aqV.2 mU)
    have h8:(aqN l.length).filter (fun _=>true)=aqN l.length:=List.filter_eq_self.2 fun _ _=>rfl
    rw[h8] at h9
    exact h9
   rw[List.length_range] at Bl
   omega
  |succ gH ih=>
   intro bI a hf hJ
   refine⟨fun hr=> ?_,fun i hi=> ?_⟩
   · exfalso
     have BH:∀i,i≤k→bI.getD i false=true:=by
      intro i
      induction i using Nat.strongRecOn with
      |_ i A_=>
       intro c_
       cases nH:bI.getD i false with
       |true=>rfl
       |false=>
        have:i∈Region.ready .any l.toArray bI:=(AF hJ.sz).2 ⟨by omega,nH,fun j hj=>A_ j (q8 i c_ j hj) (by have:=q8 i c_ j hj;omega)⟩
        rw[hr] at this;cases this
     have:=BH k (aqM _)
     rw[hJ.late k (aqM _)] at this
     cases this
   · obtain⟨h1,h2,h3⟩:=(AF hJ.sz).1 hi
     by_cases c_:i<k
     · obtain⟨d,o,v,e1,e2,e3,e4,e5,e6⟩:=hop i c_
       have MJ:l.toArray[i]? =some o:=by simpa using e1
       have ahx:=C0.get i (o:=o) (v:=v) hp (by rw[List.getElem?_take,if_pos c_];exact e1) e5
       unfold wpOpIn
       rw[MJ]
       simp only
       rw[if_pos (by simp[Region.wanted,e3])]
       refine(ahx a _ (fun x u hx=> ?_) ?_)
       · rw[Nat.zero_add] at hx
         cases x with
         |tmp t=>
          have hx:Dp.look (VB l L ds vs i) t=some u:=hx
          have:a.tmps[t]? =some u:=by
           rcases SS hx with hx|⟨_,hx⟩
           · obtain⟨j,hj,h4,h5⟩:=Lh hx
             exact hJ.new j t u (h3 j hj) h4 h5
           · obtain⟨h4,h5⟩:=SP (p:=fun x=> !ds.contains x) hx
             exact hJ.dW t u h4 (by simpa using h5)
          simp[Act.eval,this]
         |const u=>simpa[ev,Act.eval] using hx
         |global g=>simpa[ev,Act.eval] using hx
         |func f=>simpa[ev,Act.eval] using hx
       · rintro v' w' ⟨rfl,rfl⟩
         rw[e2]
         have kh:i<bI.size:=by rw[hJ.sz];exact h1
         refine ih _ _ ?_ ⟨by simp[hJ.sz],by simp[Act.put,hJ.size],by simp[Act.put,hJ.defers], ?_, ?_, ?_, ?_⟩
         · have aK:=filter_lt (p:=fun j=>(bI.setIfInBounds i true).getD j false) (q:=fun j=>bI.getD j false) (i:=i) (fun x hx=>by
            rw[xu kh]
            by_cases Be:x=i
            · simp[Be]
            · rw[if_neg Be];exact hx) (by rw[xu kh];simp) h2 (l:=aqN l.length) (aqV.2 h1)
           omega
         · intro j e u hj h4 h5
           rw[xu kh] at hj
           by_cases ed:j=i
           · subst ed
             rw[e4] at h4;cases h4
             rw[e5] at h5;cases h5
             simp[Act.put,ar2,hJ.size,e6]
           · rw[if_neg ed] at hj
             have bg:d≠e:=fun he=>ed (Ss c3 (he▸h4) e4)
             simp[Act.put,ar2,bg]
             exact hJ.new j e u hj h4 h5
         · intro t u h4 h5
           have bg:d≠t:=fun he=>h5 (he▸art e4)
           simp[Act.put,ar2,bg]
           exact hJ.dW t u h4 h5
         · intro j hj
           rw[xu kh,if_neg (by omega)]
           exact hJ.late j hj
         · intro j hj q hq
           rw[xu kh] at hj⊢
           by_cases TZ:q=i
           · simp[TZ]
           · rw[if_neg TZ]
             by_cases ed:j=i
             · subst ed;exact h3 q hq
             · rw[if_neg ed] at hj
               exact hJ.closed j hj q hq
     · have MH:i=k:=by
        by_cases bg:i=k
        · exact bg
        · exfalso
          have:=h3 (i-1) (UK i (by omega) h1).1
          rw[hJ.late (i-1) (by omega)] at this
          cases this
       subst MH
       have BH:=lr hJ.closed h3
       have FB:=ht a ⟨hJ.size,hJ.defers,fun t v hv=>by
        rcases SS hv with hv|⟨_,hv⟩
        · obtain⟨j,h4,h5⟩:=afL hv
          have lq:j<i:=by
           have:=(aq9.1 h4).1
           omega
          exact hJ.new j t v (BH j lq) h4 h5
        · obtain⟨h4,h5⟩:=SP (p:=fun x=> !ds.contains x) hv
          exact hJ.dW t v h4 (by simpa using h5),fun _ _ h=>by cases h⟩
       have hw:=alu (P:=P) (Q:=Q) UK (q8 i (aqM _)) (gH+1) i bI a w.drew hJ.sz (aqM _) (by omega) (by
        have hle:((aqN l.length).filter fun j=>bI.getD j false).length≤i:=by
         have hs:((aqN l.length).filter fun j=>bI.getD j false)=(aqN l.length).filter fun j=>decide (j<i):=by
          refine List.filter_congr fun j hj=> ?_
          by_cases ed:j<i
          · rw[BH j ed];simp[ed]
          · rw[hJ.late j (by omega)];simp[ed]
         rw[hs]
         have:(aqN l.length).filter (fun j=>decide (j<i))=aqN i:=by
          have h5:aqN l.length=aqN i++(aqN (l.length-i)).map (i+·):=by
           rw[←List.range_add];congr 1;omega
          rw[h5,List.filter_append]
          have h6:(aqN i).filter (fun j=>decide (j<i))=aqN i:=List.filter_eq_self.2 fun j hj=>by simpa using hj
          have h7:((aqN (l.length-i)).map (i+·)).filter (fun j=>decide (j<i))=[]:=by
           rw[List.filter_eq_nil_iff]
           intro j hj
           obtain⟨q,_,rfl⟩:=aqX.1 hj
           simp
          rw[h6,h7,List.append_nil]
         rw[this,List.length_range]
         exact aqM _
        omega) (fun j hj=>by
         by_cases ed:j<i
         · rw[BH j ed];simp[ed]
         · rw[hJ.late j (by omega)];simp[ed]) FB
       exact hw.2 i hi
 refine main _ _ a ?_ ⟨by simp,ha.size,ha.defers,fun i d v hi=> ?_,fun t v h _=>ha.get t v h,fun i _=>by simp[arJ],fun i hi=> ?_⟩
 · simp
 · simp[arJ] at hi
 · simp[arJ] at hi
end
def A8{α:Type}(xs:List α)(i:Int)(ys:List α):Option (List α):=match decide (0≤i)&&decide (i≤len xs)&& !ys.isEmpty,bq xs ys with
 |true,some _=>some (xs.take i.toNat++ys++xs.drop i.toNat)
 |_,_=>none
def B_{α:Type}(xs:List α)(i j:Int):Option (List α):=match decide (0≤i)&&decide (i≤j)&&decide (j≤len xs) with
 |true=>some (xs.take i.toNat++xs.drop j.toNat)
 |false=>none
theorem agq{α:Type}{xs ys r:List α}{i:Int}(h:A8 xs i ys=some r):0≤i∧i≤(xs.length:Int)∧ys≠[]∧bq xs ys=some (xs++ys)∧xs.length+ys.length≤1073741824∧r=xs.take i.toNat++ys++xs.drop i.toNat:=by
 unfold A8 at h
 split at h
 · rename_i h1 h2
   simp only[aqL,decide_eq_true_eq] at h1
   cases h
   have h3:=h2
   unfold bq at h3
   split at h3
   · rename_i h4
     cases h3
     exact⟨h1.1.1,by have:=h1.1.2;unfold len at this;exact this,by intro he;subst he;simp at h1,h2,h4,rfl⟩
   · cases h3
 · cases h
theorem ak4{α:Type}{xs r:List α}{i j:Int}(h:B_ xs i j=some r):0≤i∧i≤j∧j≤(xs.length:Int)∧r=xs.take i.toNat++xs.drop j.toNat:=by
 unfold B_ at h
 split at h
 · rename_i h1
   simp only[aqL,decide_eq_true_eq] at h1
   cases h
   exact⟨h1.1.1,h1.1.2,by have:=h1.2;unfold len at this;exact this,rfl⟩
 · cases h
section
variable {α:Type} [ab α]
variable {P:Program} {Q:Exit→Act→World→Prop} {L:List (Nat×Value)} {w:World} {d:Option Tmp} {ty:TypeId} {pos:String} {af:Array Edge} {g:Option (Nat×Bool)} {t e:TypeId}
theorem OW.oh [Rd]{u:Operand}{lo hi:Option Operand}{l h:Int}{p:Option Addr}{n c:Nat}(hu:P.underlying t=some (.slice e))(hT:bz P e α)(hx:ev L u=some (.slice p n c))(By:tG L lo 0 l)(u_:tG L hi n h)(b1:0≤l)(b2:l≤h)(b3:h≤(c:Int)):
  OW P Q L ⟨d,.slice t u lo hi none,ty,pos,af,g⟩ w (fun v' w'=>v'= .slice (if c=l.toNat then p else p.map (·.add (l.toNat*ab.sz α))) (h.toNat-l.toNat) (c-l.toNat)∧w'=w):=by
 refine OW.run fun a ha=>⟨_,w, ?_,rfl,rfl⟩
 have u9:(h.toNat:Int)=h:=by omega
 have nG:(l.toNat:Int)=l:=by omega
 rcases By with⟨rfl,rfl⟩|⟨yl,rfl,hl⟩<;>rcases u_ with⟨rfl,rfl⟩|⟨yh,rfl,hh⟩
 · simp[execOp,ha _ _ hx,Instr.sliceAt,run_underlying hu,Instr.slice,Instr.sliceBounds,hT.sizeOf]
 · have b0:0≤h:=by omega
   simp[execOp,ha _ _ hx,ha _ _ hh,Instr.sliceAt,run_underlying hu,Instr.slice,Instr.sliceBounds,Instr.sliceBound,asIntOf,hT.sizeOf,b0,b3]
 · simp[execOp,ha _ _ hx,ha _ _ hl,Instr.sliceAt,run_underlying hu,Instr.slice,Instr.sliceBounds,Instr.sliceBound,asIntOf,hT.sizeOf,b1,b2]
 · have b0:0≤h:=by omega
   simp[execOp,ha _ _ hx,ha _ _ hl,ha _ _ hh,Instr.sliceAt,run_underlying hu,Instr.slice,Instr.sliceBounds,Instr.sliceBound,asIntOf,hT.sizeOf,b1,b0,b3,u9,b2]
theorem OW.slice3 [Rd]{u y1 y2 y3:Operand}{l h m:Int}{p:Option Addr}{n c:Nat}(hu:P.underlying t=some (.slice e))(hT:bz P e α)(hx:ev L u=some (.slice p n c))(h1:ev L y1=some (.int .i64 l))(h2:ev L y2=some (.int .i64 h))(h3:ev L y3=some (.int .i64 m))(b1:0≤l)(b2:l≤h)(b3:h≤m)(b4:m≤(c:Int)):
  OW P Q L ⟨d,.slice t u (some y1) (some y2) (some y3),ty,pos,af,g⟩ w (fun v' w'=>w'=w∧True):=by
 refine OW.run fun a ha=>⟨.slice (if m.toNat=l.toNat then p else p.map (·.add (l.toNat*ab.sz α))) (h.toNat-l.toNat) (m.toNat-l.toNat),w, ?_,rfl,trivial⟩
 have u9:(h.toNat:Int)=h:=by omega
 have nG:(l.toNat:Int)=l:=by omega
 have Mt:(m.toNat:Int)=m:=by omega
 have b0:0≤h:=by omega
 have b5:0≤m:=by omega
 simp[execOp,ha _ _ hx,ha _ _ h1,ha _ _ h2,ha _ _ h3,Instr.sliceAt,run_underlying hu,Instr.slice,Instr.sliceBounds,Instr.sliceBound,asIntOf,hT.sizeOf,b1,b0,b5,b3,b4,u9,Mt,b2]
theorem OW.cap [Rd]{o:Operand}{p:Option Addr}{n c:Nat}(hu:P.underlying t=some (.slice e))(hx:ev L o=some (.slice p n c))(hc:c≤maxLen):
  OW P Q L ⟨d,.call {callee:= .builtin .cap,args:= #[o],argTypes:= #[t]},ty,pos,af,g⟩ w (fun v' w'=>v'= .int .i64 c∧w'=w):=by
 refine OW.run fun a ha=>⟨_,w, ?_,rfl,rfl⟩
 simp[execOp,resolve,invoke,builtin,ha _ _ hx,Builtin.cap_,run_underlying hu,goInt]
theorem OW.GV [Rd]{x y:Operand}{b off dl dc sl sc:Nat}{a:Addr}{A X B src:List Value}{T:TypeId}(hu:P.underlying t=some (.slice e))(hT:bz P e α)(hx:ev L x=some (.slice (some ⟨b,off,none⟩) dl dc))(hy:ev L y=some (.slice (some a) sl sc))
  (hg:w.heap[b]? =some (.cells (A++X++B).toArray T (0,0))) (hA:A.length=off) (hX:X.length=src.length) (hl:src.length=min sl dl*ab.sz α) (hs:∀(j:Nat) (u:Value),src[j]? =some u→w.cell? (a.add j)=some u) (h1:∀u∈src,u.oneCell'=true):
  OW P Q L ⟨d,.call {callee:= .builtin .copy,args:= #[x,y],argTypes:= #[t,t]},ty,pos,af,g⟩ w (fun v' w'=>w'=w.setRow b (A++src++B).toArray):=by
 obtain⟨i,dX,cF,fF,jo⟩:=hT.jD
 have hf:=run_firstCells_some (P:=P) w i.size (min sl dl) a sl sc src (by rw[hl,cF]) hs
 have bD:=run_storeCells_at P b off T src 0 _ w hg (by simp;omega) h1
 simp only[Nat.add_zero] at bD
 have e1:(A++X++B).toArray.toList.take off++src++(A++X++B).toArray.toList.drop (off+src.length)=A++src++B:=by
  have h2:(A++X++B).toArray.toList=A++(X++B):=by simp
  rw[h2,←hA,ar8,←hX,asc,List.drop_left]
 rw[e1] at bD
 refine OW.run fun a' ha=>⟨goInt (min sl dl),w.setRow b (A++src++B).toArray, ?_,rfl⟩
 have sE:Nat.min sl dl=min sl dl:=rfl
 simp[execOp,resolve,invoke,builtin,ha _ _ hx,ha _ _ hy,Builtin.copy_,run_underlying hu,sizeOf,typeInfo,dX,Builtin.lenOf,sE,hf,bD]
 congr 1
 omega
theorem OW.alq [Rd]{x:Operand}{b off k c:Nat}{A X B:List Value}{T:TypeId}(hu:P.underlying t=some (.slice e))(hT:bz P e α)(hx:ev L x=some (.slice (some ⟨b,off,none⟩) (k+1) c))
  (hg:w.heap[b]? =some (.cells (A++X++B).toArray T (0,0))) (hA:A.length=off) (hX:X.length=(k+1)*ab.sz α):
  OW P Q L ⟨d,.call {callee:= .builtin .clear,args:= #[x],argTypes:= #[t]},ty,pos,af,g⟩ w (fun v' w'=>∃Z:List Value,Z.length=X.length∧w'=w.setRow b (A++Z++B).toArray):=by
 have hz:(pack (ab.agg α) (ab.zc α)).cells.toList=ab.zc α:=qF (α:=α) (ab.d_ (fun _=>True) w)
 have eP:(ab.zc α).length=ab.sz α:=ab.len (ab.d_ (α:=α) (fun _=>True) w)
 have eI:(pack (ab.agg α) (ab.zc α)).cells.size=ab.sz α:=by rw[←arE,hz,eP]
 have oD:(Builtin.zeroCells (pack (ab.agg α) (ab.zc α)).cells (k+1)).toList=(aqS (k+1) (ab.zc α)).flatten:=by
  have:=V3 (pack (ab.agg α) (ab.zc α)).cells (by rw[eI];exact ab.pos) (k+1)
  rw[hz] at this
  rw[←this]
  simp[Builtin.zeroCells]
 have iT:(aqS (k+1) (ab.zc α)).flatten.length=(k+1)*ab.sz α:=by simp[eP]
 have jn:∀u∈(aqS (k+1) (ab.zc α)).flatten,u.oneCell'=true:=by
  intro u hu
  obtain⟨l,hl,Bi⟩:=List.mem_flatten.1 hu
  rw[List.mem_replicate] at hl
  exact ab.one (ab.d_ (α:=α) (fun _=>True) w) u (hl.2▸Bi)
 have bD:=run_storeCells_at P b off T (aqS (k+1) (ab.zc α)).flatten 0 _ w hg (by simp only[iT,arS,aqY];omega) jn
 simp only[Nat.add_zero] at bD
 have e1:(A++X++B).toArray.toList.take off++(aqS (k+1) (ab.zc α)).flatten++(A++X++B).toArray.toList.drop (off+(aqS (k+1) (ab.zc α)).flatten.length)=A++(aqS (k+1) (ab.zc α)).flatten++B:=by
  have h2:(A++X++B).toArray.toList=A++(X++B):=by simp
  rw[h2,←hA,ar8,iT,←hX,asc,List.drop_left]
 rw[e1] at bD
 refine OW.run fun a ha=>⟨.tuple #[],_, ?_,_,by rw[iT,hX],rfl⟩
 have e0:(Builtin.clear_ #[t] ty #[Value.slice (some ⟨b,off,none⟩) (k+1) c]).run P w= .ok (.tuple #[]) (w.setRow b (A++(aqS (k+1) (ab.zc α)).flatten++B).toArray):=by
  simp[Builtin.clear_,run_underlying hu,hT.zero,oD,bD]
 simp[execOp,resolve,invoke,builtin,ha _ _ hx,e0]
theorem OW.overlaps [Rd]{x y:Operand}{f:Nat}{fn:Func}{a b la ca lb cb oa ob:Nat}{V6 Ob:Array Value}{ta tb tR:TypeId}{ats:Array TypeId}(hu:P.underlying t=some (.slice e))(hT:bz P e α)(hf:P.funcs[f]? =some fn)(hn:(fn.name== "runtime.NumGoroutine")=false)(hb:fn.body.isNone=true)(sC:Extern.findNext fn=none)(he:Extern.find fn=some (Extern.SlicesOverlaps.overlaps #[t,t] #[tR]))
  (hx:ev L x=some (.slice (some ⟨a,oa,none⟩) la ca)) (hy:ev L y=some (.slice (some ⟨b,ob,none⟩) lb cb)) (bg:a≠b) (MN:w.heap[a]? =some (.cells V6 ta (0,0))) (Ut:w.heap[b]? =some (.cells Ob tb (0,0))) (hs:Ob.size≠0):
  OW P Q L ⟨d,.call {callee:= .value (.func f),args:= #[x,y],argTypes:=ats},ty,pos,af,g⟩ w (fun v' w'=>v'= .bool false∧w'=w):=by
 have h1:=run_callFunc_extern hf hn hb sC he #[.slice (some ⟨a,oa,none⟩) la ca,.slice (some ⟨b,ob,none⟩) lb cb] w
 rw[Lib.run_overlaps_apart w t tR e hu (ab.sz α) (fun w=>hT.sizeOf w) ⟨a,oa,none⟩ ⟨b,ob,none⟩ la ca lb cb bg ta tb V6.size Ob.size (by simp[World.shape?,MN]) (by simp[World.shape?,Ut]) hs (by simp[World.frozen?,MN]) (by simp[World.frozen?,MN])] at h1
 refine OW.run fun a' ha=>⟨_,_, ?_,rfl,rfl⟩
 have h2:=ha _ _ hx
 have h3:=ha _ _ hy
 simp[Act.eval] at h2 h3
 simp[execOp,resolve,invoke,Deferred.ofValue,Act.eval]
 rw[h2,h3,h1]
 rfl
theorem OW.R6 [Rd]{op:Op}{v v':Value}(h:Dp.pv L op=some v)(hv:v=v'):OW P Q L ⟨d,op,ty,pos,af,g⟩ w (fun u w'=>u=v'∧w'=w):=hv▸OW.pv h
theorem WL.pe [I:Rd]{n d:Nat}{ops:Array Oper}{rest:List Oper}{op:Op}{v v':Value}(h:Dp.pv L op=some v)(hv:v=v')(hd:I.ft n d=true)(k:WL P n ops Q rest ((d,v')::L) w):WL P n ops Q (⟨some d,op,ty,pos,af,none⟩::rest) L w:=by
 subst hv
 exact WL.v h hd k
theorem OW.pre [Rd]{u y:Operand}{q:Nat}{p:Option Addr}{n c:Nat}(hu:P.underlying t=some (.slice e))(hT:bz P e α)(hx:ev L u=some (.slice p n c))(hy:ev L y=some (.int .i64 (q:Int)))(hq:q≤c):
  OW P Q L ⟨d,.slice t u none (some y) none,ty,pos,af,g⟩ w (fun v' w'=>v'= .slice p q c∧w'=w):=by
 refine OW.imp (OW.oh (l:=0) (h:=(q:Int)) hu hT hx (.inl ⟨rfl,rfl⟩) (.inr ⟨y,rfl,hy⟩) (by omega) (by omega) (by omega)) ?_
 rintro v' w' ⟨rfl,rfl⟩
 refine⟨?_,rfl⟩
 have h0:p.map (fun a:Addr=>a.add 0)=p:=by cases p<;>simp[Addr.add]
 simp[h0]
theorem OW.tl [Rd]{u y:Operand}{q b n c:Nat}(hu:P.underlying t=some (.slice e))(hT:bz P e α)(hx:ev L u=some (.slice (some ⟨b,0,none⟩) n c))(hy:ev L y=some (.int .i64 (q:Int)))(hq:q≤n)(hn:n≤c)(hc:q<c):
  OW P Q L ⟨d,.slice t u (some y) none none,ty,pos,af,g⟩ w (fun v' w'=>v'= .slice (some ⟨b,q*ab.sz α,none⟩) (n-q) (c-q)∧w'=w):=by
 refine OW.imp (OW.oh (l:=(q:Int)) (h:=(n:Int)) hu hT hx (.inr ⟨y,rfl,hy⟩) (.inl ⟨rfl,rfl⟩) (by omega) (by omega) (by omega)) ?_
 rintro v' w' ⟨rfl,rfl⟩
 refine⟨?_,rfl⟩
 have M1:¬c=q:=by omega
 have dL:(⟨b,0,none⟩:Addr).add (q*ab.sz α)=⟨b,q*ab.sz α,none⟩:=by unfold Addr.add;split<;>simp_all
 simp[M1,dL]
theorem OW.acr [Rd]{u y:Operand}{q n c:Nat}{p:Option Addr}(hu:P.underlying t=some (.slice e))(hT:bz P e α)(hx:ev L u=some (.slice p n c))(hy:ev L y=some (.int .i64 (q:Int)))(hq:q≤n)(hn:n≤c):
  OW P Q L ⟨d,.slice t u (some y) none none,ty,pos,af,g⟩ w (fun v' w'=>w'=w∧True):=
 OW.imp (OW.oh (l:=(q:Int)) (h:=(n:Int)) hu hT hx (.inr ⟨y,rfl,hy⟩) (.inl ⟨rfl,rfl⟩) (by omega) (by omega) (by omega)) fun v' w' h=>⟨h.2,trivial⟩
theorem w5{w:World}{b off:Nat}{A X B:List Value}{T:TypeId}(hg:w.heap[b]? =some (.cells (A++X++B).toArray T (0,0)))(hA:A.length=off):gy w ⟨b,off,none⟩ X:=by
 intro j u hj
 have dL:(⟨b,off,none⟩:Addr).add j=⟨b,off+j,none⟩:=by unfold Addr.add;split<;>simp_all
 rw[dL,cell_of_row w b (off+j) _ T (0,0) hg]
 have aK:j<X.length:=(aq9.1 hj).1
 have h1:(A++X++B).toArray[off+j]? =(A++(X++B))[off+j]? :=by simp
 rw[h1,←hA,List.getElem?_append_right (by omega),Nat.add_sub_cancel_left,List.getElem?_append_left aK]
 exact hj
theorem OW.apa [Rd]{x y:Operand}{b i c k:Nat}{A B:List Value}{T tn:TypeId}(hu:P.underlying t=some (.slice e))(hT:bz P e α)(su:P.underlying tn=some (.int .i64))(hx:ev L x=some (.slice (some ⟨b,0,none⟩) i c))(hy:ev L y=some (.int .i64 (k:Int)))
  (hg:w.heap[b]? =some (.cells (A++B).toArray T (0,0))) (hA:A.length=i*ab.sz α) (h0:0<k) (hc:c<i+k) (Bz:i+k≤1073741824):
  OW P Q L ⟨d,.call {callee:= .builtin .append,args:= #[x,y],argTypes:= #[t,tn]},ty,pos,af,g⟩ w (fun v' w'=>∃(G:Nat) (Z:List Value),v'= .slice (some ⟨w.heap.size,0,none⟩) (i+k) G∧i+k≤G∧G≤maxLen∧Z.length=(G-i)*ab.sz α∧w'=w.drew.alloc (.cells (A++Z).toArray e)):=by
 obtain⟨ti,dX,cF,fF,jo⟩:=hT.jD
 have hz:(pack (ab.agg α) (ab.zc α)).cells.toList=ab.zc α:=qF (α:=α) (ab.d_ (fun _=>True) w)
 have eP:(ab.zc α).length=ab.sz α:=ab.len (ab.d_ (α:=α) (fun _=>True) w)
 have eI:(pack (ab.agg α) (ab.zc α)).cells.size=ab.sz α:=by rw[←arE,hz,eP]
 have BK:gy w ⟨b,0,none⟩ A:=w5 (A:=[]) (X:=A) (B:=B) (by simpa using hg) rfl
 have x_:(i+k)*ti.bytes≤140737488355328:=by
  have:=Nat.mul_le_mul Bz fF
  omega
 have hold:(Builtin.firstCells ti.size i (.slice (some ⟨b,0,none⟩) i c)).run P w.drew= .ok A.toArray w.drew:=
  run_firstCells_some w.drew ti.size i ⟨b,0,none⟩ i c A (by rw[hA,cF]) BK
 have hkb:k*ti.bytes≤(i+k)*ti.bytes:=Nat.mul_le_mul_right _ (by omega)
 have h:=Lib.run_append_grow_zeros (P:=P) w t tn ty e ti _ .i64 .i64 hu su dX jo (some ⟨b,0,none⟩) i c A hold k h0 (by rw[cF];exact ab.pos) hc (by omega) (by omega) (growslice_fits hc x_)
 have nJ:=grownCap_ge w (i+k) c e
 have h9:∀Z1 Z2:Array Value,A.toArray++Z1++Z2=(A++(Z1++Z2).toList).toArray:=fun Z1 Z2=>by apply Array.ext';simp
 rw[h9] at h
 refine OW.run fun a ha=>⟨_,_, ?_,grownCap w (i+k) c e,(Builtin.zeroCells (pack (ab.agg α) (ab.zc α)).cells k++Builtin.zeroCells (pack (ab.agg α) (ab.zc α)).cells (grownCap w (i+k) c e-(i+k))).toList,rfl,nJ,grownCap_le_maxLen w _ _ _ (by unfold maxLen;omega), ?_,rfl⟩
 · simp only[execOp,resolve,invoke,builtin,Sem.run_bind,Sem.run_pure,Result.andThen_ok,List.map_toArray,List.map_cons,List.map_nil,ha _ _ hx,ha _ _ hy,h]
 · simp only[arE,Array.size_append,size_zeroCells,eI,←aq_]
   congr 1
   omega
theorem Ow.split{o:bL}{k:Nat}{K:List Nat}{b n cap:Nat}{xs:List α}(h:Ow e o k K w (.slice (some ⟨b,0,none⟩) n cap) xs){i:Nat}(hi:i≤n):
  ∃(c1 c2:List (List Value)) (S:List Value),w.heap[b]? =some (.cells (c1.flatten++c2.flatten++S).toArray e (0,0))∧bC (ab.rd (In o K) w) c1 (xs.take i)∧bC (ab.rd (In o K) w) c2 (xs.drop i)∧
   c1.flatten.length=i*ab.sz α∧c2.flatten.length=(n-i)*ab.sz α∧S.length=(cap-n)*ab.sz α∧o b=k∧n=xs.length∧n≤cap∧cap≤maxLen:=by
 rcases h with⟨h,_⟩|⟨g,vM,aL,aw,h1,h2,h3,h4,h5,h6,h7,h8⟩
 · cases h
 · cases h1
   have kb:=mb (h7.take i)
   have ln:=mb (h7.drop i)
   have MX:aL.toList=(aw.take i).flatten++(aw.drop i).flatten++aL.toList.drop (xs.length*ab.sz α):=by
    rw[←List.flatten_append,arv,←h8,arv]
   refine⟨aw.take i,aw.drop i,aL.toList.drop (xs.length*ab.sz α), ?_,h7.take i,h7.drop i, ?_, ?_, ?_,h2,rfl,h4,h5⟩
   · rw[←MX];simpa using h3
   · rw[kb,List.length_take,Nat.min_eq_left hi]
   · rw[ln,List.length_drop]
   · rw[List.length_drop,arE,h6,Nat.sub_mul]
def Dw(b q c z:Nat):Option Addr:=if c=q then some ⟨b,0,none⟩ else some ⟨b,q*z,none⟩
theorem OW.tl2 [Rd]{u y:Operand}{q b n c:Nat}(hu:P.underlying t=some (.slice e))(hT:bz P e α)(hx:ev L u=some (.slice (some ⟨b,0,none⟩) n c))(hy:ev L y=some (.int .i64 (q:Int)))(hq:q≤n)(hn:n≤c):
  OW P Q L ⟨d,.slice t u (some y) none none,ty,pos,af,g⟩ w (fun v' w'=>v'= .slice (Dw b q c (ab.sz α)) (n-q) (c-q)∧w'=w):=by
 refine OW.imp (OW.oh (l:=(q:Int)) (h:=(n:Int)) hu hT hx (.inr ⟨y,rfl,hy⟩) (.inl ⟨rfl,rfl⟩) (by omega) (by omega) (by omega)) ?_
 rintro v' w' ⟨rfl,rfl⟩
 refine⟨?_,rfl⟩
 have dL:(⟨b,0,none⟩:Addr).add (q*ab.sz α)=⟨b,q*ab.sz α,none⟩:=by unfold Addr.add;split<;>simp_all
 by_cases M1:c=q<;>simp[Dw,M1,dL]
theorem OW.mid [Rd]{u y1 y2:Operand}{l h b n c:Nat}(hu:P.underlying t=some (.slice e))(hT:bz P e α)(hx:ev L u=some (.slice (some ⟨b,0,none⟩) n c))(TD:ev L y1=some (.int .i64 (l:Int)))(nD:ev L y2=some (.int .i64 (h:Int)))(hq:l<h)(hn:h≤c):
  OW P Q L ⟨d,.slice t u (some y1) (some y2) none,ty,pos,af,g⟩ w (fun v' w'=>v'= .slice (some ⟨b,l*ab.sz α,none⟩) (h-l) (c-l)∧w'=w):=by
 refine OW.imp (OW.oh (l:=(l:Int)) (h:=(h:Int)) hu hT hx (.inr ⟨y1,rfl,TD⟩) (.inr ⟨y2,rfl,nD⟩) (by omega) (by omega) (by omega)) ?_
 rintro v' w' ⟨rfl,rfl⟩
 refine⟨?_,rfl⟩
 have cf:¬c=l:=by omega
 have dL:(⟨b,0,none⟩:Addr).add (l*ab.sz α)=⟨b,l*ab.sz α,none⟩:=by unfold Addr.add;split<;>simp_all
 simp[cf,dL]
theorem OW.apb [Rd]{x y:Operand}{b i c m c2:Nat}{p2:Option Addr}{A X B src:List Value}(hu:P.underlying t=some (.slice e))(hT:bz P e α)(hx:ev L x=some (.slice (some ⟨b,0,none⟩) i c))(hy:ev L y=some (.slice p2 m c2))
  (hg:w.heap[b]? =some (.cells (A++X++B).toArray e (0,0))) (hA:A.length=i*ab.sz α) (hX:X.length=src.length) (hl:src.length=m*ab.sz α) (hs:0<m→∃a,p2=some a∧gy w a src) (h1:∀u∈src,u.oneCell'=true) (hc:i+m≤c):
  OW P Q L ⟨d,.call {callee:= .builtin .append,args:= #[x,y],argTypes:= #[t,t]},ty,pos,af,g⟩ w (fun v' w'=>v'= .slice (some ⟨b,0,none⟩) (i+m) c∧w'=w.setRow b (A++src++B).toArray):=by
 obtain⟨ti,dX,cF,fF,jo⟩:=hT.jD
 rcases Nat.eq_zero_or_pos m with rfl|hm
 · have sv:src=[]:=ar5 (by rw[hl,Nat.zero_mul])
   have hXe:X=[]:=ar5 (by rw[hX,sv];rfl)
   subst sv hXe
   have ahd:w.setRow b (A++[]++B).toArray=w:=setRow_self w b _ e (0,0) hg
   refine OW.run fun a ha=>⟨_,w, ?_,rfl,ahd.symm⟩
   have h2:(Builtin.append_ #[t,t] ty #[.slice (some ⟨b,0,none⟩) i c,.slice p2 0 c2]).run P w= .ok (.slice (some ⟨b,0,none⟩) i c) w:=by
    cases p2<;>simp[Builtin.append_,run_underlying hu,sizeOf,typeInfo,dX,Builtin.lenOf,Builtin.firstCells,loadCells,loadCellsFrom,storeCells,show i≤c by omega]
   simp[execOp,resolve,invoke,builtin,ha _ _ hx,ha _ _ hy,h2]
 · obtain⟨a,rfl,oO⟩:=hs hm
   have h2:=run_append_room (P:=P) w t ty e ti hu dX b i c _ hg a m c2 src (by rw[hl,cF]) oO h1 hc (by rw[cF,arS,aqY,aqY,hA];omega)
   have e1:(A++X++B).toArray.toList.take (i*ti.size)++src++(A++X++B).toArray.toList.drop (i*ti.size+src.length)=A++src++B:=by
    have h3:(A++X++B).toArray.toList=A++(X++B):=by simp
    rw[h3,cF,←hA,ar8,←hX,asc,List.drop_left]
   rw[e1] at h2
   refine OW.run fun a' ha=>⟨_,_, ?_,rfl,rfl⟩
   simp[execOp,resolve,invoke,builtin,ha _ _ hx,ha _ _ hy,h2]
theorem NI{M N:List Nat}{o o':bL}{w w':World}(h:ba M N o w.drew o' w'):ba M N o w o' w':=⟨h.os,h.tape,h.output,h.size,h.dW,h.new,h.jP⟩
theorem yg{o:bL}{w:World}{b:Nat}(cs:Array Value)(hb:o b=1000):ba [1000] [1000] o w o (w.setRow b cs):=(ba.row cs hb).weaken (by simp) (by simp)
theorem Ow.shape{o:bL}{k:Nat}{K:List Nat}{v:Value}{xs:List α}(h:Ow e o k K w v xs):∃p cap,v= .slice p xs.length cap∧xs.length≤cap∧cap≤maxLen:=by
 rcases h with⟨rfl,rfl⟩|⟨g,cap,aL,aw,rfl,_,_,h4,h5,_⟩
 · exact⟨none,0,rfl,aqM _,Nat.zero_le _⟩
 · exact⟨_,cap,rfl,h4,h5⟩
theorem Ow.Ri{o:bL}{k:Nat}{K:List Nat}{v:Value}{xs:List α}(h:Ow e o k K w v xs)(hx:xs≠[]):∃b cap,v= .slice (some ⟨b,0,none⟩) xs.length cap:=by
 rcases h with⟨rfl,rfl⟩|⟨g,cap,aL,aw,rfl,_⟩
 · exact(hx rfl).elim
 · exact⟨g,cap,rfl⟩
theorem Ow.block{o:bL}{k:Nat}{K:List Nat}{p:Option Addr}{n cap:Nat}{xs:List α}(h:Ow e o k K w (.slice p n cap) xs)(hx:xs≠[]):∃b,p=some ⟨b,0,none⟩:=by
 obtain⟨b,c,h1⟩:=Ow.Ri h hx
 cases h1
 exact⟨b,rfl⟩
theorem Ow.KJ [Flat α]{o:bL}{k:Nat}{K:List Nat}{b cap:Nat}{xs:List α}{aw:List (List Value)}{S:List Value}{S0:Nat→Prop}{w0:World}(hg:w.heap[b]? =some (.cells (aw.flatten++S).toArray e (0,0)))(hb:o b=k)(h:bC (ab.rd S0 w0) aw xs)(h1:xs.length≤cap)(h2:cap≤maxLen)(hs:S.length=(cap-xs.length)*ab.sz α):
  Ow e o k K w (.slice (some ⟨b,0,none⟩) xs.length cap) xs:=by
 have hl:=mb h
 refine .inr ⟨b,cap,_,aw,rfl,hb,hg,h1,h2, ?_,h.mono fun _ _ hh=>Flat.any hh, ?_⟩
 · simp only[arS,aqY,hl,hs,←aq_]
   congr 1
   omega
 · show(aw.flatten++S).take _=_
   rw[←hl,ar8]
theorem NZ(l:List Value)(a b:Nat)(h:a+b≤l.length):∃Y X S,l=Y++X++S∧Y.length=a∧X.length=b∧S.length=l.length-(a+b):=
 ⟨l.take a,(l.drop a).take b,l.drop (a+b),by rw[←List.drop_drop,List.append_assoc,arv,arv],by simp;omega,by simp;omega,by simp⟩
section
variable {D:Nat→Type} [∀n,ab (D n)]
variable {T:aV D}
theorem BY{c:ar D}{γ:Gh D}{w w':World}{rr:HH D c.outs}{v:Value}{n e q k:Nat}{K K' M N:List Nat}{o':bL}{r:List (D n)}[Flat (D n)]
  (h1:fO T (cN T c.outs rr) some id 3000 c.ie=some [.one (.own q)]) (h2:gj T (cN T c.outs rr) some id 3000 c.bG=some [(q,some (.sl n e r K 3000))]) (h3:stay c=[]) (hq:1000≤q) (hk:1000≤k)
  (hM:∀x∈M,1000≤x) (hN:∀x∈N,1000≤x) (ev:ba M N γ.o w o' w') (gl:Ow e o' k K' w' v r) (hK:cT K):aaf T c γ w rr v w':=by
 obtain⟨fu,ho⟩:∃fu:bL,∀b,fu b=if 1000≤o' b then q else o' b:=⟨fun b=>if 1000≤o' b then q else o' b,fun _=>rfl⟩
 have uR:Ow e fu q K w' v r:=by
  rcases gl with h|⟨g,cap,aL,aw,a1,a2,a3,a4,a5,a6,a7,a8⟩
  · exact .inl h
  · exact .inr ⟨g,cap,aL,aw,a1,by rw[ho,a2,if_pos hk],a3,a4,a5,a6,a7.mono fun _ _ hh=>Flat.any hh,a8⟩
 refine⟨fun _=>True,⟨fu,fun _=>v,fun _=>⟨.sl n,r⟩⟩,_,_,h1,h2,⟨trivial,rfl,uR.one⟩,fun p x hx=> ?_,(fun p hp=>by rw[h3] at hp;cases hp),ev.os,ev.tape,ev.output,ev.size,fun b hb hc=> ?_,fun b hb hc=> ?_⟩
 · have hb:au [(q,some (AO.sl n e r K 3000))] p=some (some x):=by
    unfold cw at hx
    split at hx
    · rename_i y hy;rw[hy];cases hx;rfl
    · cases hx
   obtain⟨rfl,hy⟩:=jZ hb
   cases hy
   exact⟨uR,hK,.inr ⟨trivial,rfl⟩⟩
 · have bb:=ev.dW b hb
   refine⟨?_,ev.jP b hb fun hm=> ?_⟩
   · show fu b=γ.o b
     rw[ho,bb,if_neg (by omega)]
   · have:=hM _ hm
     omega
 · have hc:fu b=0∨fu b=3:=hc
   rw[ho] at hc
   by_cases aK:b<w.heap.size
   · refine⟨aK, ?_⟩
     show γ.o b=fu b
     rw[ho]
     have bb:=ev.dW b aK
     split
     · rename_i h9;rw[if_pos h9] at hc;omega
     · exact bb.symm
   · have:=hN _ (ev.new b (by omega) hb)
     rw[if_pos this] at hc
     omega
end
end
end Rx
end Go.Proofs.YtncbfgppjfcijaaGreat
