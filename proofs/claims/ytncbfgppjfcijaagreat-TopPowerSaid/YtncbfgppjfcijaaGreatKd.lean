import Derived.Test.YtncbfgppjfcijaaGreatDv
set_option linter.unusedVariables false
set_option linter.unusedSimpArgs false
open Array renaming getElem?_eq_some_iff→aq5,length_toList→arE
open List renaming append_assoc→aq4,drop_of_length_le→aso,eq_nil_of_length_eq_zero→ar5,ext_getElem?→arQ,flatten_append→aro,flatten_cons→arn,getElem?_eq_getElem→arx,getElem?_eq_some_iff→aq9,getElem?_set→arq,getElem?_take→arh,map_append→arI,mem_cons_self→arG,mem_of_getElem?→art,range→aqN,replicate→aqS,take_of_length_le→arY
open Nat renaming add_mul→aq_,le_refl→aqM,mul_le_mul_right→arl,succ_mul→aru
open Option.some renaming inj→are
namespace Go.Proofs.YtncbfgppjfcijaaGreat
open Go Go.RowKit
namespace Dp
class jU(α:Type)[ab α]:Prop where
 loc:∀{S:Nat→Prop} {w:World} {cs:List Value} {x:α},ab.rd S w cs x→ab.rd (fun b=>S b∧∃p n c,Value.slice (some p) n c∈cs∧p.block=b) w cs x
instance:jU Int:=⟨fun h=>h⟩
instance:jU Bool:=⟨fun h=>h⟩
instance:jU ByteArray:=⟨fun h=>h⟩
instance:jU U8:=⟨fun h=>h⟩
instance{β:Type}[ab β][Flat β]:jU (List β):=⟨by
 rintro S w cs x ⟨p,cap,rfl,h1,h2,h3⟩
 refine⟨p,cap,rfl,h1,h2, ?_⟩
 rcases h3 with h3|⟨a,aw,rfl,h4,h5,h6⟩
 · exact .inl h3
 · exact .inr ⟨a,aw,rfl,⟨h4,a,x.length,cap,by simp,rfl⟩,h5.mono fun _ _=>Flat.any,h6⟩⟩
instance{α β:Type}[ab α][ab β][jU α][jU β]:jU (α×β):=⟨by
 rintro S w cs x ⟨c1,c2,rfl,h1,h2⟩
 refine⟨c1,c2,rfl,ab.mono ?_ (jU.loc h1),ab.mono ?_ (jU.loc h2)⟩
 · rintro b ⟨hb,p,n,c,hm,e⟩ _
   exact⟨⟨hb,p,n,c,List.mem_append_left _ hm,e⟩,rfl⟩
 · rintro b ⟨hb,p,n,c,hm,e⟩ _
   exact⟨⟨hb,p,n,c,List.mem_append_right _ hm,e⟩,rfl⟩⟩
def IB(z:Nat)(Tc:TypeId)(o:bL)(kc:Nat)(w:World)(u:Value):Prop:=
 ∀p n c,u= .slice p n c→(p=none∧n=0∧c=0)∨∃g aL,p=some ⟨g,0,none⟩∧o g=kc∧w.heap[g]? =some (.cells aL Tc (0,0))∧n≤c∧c≤maxLen∧aL.size=c*z
def Dst(l:List Value):Prop:=∀(i j:Nat) (p q:Addr) (n m c d:Nat),l[i]? =some (.slice (some p) n c)→l[j]? =some (.slice (some q) m d)→p.block=q.block→i=j
def f_{α:Type}[ab α](z:Nat)(T Tc:TypeId)(o:bL)(k kc:Nat)(w:World)(v:Value)(xs:List α):Prop:=
 (v= .slice none 0 0∧xs=[])∨
 ∃g cap aL aw,v= .slice (some ⟨g,0,none⟩) xs.length cap∧o g=k∧w.heap[g]? =some (.cells aL T (0,0))∧xs.length≤cap∧cap≤maxLen∧aL.size=cap*ab.sz α∧
  bC (ab.rd (In o [kc]) w) aw xs∧aL.toList.take (xs.length*ab.sz α)=aw.flatten∧(∀u∈aw.flatten,IB z Tc o kc w u)∧Dst aw.flatten
section
variable {α β:Type} [ab α] [ab β] {z:Nat} {T Tc:TypeId} {o o':bL} {k kc k' xB:Nat} {w w':World} {v u:Value} {xs:List α} {M N:List Nat}
theorem f_.ow(h:f_ z T Tc o k kc w v xs):Ow T o k [kc] w v xs:=by
 rcases h with h|⟨g,cap,aL,aw,h1,h2,h3,h4,h5,h6,h7,h8,_⟩
 · exact .inl h
 · exact .inr ⟨g,cap,aL,aw,h1,h2,h3,h4,h5,h6,h7,h8⟩
theorem f_.rv(h:f_ z T Tc o k kc w v xs):Rv (In o [k,kc]) w v xs:=h.ow.rv
theorem f_.nil(z:Nat)(T Tc:TypeId)(o:bL)(k kc:Nat)(w:World):f_ z T Tc o k kc w (.slice none 0 0) ([]:List α):= .inl ⟨rfl,rfl⟩
theorem f_.one(h:f_ z T Tc o k kc w v xs):v.oneCell'=true:=h.ow.one
theorem IB.m9(h:IB z Tc o kc w u)(ev:ba M N o w o' w')(hd:gJ [kc] M=true):IB z Tc o' kc w' u:=by
 intro p n c e
 rcases h p n c e with h|⟨g,aL,h1,h2,h3,h4⟩
 · exact .inl h
 · have aK:g<w.heap.size:=(aq5.1 h3).1
   exact .inr ⟨g,aL,h1,by rw[ev.dW g aK];exact h2,by rw[ev.jP g aK (B9 hd (by rw[h2];exact arG))];exact h3,h4⟩
theorem f_.m9(h:f_ z T Tc o k kc w v xs)(ev:ba M N o w o' w')(hd:gJ [k,kc] M=true):f_ z T Tc o' k kc w' v xs:=by
 have UH:gJ [kc] M=true:=by simp only[gJ,List.all_cons,Bool.and_eq_true] at hd⊢;exact⟨hd.2.1,rfl⟩
 rcases h with h|⟨g,cap,aL,aw,h1,h2,h3,h4,h5,h6,h7,h8,h9,mX⟩
 · exact .inl h
 · have aK:g<w.heap.size:=(aq5.1 h3).1
   exact .inr ⟨g,cap,aL,aw,h1,by rw[ev.dW _ aK];exact h2,by rw[ev.jP _ aK (B9 hd (by rw[h2];exact arG))];exact h3,h4,h5,h6,h7.mono fun _ _=>ab.mono (ev.ro UH),h8,fun u hu=>(h9 u hu).m9 ev UH,mX⟩
def zl(o:bL)(k:Nat)(w:World)(pa:Addr)(u:Value):Prop:=o pa.block=k∧w.cell? pa=some u
theorem zl.m9{pa:Addr}(h:zl o k w pa u)(ev:ba M N o w o' w')(hd:gJ [k] M=true):zl o' k w' pa u:=by
 have aK:=World.block_lt_of_cell? w pa h.2
 have bg:o pa.block∉M:=B9 hd (by rw[h.1];exact arG)
 refine⟨by rw[ev.dW _ aK];exact h.1, ?_⟩
 rw[←h.2]
 exact World.cell?_of_block (ev.jP _ aK bg)
def nu(aL:Array Value)(q:Nat)(v':Value):Array Value:=(aL.toList.take q++[v']++aL.toList.drop (q+1)).toArray
def o7(z:Nat)(T Tc:TypeId)(o:bL)(k kc:Nat)(w:World)(v:Value)(xs:List α)(pq:Addr)(v':Value):Prop:=
 ∃g q aL,pq=⟨g,q,none⟩∧o g=k∧w.heap[g]? =some (.cells aL T (0,0))∧v'.oneCell'=true∧q<aL.size∧f_ z T Tc o k kc (w.setRow g (nu aL q v')) v xs
theorem ba.both{g:Nat}{X aL:Array Value}{T:TypeId}(ev:ba M N o w o' w')(hg:w.heap[g]? =some (.cells aL T (0,0)))(he:w'.heap[g]? =w.heap[g]?):ba M N o (w.setRow g X) o' (w'.setRow g X):=by
 refine⟨ev.os,ev.tape,ev.output,by simpa using ev.size,fun b hb=>ev.dW b (by simpa using hb),fun b h1 h2=>ev.new b (by simpa using h1) (by simpa using h2),fun b hb bg=> ?_⟩
 have dY:b<w.heap.size:=by simpa using hb
 by_cases vo:b=g
 · subst vo
   rw[setRow_heap w b aL X T (0,0) hg,setRow_heap w' b aL X T (0,0) (by rw[he];exact hg)]
 · rw[setRow_other w' g b X vo,setRow_other w g b X vo]
   exact ev.jP b dY bg
theorem o7.m9{pq:Addr}(h:o7 z T Tc o k kc w v xs pq u)(ev:ba M N o w o' w')(hd:gJ [k,kc] M=true):o7 z T Tc o' k kc w' v xs pq u:=by
 obtain⟨g,q,aL,h1,h2,h3,h4,h5,h6⟩:=h
 have aK:g<w.heap.size:=(aq5.1 h3).1
 have he:=ev.jP _ aK (B9 hd (by rw[h2];exact arG))
 exact⟨g,q,aL,h1,by rw[ev.dW _ aK];exact h2,by rw[he];exact h3,h4,h5,h6.m9 (ev.both h3 he) hd⟩
end
theorem bC.Sx{α:Type}{R R':List Value→α→Prop}:∀{cs:List (List Value)} {xs:List α},(∀c∈cs,∀x,R c x→R' c x)→bC R cs xs→bC R' cs xs
 |[],[],_,_=>trivial
 |_::_,_::_,hr,h=>⟨hr _ (by simp) _ h.1,bC.Sx (fun c hc=>hr c (by simp[hc])) h.2⟩
 |[],_::_,_,h=>h.elim
 |_::_,[],_,h=>h.elim
theorem uf{α:Type}{l:List α}{q:Nat}{x:α}(h:q<l.length):l.take q++[x]++l.drop (q+1)=l.set q x:=by
 rw[List.set_eq_take_append_cons_drop,if_pos h]
 simp
theorem Gs{z:Nat}{aw:List (List Value)}(hz:∀c∈aw,c.length=z){j off:Nat}{c:List Value}(hc:aw[j]? =some c)(ho:off<z)(v:Value):
  (aw.set j (c.take off++[v]++c.drop (off+1))).flatten=aw.flatten.set (j*z+off) v:=by
 have cf:c.length=z:=hz c (art hc)
 rw[uf (by omega)]
 induction aw generalizing j with
 |nil=>simp at hc
 |cons b aw ih=>
  have hb:b.length=z:=hz b (by simp)
  cases j with
  |zero=>
   have:b=c:=by simpa using hc
   subst this
   simp only[List.set_cons_zero,arn,Nat.zero_mul,Nat.zero_add]
   rw[List.set_append_left _ _ (by omega)]
  |succ j=>
   have e1:(j+1)*z+off=b.length+(j*z+off):=by rw[hb,aru];omega
   simp only[List.set_cons_succ,arn,e1]
   rw[List.set_append_right _ _ (by omega),Nat.add_sub_cancel_left,ih (fun c hc=>hz c (by simp[hc])) (by simpa using hc)]
theorem bR(o:bL)(n:Nat):∃kx,∀b,b<n→o b<kx:=by
 induction n with
 |zero=>exact⟨0,fun b h=>by omega⟩
 |succ n ih=>
  obtain⟨kx,h⟩:=ih
  refine⟨kx+o n+1,fun b hb=> ?_⟩
  by_cases e:b=n
  · subst e;omega
  · have:=h b (by omega);omega
section
variable {α β:Type} [ab α] [ab β]
variable {P:Program} {Q:Exit→Act→World→Prop} {L:List (Nat×Value)} {w:World} {d:Option Tmp} {ty:TypeId} {pos:String} {af:Array Edge} {g:Option (Nat×Bool)} {t T e:TypeId} {o:bL} {k kc:Nat}
structure PD(off:Nat)(f:α→List β)(st:α→List β→α):Prop where
 prt:∀{S:Nat→Prop} {w:World} {cs:List Value} {x:α},ab.rd S w cs x→∃c1 c c2,cs=c1++c++c2∧c1.length=off∧ab.rd S w c (f x)
 set:apy off st
 two:∀x a b,st (st x a) b=st x b
theorem adJ [jU α][Flat β]{f:α→List β}{st:α→List β→α}{off:Nat}{v u vx:Value}{xs zs:List α}{y:α}{ys l':List β}{j:Int}{pa:Addr}(hF:PD off f st)(hu:P.underlying t=some (.slice e))(hT:bz P e β)
  (ho:f_ (ab.sz β) T e o k kc w v xs) (hE:zk v (ab.sz α) j pa) (hc:zl o k w (pa.add off) u) (hy:idx xs j=some y) {S:Nat→Prop} (hx:dM S w vx ys) (hz:bq (f y) ys=some l') (hs:cm xs j (st y l')=some zs) (hk:Nat.beq k kc=false):
  ∃v' w' o',(Builtin.append_ #[t,t] ty #[u,vx]).run P w= .ok v' w'∧ba [kc] [kc] o w o' w'∧o7 (ab.sz β) T e o' k kc w' v zs (pa.add off) v':=by
 have pQ:k≠kc:=fun e=>by subst e;simp at hk
 unfold idx at hy
 split at hy
 case isFalse=>cases hy
 rename_i h0
 have aK:j.toNat<xs.length:=(aq9.1 hy).1
 unfold cm at hs
 split at hs
 case isFalse=>cases hs
 cases hs
 rcases ho with⟨rfl,rfl⟩|⟨gg,cap,aL,aw,rfl,h2,h3,h4,h5,h6,h7,h8,h9,mX⟩
 · simp at aK
 obtain⟨a,m,vM,hv,rfl⟩:=hE
 have ha:a=⟨gg,0,none⟩:=by
  have:=congrArg (fun v=>match v with|Value.slice (some a) _ _=>a|_=>(⟨0,0,none⟩:Addr)) hv
  simpa using this.symm
 subst ha
 obtain⟨c,eu,gG⟩:=h7.get hy
 have dy:=h7.lK
 have cf:c.length=ab.sz α:=ab.len gG
 have dL:((⟨gg,0,none⟩:Addr).add (j.toNat*ab.sz α)).add off=⟨gg,j.toNat*ab.sz α+off,none⟩:=by
  rw[tC]
  unfold Addr.add
  split<;>simp_all
 rw[dL] at hc⊢
 obtain⟨c1,cc,c2,iW,BI,sy⟩:=hF.prt gG
 obtain⟨p0,Cc,rfl,r1,r2,r3⟩:=sy
 have uU:off<ab.sz α:=by rw[←cf,iW];simp;omega
 have aiF:c[off]? =some (.slice p0 (f y).length Cc):=by
  rw[iW,aq4,List.getElem?_append_right (by omega),BI]
  simp
 have Gf:aw.flatten[j.toNat*ab.sz α+off]? =some (.slice p0 (f y).length Cc):=Gt dy eu aiF
 have dG:=mb h7
 have hmul:(j.toNat+1)*ab.sz α≤xs.length*ab.sz α:=arl _ aK
 have ahL:xs.length*ab.sz α≤cap*ab.sz α:=arl _ h4
 rw[aru] at hmul
 generalize hq:j.toNat*ab.sz α+off=q at*
 have FJ:q<aw.flatten.length:=by omega
 have T0:q<aL.size:=by omega
 have FE:u= .slice p0 (f y).length Cc:=by
  have e1:=hc.2
  rw[cell_of_row w gg q aL T (0,0) h3] at e1
  have e2:aw.flatten[q]? =aL.toList[q]? :=by rw[←h8,arh,if_pos (by omega)]
  rw[Gf] at e2
  simp only[Array.getElem?_toList] at e2
  rw[e1] at e2
  exact(are e2).symm
 have sK:=h9 _ (art Gf)
 obtain⟨kx,BB⟩:=bR o (w.heap.size+gg+1)
 have xW:gg<w.heap.size:=(aq5.1 h3).1
 have key:∃(gs:Option Nat) (ox:bL),(∀b,ox b=if some b=gs then kx else o b)∧(∀b,gs=some b→b<w.heap.size∧o b=kc)∧Ow e ox kx [] w u (f y)∧(∀b,gs=some b→∃p,p0=some p∧p.block=b):=by
  rcases sK _ _ _ rfl with⟨e1,e2,e3⟩|⟨g',yE,e1,e2,e3,e4,e5,e6⟩
  · subst e1
    refine⟨none,o, ?_, ?_, ?_, ?_⟩
    · intro b;simp
    · intro b h;cases h
    · exact .inl ⟨by rw[FE,e2,e3],ar5 e2⟩
    · intro b h;cases h
  · subst e1
    refine⟨some g',fun b=>if some b=some g' then kx else o b, ?_, ?_,.inr ?_, ?_⟩
    · intro b;rfl
    · intro b h;cases h;exact⟨(aq5.1 e3).1,e2⟩
    rotate_left
    · intro b h;exact⟨⟨g',0,none⟩,rfl,are h⟩
    have fm:∃jK,bC (ab.rd (In (fun b=>if some b=some g' then kx else o b) []) w) jK (f y)∧yE.toList.take ((f y).length*ab.sz β)=jK.flatten:=by
     rcases r3 with r3|⟨a,jK,r4,r5,r6,r7⟩
     · rw[r3];exact⟨[],trivial,by simp⟩
     · cases r4
       refine⟨jK,r6.mono fun _ _=>Flat.any, ?_⟩
       have Ue:=mb r6
       have hle:(f y).length*ab.sz β≤Cc*ab.sz β:=arl _ e4
       apply arQ
       intro i
       by_cases hi:i<jK.flatten.length
       · have e7:jK.flatten[i]? =some jK.flatten[i]:=arx hi
         have e8:=r7 i _ e7
         have ai4:(⟨g',0,none⟩:Addr).add i=⟨g',i,none⟩:=by unfold Addr.add;split<;>simp_all
         rw[ai4,cell_of_row w g' i yE e (0,0) e3] at e8
         rw[arh,if_pos (by omega),e7]
         simpa using e8
       · rw[List.getElem?_eq_none (by simp;omega),List.getElem?_eq_none (by omega)]
    obtain⟨jK,M0,MZ⟩:=fm
    exact⟨g',Cc,yE,jK,FE,by simp,e3,r1,r2,e6,M0,MZ⟩
 obtain⟨gs,ox,T7,F0,gl,pM⟩:=key
 have hxE:dM (In ox []) w vx ys:=hx.flat
 obtain⟨v',w',o1,fb,bh,uR⟩:=RB (P:=P) (ty:=ty) hu hT gl hxE hz (by simp[gJ])
 have apQ:=bh.size
 have T6:∀b,b<w.heap.size→ox b=kx→gs=some b:=by
  intro b hb h
  rw[T7] at h
  split at h
  · rename_i h';exact h'.symm
  · have:=BB b (by omega);omega
 have u5:∀b,b<w.heap.size→gs≠some b→w'.heap[b]? =w.heap[b]? :=fun b hb bg=>bh.jP b hb fun hm=>bg (T6 b hb (by simpa using hm))
 have aiu:ba [kc] [kc] o w (grow o w kc) w':=⟨bh.os,bh.tape,bh.output,bh.size,fun b hb=>by simp[grow,hb],fun b h1 _=>by simp[grow,Nat.not_lt.2 h1],fun b hb bg=>u5 b hb fun h=>bg (by simp[(F0 b h).2])⟩
 have Ur:gs≠some gg:=fun h=>pQ (h2.symm.trans (F0 gg h).2)
 have TU:w'.heap[gg]? =some (.cells aL T (0,0)):=by rw[u5 gg xW Ur];exact h3
 have Mo:∀b,b<w'.heap.size→o1 b=kx→gs=some b∨w.heap.size≤b:=by
  intro b hb h
  by_cases aK:b<w.heap.size
  · rw[bh.dW b aK] at h
    exact .inl (T6 b aK h)
  · exact .inr (by omega)
 have lX:∀b,b<w'.heap.size→(gs=some b∨w.heap.size≤b)→grow o w kc b=kc∧b≠gg:=by
  intro b _ h
  rcases h with h|h
  · exact⟨by simp[grow,(F0 b h).1,(F0 b h).2],fun e=>Ur (e▸h)⟩
  · exact⟨by simp[grow,Nat.not_lt.2 h],by omega⟩
 have eQ:∀b,b≠gg→(w'.setRow gg (nu aL q v')).heap[b]? =w'.heap[b]? :=fun b hb=>setRow_other w' gg b _ hb
 have jn:=uR.one
 have Mn:∀i p n cc,i≠q→aw.flatten[i]? =some (.slice (some p) n cc)→gs≠some p.block:=by
  intro i p n cc kH fF MM
  obtain⟨p1,hp,h12⟩:=pM _ MM
  rw[hp] at Gf
  exact kH (mX _ _ _ _ _ _ _ _ Gf fF h12).symm
 refine⟨v',w',grow o w kc,fb,aiu,gg,q,aL,rfl,by simp[grow,xW,h2],TU,jn,T0,.inr ⟨gg,cap,nu aL q v',aw.set j.toNat (c.take off++[v']++c.drop (off+1)),by simp,by simp[grow,xW,h2],setRow_heap w' gg aL _ T _ TU,by simpa using h4,h5, ?_, ?_, ?_, ?_, ?_⟩⟩
 · simp[nu];omega
 ·
  have Bs:ab.rd (In o [kc]) w [.slice none 0 0] ([]:List β):=ab.d_ (α:=List β) _ _
  have M8:bC (ab.rd (In o [kc]) w) (aw.set j.toNat (c.take off++[.slice none 0 0]++c.drop (off+1))) (xs.set j.toNat (st y [])):=bC.set h7 j.toNat (by have:=hF.set gG Bs;simpa using this)
  have UB:=Gs dy eu uU (.slice none 0 0)
  rw[hq] at UB
  have q9:bC (ab.rd (In (grow o w kc) [kc]) (w'.setRow gg (nu aL q v'))) (aw.set j.toNat (c.take off++[.slice none 0 0]++c.drop (off+1))) (xs.set j.toNat (st y [])):=by
   refine bC.Sx (fun cs fm x hr=>ab.mono ?_ (jU.loc hr)) M8
   rintro b ⟨hb,p,n,cc,hm,rfl⟩ uX
   have sL:o p.block=kc:=by simpa[In] using hb
   have bg:gs≠some p.block:=by
    intro MM
    have Mu:Value.slice (some p) n cc∈aw.flatten.set q (.slice none 0 0):=UB▸List.mem_flatten.2 ⟨cs,fm,hm⟩
    obtain⟨i,dX,cF⟩:=List.getElem_of_mem Mu
    have fF:(aw.flatten.set q (.slice none 0 0))[i]? =some (.slice (some p) n cc):=by rw[arx dX,cF]
    by_cases kH:q=i
    · subst kH
      rw[arq,if_pos rfl,if_pos FJ] at fF
      simp at fF
    · rw[arq,if_neg kH] at fF
      exact Mn i p n cc (fun e=>kH e.symm) fF MM
   refine⟨by simp[In,grow,uX,sL], ?_⟩
   rw[eQ _ (fun e=>pQ (by rw[←h2,←e,sL])),u5 _ uX bg]
  have ap0:j.toNat<(xs.set j.toNat (st y [])).length:=by simpa using aK
  obtain⟨VM,UJ,M0⟩:=q9.get (i:=j.toNat) (x:=st y []) (by simp[aK])
  have MF:j.toNat<aw.length:=by rw[h7.length];exact aK
  have MZ:VM=c.take off++[.slice none 0 0]++c.drop (off+1):=by
   rw[arq,if_pos rfl,if_pos MF] at UJ
   exact(are UJ).symm
  have ahi:ab.rd (In (grow o w kc) [kc]) (w'.setRow gg (nu aL q v')) [v'] l':=by
   refine ab.mono ?_ (Rv.Kr uR.rv rfl)
   intro b hb uX
   have dY:o1 b=kx:=by simpa[In] using hb
   obtain⟨e1,e2⟩:=lX b uX (Mo b uX dY)
   exact⟨by simp[In,e1],eQ b e2⟩
  have iH:=bC.set q9 j.toNat (hF.set M0 ahi)
  rw[List.set_set,List.set_set,hF.two,MZ] at iH
  have e1:List.take off (c.take off++[Value.slice none 0 0]++c.drop (off+1))++[v']++List.drop (off+[v'].length) (c.take off++[Value.slice none 0 0]++c.drop (off+1))=c.take off++[v']++c.drop (off+1):=by
   rw[show off+[v'].length=off+1 from rfl,uf (l:=c) (by omega),uf (l:=c) (by omega),uf (by simp;omega),List.set_set]
  rw[e1] at iH
  exact iH
 · rw[List.length_set]
   have:=Gs dy eu uU v'
   rw[hq] at this
   rw[this]
   have pW:q<aL.toList.length:=by simpa using T0
   show(aL.toList.take q++[v']++aL.toList.drop (q+1)).take (xs.length*ab.sz α)=_
   rw[uf pW,←h8,List.take_set]
 · have:=Gs dy eu uU v'
   rw[hq] at this
   rw[this]
   intro u1 hu1 p n cc e7
   obtain⟨i,dX,cF⟩:=List.getElem_of_mem hu1
   have fF:(aw.flatten.set q v')[i]? =some u1:=by rw[arx dX,cF]
   by_cases kH:q=i
   case neg=>
    rw[arq,if_neg kH] at fF
    rcases h9 u1 (art fF) p n cc e7 with h|⟨g1,GS,i1,i2,i3,i4⟩
    · exact .inl h
    · subst i1
      rw[e7] at fF
      have bg:=Mn i _ _ _ (fun e=>kH e.symm) fF
      have BF:=(aq5.1 i3).1
      exact .inr ⟨g1,GS,rfl,by simp[grow,BF,i2],by rw[eQ g1 (fun e=>pQ (by rw[←h2,←e,i2])),u5 g1 BF bg];exact i3,i4⟩
   case pos=>
    subst kH
    rw[arq,if_pos rfl,if_pos FJ] at fF
    obtain rfl:=are fF
    rcases uR with⟨hn,_⟩|⟨g1,alx,GS,ak7,i1,i2,i3,i4,i5,i6,i7,i8⟩
    · rw[hn] at e7;cases e7;exact .inl ⟨rfl,rfl,rfl⟩
    · rw[i1] at e7
      cases e7
      have BF:=(aq5.1 i3).1
      obtain⟨e1,e2⟩:=lX g1 BF (Mo g1 BF i2)
      exact .inr ⟨g1,GS,rfl,e1,by rw[eQ g1 e2];exact i3,i4,i5,i6⟩
 · have:=Gs dy eu uU v'
   rw[hq] at this
   rw[this]
   have TL:∀i p n cc,i≠q→aw.flatten[i]? =some (.slice (some p) n cc)→∀p' n' c',v'= .slice (some p') n' c'→p.block≠p'.block:=by
    intro i p n cc kH hi p' n' c' e7 Bp
    have bg:=Mn i p n cc kH hi
    rcases h9 _ (art hi) p n cc rfl with⟨e1,_⟩|⟨g2,aqn,e1,e2,e3,_⟩
    · cases e1
    · cases e1
      have hg2:=(aq5.1 e3).1
      rcases uR with⟨hn,_⟩|⟨g1,alx,GS,ak7,i1,i2,i3,_⟩
      · rw[hn] at e7;cases e7
      · rw[i1] at e7
        cases e7
        have ahy:g2=g1:=Bp
        subst ahy
        rcases Mo g2 (aq5.1 i3).1 i2 with h|h
        · exact bg h
        · omega
   intro i j' p p' n n' c' d' hi hj Bp
   by_cases kH:q=i
   · by_cases BE:q=j'
     · omega
     · subst kH
       rw[arq,if_neg BE] at hj
       rw[arq,if_pos rfl,if_pos FJ] at hi
       exact(TL j' _ _ _ (fun e=>BE e.symm) hj _ _ _ (are hi) Bp.symm).elim
   · by_cases BE:q=j'
     · subst BE
       rw[arq,if_neg kH] at hi
       rw[arq,if_pos rfl,if_pos FJ] at hj
       exact(TL i _ _ _ (fun e=>kH e.symm) hi _ _ _ (are hj) Bp).elim
     · rw[arq,if_neg kH] at hi
       rw[arq,if_neg BE] at hj
       exact mX _ _ _ _ _ _ _ _ hi hj Bp
end
theorem f_.mono{α:Type}[ab α]{z:Nat}{T Tc:TypeId}{o o':bL}{k kc k' xB:Nat}{w w':World}{v:Value}{xs:List α}(hk:∀b,b<w.heap.size→o b=k→o' b=k'∧w'.heap[b]? =w.heap[b]?)(hc:∀b,b<w.heap.size→o b=kc→o' b=xB∧w'.heap[b]? =w.heap[b]?)(h:f_ z T Tc o k kc w v xs):f_ z T Tc o' k' xB w' v xs:=by
 rcases h with h|⟨g,cap,aL,aw,h1,h2,h3,h4,h5,h6,h7,h8,h9,mX⟩
 · exact .inl h
 · obtain⟨e1,e2⟩:=hk g (aq5.1 h3).1 h2
   refine .inr ⟨g,cap,aL,aw,h1,e1,by rw[e2];exact h3,h4,h5,h6,h7.mono fun _ _=>ab.mono fun b hb aK=> ?_,h8,fun u hu p n c e=> ?_,mX⟩
   · have hb:o b=kc:=by simpa[In] using hb
     obtain⟨f1,f2⟩:=hc b aK hb
     exact⟨by simp[In,f1],f2⟩
   · rcases h9 u hu p n c e with h|⟨g',yE,i1,i2,i3,i4⟩
     · exact .inl h
     · obtain⟨f1,f2⟩:=hc g' (aq5.1 i3).1 i2
       exact .inr ⟨g',yE,i1,f1,by rw[f2];exact i3,i4⟩
theorem o7.mono{α:Type}[ab α]{z:Nat}{T Tc:TypeId}{o o':bL}{k kc k' xB:Nat}{w w':World}{v u:Value}{xs:List α}{pq:Addr}(hk:∀b,b<w.heap.size→o b=k→o' b=k'∧w'.heap[b]? =w.heap[b]?)(hc:∀b,b<w.heap.size→o b=kc→o' b=xB∧w'.heap[b]? =w.heap[b]?)(h:o7 z T Tc o k kc w v xs pq u):o7 z T Tc o' k' xB w' v xs pq u:=by
 obtain⟨g,q,aL,h1,h2,h3,h4,h5,h6⟩:=h
 obtain⟨e1,e2⟩:=hk g (aq5.1 h3).1 h2
 have yc:w'.heap[g]? =some (.cells aL T (0,0)):=by rw[e2];exact h3
 have key:∀{c c':Nat},(∀b,b<w.heap.size→o b=c→o' b=c'∧w'.heap[b]? =w.heap[b]?)→∀b,b<(w.setRow g (nu aL q u)).heap.size→o b=c→o' b=c'∧(w'.setRow g (nu aL q u)).heap[b]? =(w.setRow g (nu aL q u)).heap[b]? :=by
  intro c c' h b hb hoc
  obtain⟨f1,f2⟩:=h b (by simpa using hb) hoc
  refine⟨f1, ?_⟩
  by_cases vo:b=g
  · subst vo
    rw[setRow_heap w b aL _ T (0,0) h3,setRow_heap w' b aL _ T (0,0) yc]
  · rw[setRow_other w' g b _ vo,setRow_other w g b _ vo]
    exact f2
 exact⟨g,q,aL,h1,e1,yc,h4,h5,h6.mono (key hk) (key hc)⟩
section
variable {α β:Type} [ab α] [ab β]
variable {P:Program} {Q:Exit→Act→World→Prop} {L:List (Nat×Value)} {w:World} {d:Option Tmp} {ty:TypeId} {pos:String} {af:Array Edge} {g:Option (Nat×Bool)} {t T e Tc:TypeId} {o:bL} {k kc z:Nat} {K:List Nat}
theorem OW.ao' [Rd][jU α][Flat β]{s x:Operand}{f:α→List β}{st:α→List β→α}{off:Nat}{v u vx:Value}{xs zs:List α}{y:α}{ys l':List β}{j:Int}{pa:Addr}{S:Nat→Prop}(hF:PD off f st)(hu:P.underlying t=some (.slice e))(hT:bz P e β)(hs:ev L s=some u)(hx:ev L x=some vx)
  (ho:f_ (ab.sz β) T e o k kc w v xs) (hE:zk v (ab.sz α) j pa) (hc:zl o k w (pa.add off) u) (hy:idx xs j=some y) (hr:dM S w vx ys) (hz:bq (f y) ys=some l') (kD:cm xs j (st y l')=some zs) (hk:Nat.beq k kc=false):
  OW P Q L ⟨d,.call {callee:= .builtin .append,args:= #[s,x],argTypes:= #[t,t]},ty,pos,af,g⟩ w (fun v' w'=>∃o',ba [kc] [kc] o w o' w'∧o7 (ab.sz β) T e o' k kc w' v zs (pa.add off) v'):=by
 obtain⟨v',w',o',h1,h2,h3⟩:=adJ (P:=P) (ty:=ty) hF hu hT ho hE hc hy hr hz kD hk
 refine OW.run fun a ha=>⟨v',w', ?_,o',h2,h3⟩
 simp[execOp,resolve,invoke,builtin,ha _ _ hs,ha _ _ hx,h1]
def IF(l:List Value):Bool:=l.all fun u=>match u with
 | .slice none 0 0=>true
 | .slice _ _ _=>false
 |_=>true
theorem PQ{l:List Value}(h:IF l=true){p:Option Addr}{n c:Nat}(hm:Value.slice p n c∈l):p=none∧n=0∧c=0:=by
 have:=List.all_eq_true.1 h _ hm
 match p,n,c,this with
 |none,0,0,_=>exact⟨rfl,rfl,rfl⟩
theorem OW.afu [Rd]{u1 u2:Operand}{zs:List α}{m:Int}(kc z:Nat)(Tc:TypeId)(oD:IF (ab.zc α)=true)(hu:P.underlying t=some (.slice e))(hT:bz P e α)(h1:ev L u1=some (.int .i64 m))(h2:ev L u2=some (.int .i64 m))(hm:rZ α m=some zs):
  OW P Q L ⟨d,.makeSlice t u1 u2,ty,pos,af,g⟩ w (fun v' w'=>∃o',ba [] [k] o w o' w'∧f_ z e Tc o' k kc w' v' zs):=by
 unfold rZ at hm
 split at hm
 case isFalse=>cases hm
 rename_i hb
 cases hm
 obtain⟨i,dX,cF,fF,jo⟩:=hT.jD
 have hr:=run_make (P:=P) w t e i _ hu dX jo .i64 .i64 m m hb.1 (by omega) (by
  have h:(i.bytes:Int)≤65536:=by omega
  have h':(i.bytes:Int)*m≤65536*1073741824:=Int.mul_le_mul h hb.2 hb.1 (by omega)
  omega) (by omega)
 have UA:∀q:Nat,∀u∈(aqS q (ab.zc α)).flatten,u∈ab.zc α:=by
  intro q u hu
  obtain⟨l,hl,Bi⟩:=List.mem_flatten.1 hu
  rw[List.mem_replicate] at hl
  exact hl.2▸Bi
 refine OW.run fun a ha=>⟨.slice (some ⟨w.heap.size,0,none⟩) m.toNat m.toNat,w.alloc (.cells (madeCells (pack (ab.agg α) (ab.zc α)).cells (m.toNat*i.size)) e), ?_,_,ba.alloc o w _ k,.inr ⟨w.heap.size,m.toNat,_,aqS m.toNat (ab.zc α), ?_,nM o w k _ (aqM _),heap_alloc_new w _,by simp, ?_, ?_, ?_, ?_, ?_, ?_⟩⟩
 · simp[execOp,ha _ _ h1,ha _ _ h2,hr]
 · simp
 · unfold maxLen;omega
 · simp[size_madeCells,cF]
 · exact bC.replicate (ab.d_ _ _) _
 · have hz:(pack (ab.agg α) (ab.zc α)).cells.toList=ab.zc α:=qF (α:=α) (ab.d_ (fun _=>True) w)
   have eP:(ab.zc α).length=ab.sz α:=ab.len (ab.d_ (α:=α) (fun _=>True) w)
   have nE:=ab.pos (α:=α)
   generalize Tz:(pack (ab.agg α) (ab.zc α)).cells=z at*
   rw[cF]
   rw[List.length_replicate,arY (by simp[size_madeCells])]
   unfold madeCells
   have eI:z.size=ab.sz α:=by rw[←arE,hz,eP]
   have key:∀q:Nat,(aqN (q*ab.sz α)).map (z[·% z.size]!)=(aqS q (ab.zc α)).flatten:=by
    intro q
    induction q with
    |zero=>simp
    |succ q ih=>
     rw[List.replicate_succ',aro,←ih,aru,List.range_add,arI]
     congr 1
     simp only[List.map_map,List.flatten_singleton]
     rw[←hz]
     apply arQ
     intro j
     by_cases hj:j<ab.sz α
     · have e1:(q*ab.sz α+j)% z.size=j:=by rw[eI,Nat.mul_comm,Nat.mul_add_mod,Nat.mod_eq_of_lt hj]
       have et:j<z.size:=by omega
       simp[hj,e1,et,getElem!_pos]
     · simp[hj,eI]
   simpa using key m.toNat
 · intro u hu p n c e
   subst e
   exact .inl (PQ oD (UA _ _ hu))
 · intro i j p q n m c d hi _ _
   have:=PQ oD (UA _ _ (art hi))
   cases this.1
theorem OW.Ty [Rd]{v:Value}{xs:List α}{y:α}{u i:Operand}{q:IntKind}{j:Int}{a:Addr}{cap:Nat}(hu:P.underlying t=some (.slice e))(hT:bz P e α)(hx:ev L u=some v)(h:v= .slice (some a) xs.length cap)
  (hi:ev L i=some (.int q j)) (hj:idx xs j=some y):
  OW P Q L ⟨d,.indexAddr t u i,ty,pos,af,g⟩ w (fun v' w'=>w'=w∧v'= .pointer (some (a.add (j.toNat*ab.sz α)))):=by
 subst h
 unfold idx at hj
 split at hj
 · rename_i h0
   have aK:j.toNat<xs.length:=(aq9.1 hj).1
   refine OW.run fun b hb=>⟨_,w, ?_,rfl,rfl⟩
   have bW:j<(xs.length:Int):=by omega
   have e1:b.eval u=_:=hb _ _ hx
   have e2:b.eval i=_:=hb _ _ hi
   simp[execOp,e1,e2,Instr.indexAt,asIntOf,run_underlying hu,h0,bW,hT.sizeOf]
 · cases hj
theorem OW.uB [Rd]{o:Operand}{p:Option Addr}{n cap:Nat}(hu:P.underlying t=some (.slice e))(hx:ev L o=some (.slice p n cap)):
  OW P Q L ⟨d,.call {callee:= .builtin .len,args:= #[o],argTypes:= #[t]},ty,pos,af,g⟩ w (fun v' w'=>v'= .int .i64 n∧w'=w):=by
 refine OW.run fun a ha=>⟨_,w, ?_,rfl,rfl⟩
 simp[execOp,resolve,invoke,builtin,ha _ _ hx,Builtin.len_,run_underlying hu,goInt]
def It(v v':Value)(j:Nat):Prop:=∃p n c,v= .slice p n c∧v'= .slice p j c∧j≤n
def CY(z:Nat)(v v':Value)(j:Nat):Prop:=∃p n c,v= .slice p n c∧v'= .slice (if c=j then p else p.map (·.add (j*z))) (n-j) (c-j)∧j≤n
theorem V3(z:Array Value)(hp:0<z.size):∀q:Nat,(aqN (q*z.size)).map (z[·% z.size]!)=(aqS q z.toList).flatten:=by
 intro q
 induction q with
 |zero=>simp
 |succ q ih=>
  rw[List.replicate_succ',aro,←ih,aru,List.range_add,arI]
  congr 1
  simp only[List.map_map,List.flatten_singleton]
  apply arQ
  intro j
  by_cases hj:j<z.size
  · have e1:(q*z.size+j)% z.size=j:=by rw[Nat.mul_comm,Nat.mul_add_mod,Nat.mod_eq_of_lt hj]
    simp[hj,e1,getElem!_pos]
  · simp[hj]
theorem OW.alp [Rd]{u:Operand}{v v':Value}{j:Nat}{xs:List α}(hu:P.underlying t=some (.slice e))(hT:bz P e α)(hx:ev L u=some v')(ho:Ow T o k K w v xs)(ht:CY (ab.sz α) v v' j)(hd:gJ K [k]=true):
  OW P Q L ⟨d,.call {callee:= .builtin .clear,args:= #[u],argTypes:= #[t]},ty,pos,af,g⟩ w (fun v0 w'=>v0= .tuple #[]∧ba [k] [] o w o w'∧Ow T o k K w' v (xs.take j++aqS (xs.length-j) ab.zero)):=by
 obtain⟨p,m,c,h1,rfl,hj⟩:=ht
 by_cases he:m-j=0
 · have hm:m=xs.length:=by
    rcases ho with⟨rfl,rfl⟩|⟨gg,cap,aL,aw,rfl,_⟩
    · cases h1;rfl
    · cases h1;rfl
   have dj:xs.take j++aqS (xs.length-j) ab.zero=xs:=by
    rw[show xs.length-j=0 from by omega,List.replicate_zero,List.append_nil,arY (by omega)]
   rw[dj]
   refine OW.run fun a ha=>⟨.tuple #[],w, ?_,rfl,ba.refl _ _ _ _,ho⟩
   have e0:(Builtin.clear_ #[t] ty #[Value.slice (if c=j then p else p.map (·.add (j*ab.sz α))) (m-j) (c-j)]).run P w= .ok (.tuple #[]) w:=by
    rw[he]
    cases(if c=j then p else p.map (·.add (j*ab.sz α)))<;>simp[Builtin.clear_,run_underlying hu]
   simp[execOp,resolve,invoke,builtin,ha _ _ hx,e0]
 · rcases ho with⟨rfl,rfl⟩|⟨gg,cap,aL,aw,rfl,h2,h3,h4,h5,h6,h7,h8⟩
   · cases h1;omega
   · cases h1
     obtain⟨i,dX,cF,fF,jo⟩:=hT.jD
     have BJ:¬c=j:=by omega
     have dL:(⟨gg,0,none⟩:Addr).add (j*ab.sz α)=⟨gg,j*ab.sz α,none⟩:=by unfold Addr.add;split<;>simp_all
     have hz:(pack (ab.agg α) (ab.zc α)).cells.toList=ab.zc α:=qF (α:=α) (ab.d_ (fun _=>True) w)
     have eP:(ab.zc α).length=ab.sz α:=ab.len (ab.d_ (α:=α) (fun _=>True) w)
     have eI:(pack (ab.agg α) (ab.zc α)).cells.size=ab.sz α:=by rw[←arE,hz,eP]
     have oD:(Builtin.zeroCells (pack (ab.agg α) (ab.zc α)).cells (xs.length-j)).toList=(aqS (xs.length-j) (ab.zc α)).flatten:=by
      have:=V3 (pack (ab.agg α) (ab.zc α)).cells (by rw[eI];exact ab.pos) (xs.length-j)
      rw[hz] at this
      rw[←this]
      simp[Builtin.zeroCells]
     have dG:=mb h7
     have hmul:xs.length*ab.sz α≤c*ab.sz α:=arl _ h4
     have Bl:(xs.length-j)*ab.sz α=xs.length*ab.sz α-j*ab.sz α:=Nat.sub_mul _ _ _
     have hjm:j*ab.sz α≤xs.length*ab.sz α:=arl _ hj
     have iT:(aqS (xs.length-j) (ab.zc α)).flatten.length=(xs.length-j)*ab.sz α:=by simp[eP]
     have jn:∀u∈(aqS (xs.length-j) (ab.zc α)).flatten,u.oneCell'=true:=by
      intro u hu
      obtain⟨l,hl,Bi⟩:=List.mem_flatten.1 hu
      rw[List.mem_replicate] at hl
      exact ab.one (ab.d_ (α:=α) (fun _=>True) w) u (hl.2▸Bi)
     have bD:=run_storeCells_at P gg (j*ab.sz α) T (aqS (xs.length-j) (ab.zc α)).flatten 0 aL w h3 (by omega) jn
     simp only[Nat.add_zero] at bD
     have bh:ba [k] [] o w o (w.setRow gg (aL.toList.take (j*ab.sz α)++(aqS (xs.length-j) (ab.zc α)).flatten++aL.toList.drop (j*ab.sz α+(aqS (xs.length-j) (ab.zc α)).flatten.length)).toArray):=ba.row _ h2
     have hlen:(xs.take j++aqS (xs.length-j) (ab.zero:α)).length=xs.length:=by simp;omega
     refine OW.run fun a ha=>⟨.tuple #[],_, ?_,rfl,bh,.inr ⟨gg,c,_,aw.take j++aqS (xs.length-j) (ab.zc α),by rw[hlen],h2,setRow_heap w gg aL _ T _ h3,by rw[hlen];exact h4,h5, ?_, ?_, ?_⟩⟩
     · have e0:(Builtin.clear_ #[t] ty #[Value.slice (some ⟨gg,j*ab.sz α,none⟩) (xs.length-j) (c-j)]).run P w= .ok (.tuple #[]) (w.setRow gg (aL.toList.take (j*ab.sz α)++(aqS (xs.length-j) (ab.zc α)).flatten++aL.toList.drop (j*ab.sz α+(aqS (xs.length-j) (ab.zc α)).flatten.length)).toArray):=by
        obtain⟨q,hq⟩:∃q,xs.length-j=q+1:=⟨xs.length-j-1,by omega⟩
        rw[hq] at bD oD⊢
        simp[Builtin.clear_,run_underlying hu,hT.zero,oD,bD]
       simp[execOp,resolve,invoke,builtin,ha _ _ hx,BJ,dL,e0]
     · simp[eP]
       omega
     · exact bC.append ((h7.take j).mono fun _ _=>ab.mono (bh.ro hd)) (bC.replicate (ab.d_ _ _) _)
     · rw[hlen,aro,vA h7.lK,←h8,List.take_take,Nat.min_eq_left hjm]
       show(aL.toList.take (j*ab.sz α)++(aqS (xs.length-j) (ab.zc α)).flatten++aL.toList.drop _).take _=_
       rw[List.take_append_of_le_length (by simp[eP];omega),arY (by simp[eP];omega)]
theorem OW.ak' [Rd]{x y:Operand}{v v' u:Value}{j:Nat}{xs ys:List α}(hu:P.underlying t=some (.slice e))(hT:bz P e α)(hx:ev L x=some v')(hy:ev L y=some u)(ho:Ow T o k K w v xs)(ht:CY (ab.sz α) v v' j)(hr:dM (In o K) w u ys)(hd:gJ K [k]=true):
  OW P Q L ⟨d,.call {callee:= .builtin .copy,args:= #[x,y],argTypes:= #[t,t]},ty,pos,af,g⟩ w (fun v0 w'=>v0= .int .i64 ((Min.min ys.length (xs.length-j):Nat):Int)∧ba [k] [] o w o w'∧Ow T o k K w' v (xs.take j++(ys.take (xs.length-j)++xs.drop (j+ys.length)))):=by
 obtain⟨p,m,c,h1,rfl,hj⟩:=ht
 obtain⟨q,cy,rfl,nD⟩:=hr
 have hm:m=xs.length:=by
  rcases ho with⟨rfl,rfl⟩|⟨gg,cap,aL,aw,rfl,_⟩
  · cases h1;rfl
  · cases h1;rfl
 subst hm
 obtain⟨i,dX,cF,fF,jo⟩:=hT.jD
 by_cases he:Min.min ys.length (xs.length-j)=0
 · have dj:xs.take j++(ys.take (xs.length-j)++xs.drop (j+ys.length))=xs:=by
    rcases Nat.eq_zero_or_pos ys.length with h0|h0
    · have:ys=[]:=ar5 h0
      subst this
      simp
    · rw[show xs.length-j=0 from by omega,List.take_zero,List.nil_append,aso (by omega),List.append_nil,arY (by omega)]
   rw[dj,he]
   refine OW.run fun a ha=>⟨_,w, ?_,rfl,ba.refl _ _ _ _,ho⟩
   have sE:Nat.min ys.length (xs.length-j)=0:=he
   have e0:(Builtin.copy_ #[t,t] ty #[Value.slice (if c=j then p else p.map (·.add (j*ab.sz α))) (xs.length-j) (c-j),Value.slice q ys.length cy]).run P w= .ok (.int .i64 0) w:=by
    cases(if c=j then p else p.map (·.add (j*ab.sz α)))<;>cases q<;>simp[Builtin.copy_,run_underlying hu,sizeOf,typeInfo,dX,Builtin.lenOf,Builtin.firstCells,loadCells,loadCellsFrom,storeCells,sE,goInt]
   simp[execOp,resolve,invoke,builtin,ha _ _ hx,ha _ _ hy,e0]
 · rcases ho with⟨rfl,rfl⟩|⟨gg,cap,aL,aw,rfl,h2,h3,h4,h5,h6,h7,h8⟩
   · simp at he
   · cases h1
     rcases nD with rfl|⟨a,nR,rfl,mN,k_⟩
     · simp at he
     obtain⟨n,hn⟩:∃n,n=Min.min ys.length (xs.length-j):=⟨_,rfl⟩
     have BJ:¬c=j:=by omega
     have dL:(⟨gg,0,none⟩:Addr).add (j*ab.sz α)=⟨gg,j*ab.sz α,none⟩:=by unfold Addr.add;split<;>simp_all
     have dG:=mb h7
     have xL:(nR.take n).flatten=nR.flatten.take (n*ab.sz α):=vA mN.lK n
     have hfy:=mb mN
     have hny:n*ab.sz α≤ys.length*ab.sz α:=arl _ (by omega)
     have sC:(j+n)*ab.sz α≤xs.length*ab.sz α:=arl _ (by omega)
     have hmul:xs.length*ab.sz α≤c*ab.sz α:=arl _ h4
     rw[aq_] at sC
     have hlen:(nR.take n).flatten.length=n*ab.sz α:=by rw[xL,List.length_take];omega
     have jn:∀u∈(nR.take n).flatten,u.oneCell'=true:=fun u hu=>by
      rw[xL] at hu
      exact uq mN u (List.mem_of_mem_take hu)
     have hf:=run_firstCells_some (P:=P) w i.size n a ys.length cy (nR.take n).flatten (by rw[hlen,cF]) (fun z u hz=>k_ z u (by
      rw[xL,arh] at hz
      split at hz
      · exact hz
      · cases hz))
     have bD:=run_storeCells_at P gg (j*ab.sz α) T (nR.take n).flatten 0 aL w h3 (by omega) jn
     simp only[Nat.add_zero] at bD
     have bh:ba [k] [] o w o (w.setRow gg (aL.toList.take (j*ab.sz α)++(nR.take n).flatten++aL.toList.drop (j*ab.sz α+(nR.take n).flatten.length)).toArray):=ba.row _ h2
     have e1:xs.take j++(ys.take (xs.length-j)++xs.drop (j+ys.length))=xs.take j++(ys.take n++xs.drop (j+n)):=by
      congr 1
      rcases Nat.le_total ys.length (xs.length-j) with hle|hle
      · rw[show n=ys.length by omega,arY hle,arY (aqM _)]
      · rw[show n=xs.length-j by omega,aso (by omega),aso (by omega)]
     have uY:(xs.take j++(ys.take n++xs.drop (j+n))).length=xs.length:=by simp;omega
     rw[e1,←hn]
     refine OW.run fun a' ha=>⟨goInt n,_, ?_,rfl,bh,.inr ⟨gg,c,_,aw.take j++(nR.take n++aw.drop (j+n)),by rw[uY],h2,setRow_heap w gg aL _ T _ h3,by rw[uY];exact h4,h5, ?_, ?_, ?_⟩⟩
     · have sE:Nat.min ys.length (xs.length-j)=n:=hn.symm
       simp[execOp,resolve,invoke,builtin,ha _ _ hx,ha _ _ hy,Builtin.copy_,run_underlying hu,sizeOf,typeInfo,dX,Builtin.lenOf,sE,BJ,dL,hf,bD]
     · simp[hlen]
       omega
     · exact bC.append ((h7.take j).mono fun _ _=>ab.mono (bh.ro hd)) (bC.append ((mN.take n).mono fun _ _=>ab.mono (bh.ro hd)) ((h7.drop (j+n)).mono fun _ _=>ab.mono (bh.ro hd)))
     · rw[uY,aro,aro,vA h7.lK,BW h7.lK]
       have:=Q5 (A:=aL.toList) (c:=(nR.take n).flatten) (m:=j*ab.sz α) (N:=xs.length*ab.sz α) (by rw[hlen];omega) (by have hcu:aL.toList.length=aL.size:=arE;omega)
       show(aL.toList.take (j*ab.sz α)++(nR.take n).flatten++aL.toList.drop (j*ab.sz α+(nR.take n).flatten.length)).take _=_
       rw[this,h8,hlen,←aq_,aq4]
end
end Dp
end Go.Proofs.YtncbfgppjfcijaaGreat
