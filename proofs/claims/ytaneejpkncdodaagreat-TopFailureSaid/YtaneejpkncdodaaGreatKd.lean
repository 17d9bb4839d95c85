import Derived.Test.YtaneejpkncdodaaGreatDv
set_option linter.unusedVariables false
set_option linter.unusedSimpArgs false
namespace Go.Proofs.YtaneejpkncdodaaGreat
open Go Go.RowKit
namespace Dp
class jK(α:Type)[ad α]:Prop where
 loc:∀{S:Nat→Prop} {w:World} {cs:List Value} {x:α},ad.rd S w cs x→ad.rd (fun b=>S b∧∃p n c,Value.slice (some p) n c∈cs∧p.block=b) w cs x
instance:jK Int:=⟨fun h=>h⟩
instance:jK Bool:=⟨fun h=>h⟩
instance:jK ByteArray:=⟨fun h=>h⟩
instance:jK U8:=⟨fun h=>h⟩
instance{β:Type}[ad β][Flat β]:jK (List β):=⟨by
 rintro S w cs x ⟨p,cap,rfl,h1,h2,h3⟩
 refine⟨p,cap,rfl,h1,h2, ?_⟩
 rcases h3 with h3|⟨a,aw,rfl,h4,h5,h6⟩
 · exact .inl h3
 · exact .inr ⟨a,aw,rfl,⟨h4,a,x.length,cap,by simp,rfl⟩,h5.mono fun _ _=>Flat.any,h6⟩⟩
instance{α β:Type}[ad α][ad β][jK α][jK β]:jK (α×β):=⟨by
 rintro S w cs x ⟨c1,c2,rfl,h1,h2⟩
 refine⟨c1,c2,rfl,ad.mono ?_ (jK.loc h1),ad.mono ?_ (jK.loc h2)⟩
 · rintro b ⟨hb,p,n,c,hm,e⟩ _
   exact⟨⟨hb,p,n,c,List.mem_append_left _ hm,e⟩,rfl⟩
 · rintro b ⟨hb,p,n,c,hm,e⟩ _
   exact⟨⟨hb,p,n,c,List.mem_append_right _ hm,e⟩,rfl⟩⟩
def HV(z:Nat)(Tc:TypeId)(o:bF)(kc:Nat)(w:World)(u:Value):Prop:=
 ∀p n c,u= .slice p n c→(p=none∧n=0∧c=0)∨∃g aO,p=some ⟨g,0,none⟩∧o g=kc∧w.heap[g]? =some (.cells aO Tc (0,0))∧n≤c∧c≤maxLen∧aO.size=c*z
def Dst(l:List Value):Prop:=∀(i j:Nat) (p q:Addr) (n m c d:Nat),l[i]? =some (.slice (some p) n c)→l[j]? =some (.slice (some q) m d)→p.block=q.block→i=j
def fX{α:Type}[ad α](z:Nat)(T Tc:TypeId)(o:bF)(k kc:Nat)(w:World)(v:Value)(xs:List α):Prop:=
 (v= .slice none 0 0∧xs=[])∨
 ∃g cap aO aw,v= .slice (some ⟨g,0,none⟩) xs.length cap∧o g=k∧w.heap[g]? =some (.cells aO T (0,0))∧xs.length≤cap∧cap≤maxLen∧aO.size=cap*ad.sz α∧
  bz (ad.rd (In o [kc]) w) aw xs∧aO.toList.take (xs.length*ad.sz α)=aw.flatten∧(∀u∈aw.flatten,HV z Tc o kc w u)∧Dst aw.flatten
section
variable {α β:Type} [ad α] [ad β] {z:Nat} {T Tc:TypeId} {o o':bF} {k kc k' xk:Nat} {w w':World} {v u:Value} {xs:List α} {M N:List Nat}
theorem fX.ow(h:fX z T Tc o k kc w v xs):Ow T o k [kc] w v xs:=by
 rcases h with h|⟨g,cap,aO,aw,h1,h2,h3,h4,h5,h6,h7,h8,_⟩
 · exact .inl h
 · exact .inr ⟨g,cap,aO,aw,h1,h2,h3,h4,h5,h6,h7,h8⟩
theorem fX.rv(h:fX z T Tc o k kc w v xs):Rv (In o [k,kc]) w v xs:=h.ow.rv
theorem fX.nil(z:Nat)(T Tc:TypeId)(o:bF)(k kc:Nat)(w:World):fX z T Tc o k kc w (.slice none 0 0) ([]:List α):= .inl ⟨rfl,rfl⟩
theorem fX.one(h:fX z T Tc o k kc w v xs):v.oneCell'=true:=h.ow.one
theorem HV.nF(h:HV z Tc o kc w u)(ev:ba M N o w o' w')(hd:gD [kc] M=true):HV z Tc o' kc w' u:=by
 intro p n c e
 rcases h p n c e with h|⟨g,aO,h1,h2,h3,h4⟩
 · exact .inl h
 · have aQ:g<w.heap.size:=(Array.getElem?_eq_some_iff.1 h3).1
   exact .inr ⟨g,aO,h1,by rw[ev.dO g aQ];exact h2,by rw[ev.jE g aQ (BS hd (by rw[h2];exact List.mem_cons_self))];exact h3,h4⟩
theorem fX.nF(h:fX z T Tc o k kc w v xs)(ev:ba M N o w o' w')(hd:gD [k,kc] M=true):fX z T Tc o' k kc w' v xs:=by
 have Tk:gD [kc] M=true:=by simp only[gD,List.all_cons,Bool.and_eq_true] at hd⊢;exact⟨hd.2.1,rfl⟩
 rcases h with h|⟨g,cap,aO,aw,h1,h2,h3,h4,h5,h6,h7,h8,h9,sy⟩
 · exact .inl h
 · have aQ:g<w.heap.size:=(Array.getElem?_eq_some_iff.1 h3).1
   exact .inr ⟨g,cap,aO,aw,h1,by rw[ev.dO _ aQ];exact h2,by rw[ev.jE _ aQ (BS hd (by rw[h2];exact List.mem_cons_self))];exact h3,h4,h5,h6,h7.mono fun _ _=>ad.mono (ev.ro Tk),h8,fun u hu=>(h9 u hu).nF ev Tk,sy⟩
def yU(o:bF)(k:Nat)(w:World)(pa:Addr)(u:Value):Prop:=o pa.block=k∧w.cell? pa=some u
theorem yU.nF{pa:Addr}(h:yU o k w pa u)(ev:ba M N o w o' w')(hd:gD [k] M=true):yU o' k w' pa u:=by
 have aQ:=World.block_lt_of_cell? w pa h.2
 have be:o pa.block∉M:=BS hd (by rw[h.1];exact List.mem_cons_self)
 refine⟨by rw[ev.dO _ aQ];exact h.1, ?_⟩
 rw[←h.2]
 exact World.cell?_of_block (ev.jE _ aQ be)
def nj(aO:Array Value)(q:Nat)(v':Value):Array Value:=(aO.toList.take q++[v']++aO.toList.drop (q+1)).toArray
def oV(z:Nat)(T Tc:TypeId)(o:bF)(k kc:Nat)(w:World)(v:Value)(xs:List α)(pq:Addr)(v':Value):Prop:=
 ∃g q aO,pq=⟨g,q,none⟩∧o g=k∧w.heap[g]? =some (.cells aO T (0,0))∧v'.oneCell'=true∧q<aO.size∧fX z T Tc o k kc (w.setRow g (nj aO q v')) v xs
theorem ba.both{g:Nat}{X aO:Array Value}{T:TypeId}(ev:ba M N o w o' w')(hg:w.heap[g]? =some (.cells aO T (0,0)))(he:w'.heap[g]? =w.heap[g]?):ba M N o (w.setRow g X) o' (w'.setRow g X):=by
 refine⟨ev.os,ev.tape,ev.output,by simpa using ev.size,fun b hb=>ev.dO b (by simpa using hb),fun b h1 h2=>ev.new b (by simpa using h1) (by simpa using h2),fun b hb be=> ?_⟩
 have dS:b<w.heap.size:=by simpa using hb
 by_cases uQ:b=g
 · subst uQ
   rw[setRow_heap w b aO X T (0,0) hg,setRow_heap w' b aO X T (0,0) (by rw[he];exact hg)]
 · rw[setRow_other w' g b X uQ,setRow_other w g b X uQ]
   exact ev.jE b dS be
theorem oV.nF{pq:Addr}(h:oV z T Tc o k kc w v xs pq u)(ev:ba M N o w o' w')(hd:gD [k,kc] M=true):oV z T Tc o' k kc w' v xs pq u:=by
 obtain⟨g,q,aO,h1,h2,h3,h4,h5,h6⟩:=h
 have aQ:g<w.heap.size:=(Array.getElem?_eq_some_iff.1 h3).1
 have he:=ev.jE _ aQ (BS hd (by rw[h2];exact List.mem_cons_self))
 exact⟨g,q,aO,h1,by rw[ev.dO _ aQ];exact h2,by rw[he];exact h3,h4,h5,h6.nF (ev.both h3 he) hd⟩
end
theorem bz.Q1{α:Type}{R R':List Value→α→Prop}:∀{cs:List (List Value)} {xs:List α},(∀c∈cs,∀x,R c x→R' c x)→bz R cs xs→bz R' cs xs
 |[],[],_,_=>trivial
 |_::_,_::_,hr,h=>⟨hr _ (by simp) _ h.1,bz.Q1 (fun c hc=>hr c (by simp[hc])) h.2⟩
 |[],_::_,_,h=>h.elim
 |_::_,[],_,h=>h.elim
theorem tI{α:Type}{l:List α}{q:Nat}{x:α}(h:q<l.length):l.take q++[x]++l.drop (q+1)=l.set q x:=by
 rw[List.set_eq_take_append_cons_drop,if_pos h]
 simp
theorem F1{z:Nat}{aw:List (List Value)}(hz:∀c∈aw,c.length=z){j off:Nat}{c:List Value}(hc:aw[j]? =some c)(ho:off<z)(v:Value):
  (aw.set j (c.take off++[v]++c.drop (off+1))).flatten=aw.flatten.set (j*z+off) v:=by
 have cg:c.length=z:=hz c (List.mem_of_getElem? hc)
 rw[tI (by omega)]
 induction aw generalizing j with
 |nil=>simp at hc
 |cons b aw ih=>
  have hb:b.length=z:=hz b (by simp)
  cases j with
  |zero=>
   have:b=c:=by simpa using hc
   subst this
   simp only[List.set_cons_zero,List.flatten_cons,Nat.zero_mul,Nat.zero_add]
   rw[List.set_append_left _ _ (by omega)]
  |succ j=>
   have e1:(j+1)*z+off=b.length+(j*z+off):=by rw[hb,Nat.succ_mul];omega
   simp only[List.set_cons_succ,List.flatten_cons,e1]
   rw[List.set_append_right _ _ (by omega),Nat.add_sub_cancel_left,ih (fun c hc=>hz c (by simp[hc])) (by simpa using hc)]
theorem bS(o:bF)(n:Nat):∃kx,∀b,b<n→o b<kx:=by
 induction n with
 |zero=>exact⟨0,fun b h=>by omega⟩
 |succ n ih=>
  obtain⟨kx,h⟩:=ih
  refine⟨kx+o n+1,fun b hb=> ?_⟩
  by_cases e:b=n
  · subst e;omega
  · have:=h b (by omega);omega
section
variable {α β:Type} [ad α] [ad β]
variable {P:Program} {Q:Exit→Act→World→Prop} {L:List (Nat×Value)} {w:World} {d:Option Tmp} {ty:TypeId} {pos:String} {af:Array Edge} {g:Option (Nat×Bool)} {t T e:TypeId} {o:bF} {k kc:Nat}
structure N9(off:Nat)(f:α→List β)(st:α→List β→α):Prop where
 prt:∀{S:Nat→Prop} {w:World} {cs:List Value} {x:α},ad.rd S w cs x→∃c1 c c2,cs=c1++c++c2∧c1.length=off∧ad.rd S w c (f x)
 set:alF off st
 two:∀x a b,st (st x a) b=st x b
theorem aaW [jK α][Flat β]{f:α→List β}{st:α→List β→α}{off:Nat}{v u vx:Value}{xs zs:List α}{y:α}{ys l':List β}{j:Int}{pa:Addr}(hF:N9 off f st)(hu:P.underlying t=some (.slice e))(hT:bJ P e β)
  (ho:fX (ad.sz β) T e o k kc w v xs) (hE:yT v (ad.sz α) j pa) (hc:yU o k w (pa.add off) u) (hy:idx xs j=some y) {S:Nat→Prop} (hx:dM S w vx ys) (hz:bD (f y) ys=some l') (hs:cG xs j (st y l')=some zs) (hk:Nat.beq k kc=false):
  ∃v' w' o',(Builtin.append_ #[t,t] ty #[u,vx]).run P w= .ok v' w'∧ba [kc] [kc] o w o' w'∧oV (ad.sz β) T e o' k kc w' v zs (pa.add off) v':=by
 have pH:k≠kc:=fun e=>by subst e;simp at hk
 unfold idx at hy
 split at hy
 case isFalse=>cases hy
 rename_i h0
 have aQ:j.toNat<xs.length:=(List.getElem?_eq_some_iff.1 hy).1
 unfold cG at hs
 split at hs
 case isFalse=>cases hs
 cases hs
 rcases ho with⟨rfl,rfl⟩|⟨gg,cap,aO,aw,rfl,h2,h3,h4,h5,h6,h7,h8,h9,sy⟩
 · simp at aQ
 obtain⟨a,m,vf,hv,rfl⟩:=hE
 have ha:a=⟨gg,0,none⟩:=by
  have:=congrArg (fun v=>match v with|Value.slice (some a) _ _=>a|_=>(⟨0,0,none⟩:Addr)) hv
  simpa using this.symm
 subst ha
 obtain⟨c,d_,gw⟩:=h7.get hy
 have dy:=h7.lK
 have cg:c.length=ad.sz α:=ad.len gw
 have dH:((⟨gg,0,none⟩:Addr).add (j.toNat*ad.sz α)).add off=⟨gg,j.toNat*ad.sz α+off,none⟩:=by
  rw[sU]
  unfold Addr.add
  split<;>simp_all
 rw[dH] at hc⊢
 obtain⟨c1,cc,c2,jh,Bn,sd⟩:=hF.prt gw
 obtain⟨p0,BX,rfl,r1,r2,r3⟩:=sd
 have ux:off<ad.sz α:=by rw[←cg,jh];simp;omega
 have afR:c[off]? =some (.slice p0 (f y).length BX):=by
  rw[jh,List.append_assoc,List.getElem?_append_right (by omega),Bn]
  simp
 have FQ:aw.flatten[j.toNat*ad.sz α+off]? =some (.slice p0 (f y).length BX):=F2 dy d_ afR
 have dG:=ma h7
 have hmul:(j.toNat+1)*ad.sz α≤xs.length*ad.sz α:=Nat.mul_le_mul_right _ aQ
 have aeS:xs.length*ad.sz α≤cap*ad.sz α:=Nat.mul_le_mul_right _ h4
 rw[Nat.succ_mul] at hmul
 generalize hq:j.toNat*ad.sz α+off=q at*
 have Fh:q<aw.flatten.length:=by omega
 have St:q<aO.size:=by omega
 have Fb:u= .slice p0 (f y).length BX:=by
  have e1:=hc.2
  rw[cell_of_row w gg q aO T (0,0) h3] at e1
  have e2:aw.flatten[q]? =aO.toList[q]? :=by rw[←h8,List.getElem?_take,if_pos (by omega)]
  rw[FQ] at e2
  simp only[Array.getElem?_toList] at e2
  rw[e1] at e2
  exact(Option.some.inj e2).symm
 have sq:=h9 _ (List.mem_of_getElem? FQ)
 obtain⟨kx,hkx⟩:=bS o (w.heap.size+gg+1)
 have xF:gg<w.heap.size:=(Array.getElem?_eq_some_iff.1 h3).1
 have key:∃(gs:Option Nat) (ox:bF),(∀b,ox b=if some b=gs then kx else o b)∧(∀b,gs=some b→b<w.heap.size∧o b=kc)∧Ow e ox kx [] w u (f y)∧(∀b,gs=some b→∃p,p0=some p∧p.block=b):=by
  rcases sq _ _ _ rfl with⟨e1,e2,e3⟩|⟨g',yf,e1,e2,e3,e4,e5,e6⟩
  · subst e1
    refine⟨none,o, ?_, ?_, ?_, ?_⟩
    · intro b;simp
    · intro b h;cases h
    · exact .inl ⟨by rw[Fb,e2,e3],List.eq_nil_of_length_eq_zero e2⟩
    · intro b h;cases h
  · subst e1
    refine⟨some g',fun b=>if some b=some g' then kx else o b, ?_, ?_,.inr ?_, ?_⟩
    · intro b;rfl
    · intro b h;cases h;exact⟨(Array.getElem?_eq_some_iff.1 e3).1,e2⟩
    rotate_left
    · intro b h;exact⟨⟨g',0,none⟩,rfl,Option.some.inj h⟩
    have fu:∃jB,bz (ad.rd (In (fun b=>if some b=some g' then kx else o b) []) w) jB (f y)∧yf.toList.take ((f y).length*ad.sz β)=jB.flatten:=by
     rcases r3 with r3|⟨a,jB,r4,r5,r6,r7⟩
     · rw[r3];exact⟨[],trivial,by simp⟩
     · cases r4
       refine⟨jB,r6.mono fun _ _=>Flat.any, ?_⟩
       have SK:=ma r6
       have hle:(f y).length*ad.sz β≤BX*ad.sz β:=Nat.mul_le_mul_right _ e4
       apply List.ext_getElem?
       intro i
       by_cases hi:i<jB.flatten.length
       · have e7:jB.flatten[i]? =some jB.flatten[i]:=List.getElem?_eq_getElem hi
         have e8:=r7 i _ e7
         have agd:(⟨g',0,none⟩:Addr).add i=⟨g',i,none⟩:=by unfold Addr.add;split<;>simp_all
         rw[agd,cell_of_row w g' i yf e (0,0) e3] at e8
         rw[List.getElem?_take,if_pos (by omega),e7]
         simpa using e8
       · rw[List.getElem?_eq_none (by simp;omega),List.getElem?_eq_none (by omega)]
    obtain⟨jB,LH,LG⟩:=fu
    exact⟨g',BX,yf,jB,Fb,by simp,e3,r1,r2,e6,LH,LG⟩
 obtain⟨gs,ox,SA,Fx,gi,pD⟩:=key
 have hxE:dM (In ox []) w vx ys:=hx.flat
 obtain⟨v',w',o1,fc,bh,uu⟩:=PW (P:=P) (ty:=ty) hu hT gi hxE hz (by simp[gD])
 have alW:=bh.size
 have Sz:∀b,b<w.heap.size→ox b=kx→gs=some b:=by
  intro b hb h
  rw[SA] at h
  split at h
  · rename_i h';exact h'.symm
  · have:=hkx b (by omega);omega
 have uE:∀b,b<w.heap.size→gs≠some b→w'.heap[b]? =w.heap[b]? :=fun b hb be=>bh.jE b hb fun hm=>be (Sz b hb (by simpa using hm))
 have afF:ba [kc] [kc] o w (grow o w kc) w':=⟨bh.os,bh.tape,bh.output,bh.size,fun b hb=>by simp[grow,hb],fun b h1 _=>by simp[grow,Nat.not_lt.2 h1],fun b hb be=>uE b hb fun h=>be (by simp[(Fx b h).2])⟩
 have S1:gs≠some gg:=fun h=>pH (h2.symm.trans (Fx gg h).2)
 have Sl:w'.heap[gg]? =some (.cells aO T (0,0)):=by rw[uE gg xF S1];exact h3
 have KS:∀b,b<w'.heap.size→o1 b=kx→gs=some b∨w.heap.size≤b:=by
  intro b hb h
  by_cases aQ:b<w.heap.size
  · rw[bh.dO b aQ] at h
    exact .inl (Sz b aQ h)
  · exact .inr (by omega)
 have lW:∀b,b<w'.heap.size→(gs=some b∨w.heap.size≤b)→grow o w kc b=kc∧b≠gg:=by
  intro b _ h
  rcases h with h|h
  · exact⟨by simp[grow,(Fx b h).1,(Fx b h).2],fun e=>S1 (e▸h)⟩
  · exact⟨by simp[grow,Nat.not_lt.2 h],by omega⟩
 have eX:∀b,b≠gg→(w'.setRow gg (nj aO q v')).heap[b]? =w'.heap[b]? :=fun b hb=>setRow_other w' gg b _ hb
 have jd:=uu.one
 have KR:∀i p n cc,i≠q→aw.flatten[i]? =some (.slice (some p) n cc)→gs≠some p.block:=by
  intro i p n cc kC fF Ls
  obtain⟨p1,hp,h12⟩:=pD _ Ls
  rw[hp] at FQ
  exact kC (sy _ _ _ _ _ _ _ _ FQ fF h12).symm
 refine⟨v',w',grow o w kc,fc,afF,gg,q,aO,rfl,by simp[grow,xF,h2],Sl,jd,St,.inr ⟨gg,cap,nj aO q v',aw.set j.toNat (c.take off++[v']++c.drop (off+1)),by simp,by simp[grow,xF,h2],setRow_heap w' gg aO _ T _ Sl,by simpa using h4,h5, ?_, ?_, ?_, ?_, ?_⟩⟩
 · simp[nj];omega
 ·
  have A7:ad.rd (In o [kc]) w [.slice none 0 0] ([]:List β):=ad.dW (α:=List β) _ _
  have LU:bz (ad.rd (In o [kc]) w) (aw.set j.toNat (c.take off++[.slice none 0 0]++c.drop (off+1))) (xs.set j.toNat (st y [])):=bz.set h7 j.toNat (by have:=hF.set gw A7;simpa using this)
  have Td:=F1 dy d_ ux (.slice none 0 0)
  rw[hq] at Td
  have sw:bz (ad.rd (In (grow o w kc) [kc]) (w'.setRow gg (nj aO q v'))) (aw.set j.toNat (c.take off++[.slice none 0 0]++c.drop (off+1))) (xs.set j.toNat (st y [])):=by
   refine bz.Q1 (fun cs fu x hr=>ad.mono ?_ (jK.loc hr)) LU
   rintro b ⟨hb,p,n,cc,hm,rfl⟩ uA
   have su:o p.block=kc:=by simpa[In] using hb
   have be:gs≠some p.block:=by
    intro Ls
    have SH:Value.slice (some p) n cc∈aw.flatten.set q (.slice none 0 0):=Td▸List.mem_flatten.2 ⟨cs,fu,hm⟩
    obtain⟨i,dR,cI⟩:=List.getElem_of_mem SH
    have fF:(aw.flatten.set q (.slice none 0 0))[i]? =some (.slice (some p) n cc):=by rw[List.getElem?_eq_getElem dR,cI]
    by_cases kC:q=i
    · subst kC
      rw[List.getElem?_set,if_pos rfl,if_pos Fh] at fF
      simp at fF
    · rw[List.getElem?_set,if_neg kC] at fF
      exact KR i p n cc (fun e=>kC e.symm) fF Ls
   refine⟨by simp[In,grow,uA,su], ?_⟩
   rw[eX _ (fun e=>pH (by rw[←h2,←e,su])),uE _ uA be]
  have al6:j.toNat<(xs.set j.toNat (st y [])).length:=by simpa using aQ
  obtain⟨Uo,Tm,LH⟩:=sw.get (i:=j.toNat) (x:=st y []) (by simp[aQ])
  have Lk:j.toNat<aw.length:=by rw[h7.length];exact aQ
  have LG:Uo=c.take off++[.slice none 0 0]++c.drop (off+1):=by
   rw[List.getElem?_set,if_pos rfl,if_pos Lk] at Tm
   exact(Option.some.inj Tm).symm
  have aeq:ad.rd (In (grow o w kc) [kc]) (w'.setRow gg (nj aO q v')) [v'] l':=by
   refine ad.mono ?_ (Rv.Jo uu.rv rfl)
   intro b hb uA
   have dS:o1 b=kx:=by simpa[In] using hb
   obtain⟨e1,e2⟩:=lW b uA (KS b uA dS)
   exact⟨by simp[In,e1],eX b e2⟩
  have iy:=bz.set sw j.toNat (hF.set LH aeq)
  rw[List.set_set,List.set_set,hF.two,LG] at iy
  have e1:List.take off (c.take off++[Value.slice none 0 0]++c.drop (off+1))++[v']++List.drop (off+[v'].length) (c.take off++[Value.slice none 0 0]++c.drop (off+1))=c.take off++[v']++c.drop (off+1):=by
   rw[show off+[v'].length=off+1 from rfl,tI (l:=c) (by omega),tI (l:=c) (by omega),tI (by simp;omega),List.set_set]
  rw[e1] at iy
  exact iy
 · rw[List.length_set]
   have:=F1 dy d_ ux v'
   rw[hq] at this
   rw[this]
   have pN:q<aO.toList.length:=by simpa using St
   show(aO.toList.take q++[v']++aO.toList.drop (q+1)).take (xs.length*ad.sz α)=_
   rw[tI pN,←h8,List.take_set]
 · have:=F1 dy d_ ux v'
   rw[hq] at this
   rw[this]
   intro u1 hu1 p n cc e7
   obtain⟨i,dR,cI⟩:=List.getElem_of_mem hu1
   have fF:(aw.flatten.set q v')[i]? =some u1:=by rw[List.getElem?_eq_getElem dR,cI]
   by_cases kC:q=i
   case neg=>
    rw[List.getElem?_set,if_neg kC] at fF
    rcases h9 u1 (List.mem_of_getElem? fF) p n cc e7 with h|⟨g1,Gs,i1,i2,i3,i4⟩
    · exact .inl h
    · subst i1
      rw[e7] at fF
      have be:=KR i _ _ _ (fun e=>kC e.symm) fF
      have Bi:=(Array.getElem?_eq_some_iff.1 i3).1
      exact .inr ⟨g1,Gs,rfl,by simp[grow,Bi,i2],by rw[eX g1 (fun e=>pH (by rw[←h2,←e,i2])),uE g1 Bi be];exact i3,i4⟩
   case pos=>
    subst kC
    rw[List.getElem?_set,if_pos rfl,if_pos Fh] at fF
    obtain rfl:=Option.some.inj fF
    rcases uu with⟨hn,_⟩|⟨g1,aiw,Gs,ah5,i1,i2,i3,i4,i5,i6,i7,i8⟩
    · rw[hn] at e7;cases e7;exact .inl ⟨rfl,rfl,rfl⟩
    · rw[i1] at e7
      cases e7
      have Bi:=(Array.getElem?_eq_some_iff.1 i3).1
      obtain⟨e1,e2⟩:=lW g1 Bi (KS g1 Bi i2)
      exact .inr ⟨g1,Gs,rfl,e1,by rw[eX g1 e2];exact i3,i4,i5,i6⟩
 · have:=F1 dy d_ ux v'
   rw[hq] at this
   rw[this]
   have Sc:∀i p n cc,i≠q→aw.flatten[i]? =some (.slice (some p) n cc)→∀p' n' c',v'= .slice (some p') n' c'→p.block≠p'.block:=by
    intro i p n cc kC hi p' n' c' e7 A4
    have be:=KR i p n cc kC hi
    rcases h9 _ (List.mem_of_getElem? hi) p n cc rfl with⟨e1,_⟩|⟨g2,amA,e1,e2,e3,_⟩
    · cases e1
    · cases e1
      have hg2:=(Array.getElem?_eq_some_iff.1 e3).1
      rcases uu with⟨hn,_⟩|⟨g1,aiw,Gs,ah5,i1,i2,i3,_⟩
      · rw[hn] at e7;cases e7
      · rw[i1] at e7
        cases e7
        have aeF:g2=g1:=A4
        subst aeF
        rcases KS g2 (Array.getElem?_eq_some_iff.1 i3).1 i2 with h|h
        · exact be h
        · omega
   intro i j' p p' n n' c' d' hi hj A4
   by_cases kC:q=i
   · by_cases Bh:q=j'
     · omega
     · subst kC
       rw[List.getElem?_set,if_neg Bh] at hj
       rw[List.getElem?_set,if_pos rfl,if_pos Fh] at hi
       exact(Sc j' _ _ _ (fun e=>Bh e.symm) hj _ _ _ (Option.some.inj hi) A4.symm).elim
   · by_cases Bh:q=j'
     · subst Bh
       rw[List.getElem?_set,if_neg kC] at hi
       rw[List.getElem?_set,if_pos rfl,if_pos Fh] at hj
       exact(Sc i _ _ _ (fun e=>kC e.symm) hi _ _ _ (Option.some.inj hj) A4).elim
     · rw[List.getElem?_set,if_neg kC] at hi
       rw[List.getElem?_set,if_neg Bh] at hj
       exact sy _ _ _ _ _ _ _ _ hi hj A4
end
theorem fX.mono{α:Type}[ad α]{z:Nat}{T Tc:TypeId}{o o':bF}{k kc k' xk:Nat}{w w':World}{v:Value}{xs:List α}(hk:∀b,b<w.heap.size→o b=k→o' b=k'∧w'.heap[b]? =w.heap[b]?)(hc:∀b,b<w.heap.size→o b=kc→o' b=xk∧w'.heap[b]? =w.heap[b]?)(h:fX z T Tc o k kc w v xs):fX z T Tc o' k' xk w' v xs:=by
 rcases h with h|⟨g,cap,aO,aw,h1,h2,h3,h4,h5,h6,h7,h8,h9,sy⟩
 · exact .inl h
 · obtain⟨e1,e2⟩:=hk g (Array.getElem?_eq_some_iff.1 h3).1 h2
   refine .inr ⟨g,cap,aO,aw,h1,e1,by rw[e2];exact h3,h4,h5,h6,h7.mono fun _ _=>ad.mono fun b hb aQ=> ?_,h8,fun u hu p n c e=> ?_,sy⟩
   · have hb:o b=kc:=by simpa[In] using hb
     obtain⟨f1,f2⟩:=hc b aQ hb
     exact⟨by simp[In,f1],f2⟩
   · rcases h9 u hu p n c e with h|⟨g',yf,i1,i2,i3,i4⟩
     · exact .inl h
     · obtain⟨f1,f2⟩:=hc g' (Array.getElem?_eq_some_iff.1 i3).1 i2
       exact .inr ⟨g',yf,i1,f1,by rw[f2];exact i3,i4⟩
theorem oV.mono{α:Type}[ad α]{z:Nat}{T Tc:TypeId}{o o':bF}{k kc k' xk:Nat}{w w':World}{v u:Value}{xs:List α}{pq:Addr}(hk:∀b,b<w.heap.size→o b=k→o' b=k'∧w'.heap[b]? =w.heap[b]?)(hc:∀b,b<w.heap.size→o b=kc→o' b=xk∧w'.heap[b]? =w.heap[b]?)(h:oV z T Tc o k kc w v xs pq u):oV z T Tc o' k' xk w' v xs pq u:=by
 obtain⟨g,q,aO,h1,h2,h3,h4,h5,h6⟩:=h
 obtain⟨e1,e2⟩:=hk g (Array.getElem?_eq_some_iff.1 h3).1 h2
 have xM:w'.heap[g]? =some (.cells aO T (0,0)):=by rw[e2];exact h3
 have key:∀{c c':Nat},(∀b,b<w.heap.size→o b=c→o' b=c'∧w'.heap[b]? =w.heap[b]?)→∀b,b<(w.setRow g (nj aO q u)).heap.size→o b=c→o' b=c'∧(w'.setRow g (nj aO q u)).heap[b]? =(w.setRow g (nj aO q u)).heap[b]? :=by
  intro c c' h b hb hoc
  obtain⟨f1,f2⟩:=h b (by simpa using hb) hoc
  refine⟨f1, ?_⟩
  by_cases uQ:b=g
  · subst uQ
    rw[setRow_heap w b aO _ T (0,0) h3,setRow_heap w' b aO _ T (0,0) xM]
  · rw[setRow_other w' g b _ uQ,setRow_other w g b _ uQ]
    exact f2
 exact⟨g,q,aO,h1,e1,xM,h4,h5,h6.mono (key hk) (key hc)⟩
section
variable {α β:Type} [ad α] [ad β]
variable {P:Program} {Q:Exit→Act→World→Prop} {L:List (Nat×Value)} {w:World} {d:Option Tmp} {ty:TypeId} {pos:String} {af:Array Edge} {g:Option (Nat×Bool)} {t T e Tc:TypeId} {o:bF} {k kc z:Nat} {K:List Nat}
theorem OW.ali [Rd][jK α][Flat β]{s x:Operand}{f:α→List β}{st:α→List β→α}{off:Nat}{v u vx:Value}{xs zs:List α}{y:α}{ys l':List β}{j:Int}{pa:Addr}{S:Nat→Prop}(hF:N9 off f st)(hu:P.underlying t=some (.slice e))(hT:bJ P e β)(hs:ev L s=some u)(hx:ev L x=some vx)
  (ho:fX (ad.sz β) T e o k kc w v xs) (hE:yT v (ad.sz α) j pa) (hc:yU o k w (pa.add off) u) (hy:idx xs j=some y) (hr:dM S w vx ys) (hz:bD (f y) ys=some l') (kw:cG xs j (st y l')=some zs) (hk:Nat.beq k kc=false):
  OW P Q L ⟨d,.call {callee:= .builtin .append,args:= #[s,x],argTypes:= #[t,t]},ty,pos,af,g⟩ w (fun v' w'=>∃o',ba [kc] [kc] o w o' w'∧oV (ad.sz β) T e o' k kc w' v zs (pa.add off) v'):=by
 obtain⟨v',w',o',h1,h2,h3⟩:=aaW (P:=P) (ty:=ty) hF hu hT ho hE hc hy hr hz kw hk
 refine OW.run fun a ha=>⟨v',w', ?_,o',h2,h3⟩
 simp[execOp,resolve,invoke,builtin,ha _ _ hs,ha _ _ hx,h1]
def HZ(l:List Value):Bool:=l.all fun u=>match u with
 | .slice none 0 0=>true
 | .slice _ _ _=>false
 |_=>true
theorem Oi{l:List Value}(h:HZ l=true){p:Option Addr}{n c:Nat}(hm:Value.slice p n c∈l):p=none∧n=0∧c=0:=by
 have:=List.all_eq_true.1 h _ hm
 match p,n,c,this with
 |none,0,0,_=>exact⟨rfl,rfl,rfl⟩
theorem OW.acx [Rd]{u1 u2:Operand}{zs:List α}{m:Int}(kc z:Nat)(Tc:TypeId)(ou:HZ (ad.zc α)=true)(hu:P.underlying t=some (.slice e))(hT:bJ P e α)(h1:ev L u1=some (.int .i64 m))(h2:ev L u2=some (.int .i64 m))(hm:rJ α m=some zs):
  OW P Q L ⟨d,.makeSlice t u1 u2,ty,pos,af,g⟩ w (fun v' w'=>∃o',ba [] [k] o w o' w'∧fX z e Tc o' k kc w' v' zs):=by
 unfold rJ at hm
 split at hm
 case isFalse=>cases hm
 rename_i hb
 cases hm
 obtain⟨i,dR,cI,fF,jf⟩:=hT.ju
 have hr:=run_make (P:=P) w t e i _ hu dR jf .i64 .i64 m m hb.1 (by omega) (by
  have h:(i.bytes:Int)≤65536:=by omega
  have h':(i.bytes:Int)*m≤65536*1073741824:=Int.mul_le_mul h hb.2 hb.1 (by omega)
  omega) (by omega)
 have Tb:∀q:Nat,∀u∈(List.replicate q (ad.zc α)).flatten,u∈ad.zc α:=by
  intro q u hu
  obtain⟨l,hl,qG⟩:=List.mem_flatten.1 hu
  rw[List.mem_replicate] at hl
  exact hl.2▸qG
 refine OW.run fun a ha=>⟨.slice (some ⟨w.heap.size,0,none⟩) m.toNat m.toNat,w.alloc (.cells (madeCells (pack (ad.agg α) (ad.zc α)).cells (m.toNat*i.size)) e), ?_,_,ba.alloc o w _ k,.inr ⟨w.heap.size,m.toNat,_,List.replicate m.toNat (ad.zc α), ?_,nD o w k _ (Nat.le_refl _),heap_alloc_new w _,by simp, ?_, ?_, ?_, ?_, ?_, ?_⟩⟩
 · simp[execOp,ha _ _ h1,ha _ _ h2,hr]
 · simp
 · unfold maxLen;omega
 · simp[size_madeCells,cI]
 · exact bz.replicate (ad.dW _ _) _
 · have hz:(pack (ad.agg α) (ad.zc α)).cells.toList=ad.zc α:=qx (α:=α) (ad.dW (fun _=>True) w)
   have eV:(ad.zc α).length=ad.sz α:=ad.len (ad.dW (α:=α) (fun _=>True) w)
   have nu:=ad.pos (α:=α)
   generalize R2:(pack (ad.agg α) (ad.zc α)).cells=z at*
   rw[cI]
   rw[List.length_replicate,List.take_of_length_le (by simp[size_madeCells])]
   unfold madeCells
   have eK:z.size=ad.sz α:=by rw[←Array.length_toList,hz,eV]
   have key:∀q:Nat,(List.range (q*ad.sz α)).map (z[·% z.size]!)=(List.replicate q (ad.zc α)).flatten:=by
    intro q
    induction q with
    |zero=>simp
    |succ q ih=>
     rw[List.replicate_succ',List.flatten_append,←ih,Nat.succ_mul,List.range_add,List.map_append]
     congr 1
     simp only[List.map_map,List.flatten_singleton]
     rw[←hz]
     apply List.ext_getElem?
     intro j
     by_cases hj:j<ad.sz α
     · have e1:(q*ad.sz α+j)% z.size=j:=by rw[eK,Nat.mul_comm,Nat.mul_add_mod,Nat.mod_eq_of_lt hj]
       have eo:j<z.size:=by omega
       simp[hj,e1,eo,getElem!_pos]
     · simp[hj,eK]
   simpa using key m.toNat
 · intro u hu p n c e
   subst e
   exact .inl (Oi ou (Tb _ _ hu))
 · intro i j p q n m c d hi _ _
   have:=Oi ou (Tb _ _ (List.mem_of_getElem? hi))
   cases this.1
theorem OW.R1 [Rd]{v:Value}{xs:List α}{y:α}{u i:Operand}{q:IntKind}{j:Int}{a:Addr}{cap:Nat}(hu:P.underlying t=some (.slice e))(hT:bJ P e α)(hx:ev L u=some v)(h:v= .slice (some a) xs.length cap)
  (hi:ev L i=some (.int q j)) (hj:idx xs j=some y):
  OW P Q L ⟨d,.indexAddr t u i,ty,pos,af,g⟩ w (fun v' w'=>w'=w∧v'= .pointer (some (a.add (j.toNat*ad.sz α)))):=by
 subst h
 unfold idx at hj
 split at hj
 · rename_i h0
   have aQ:j.toNat<xs.length:=(List.getElem?_eq_some_iff.1 hj).1
   refine OW.run fun b hb=>⟨_,w, ?_,rfl,rfl⟩
   have bZ:j<(xs.length:Int):=by omega
   have e1:b.eval u=_:=hb _ _ hx
   have e2:b.eval i=_:=hb _ _ hi
   simp[execOp,e1,e2,Instr.indexAt,asIntOf,run_underlying hu,h0,bZ,hT.sizeOf]
 · cases hj
theorem OW.tZ [Rd]{o:Operand}{p:Option Addr}{n cap:Nat}(hu:P.underlying t=some (.slice e))(hx:ev L o=some (.slice p n cap)):
  OW P Q L ⟨d,.call {callee:= .builtin .len,args:= #[o],argTypes:= #[t]},ty,pos,af,g⟩ w (fun v' w'=>v'= .int .i64 n∧w'=w):=by
 refine OW.run fun a ha=>⟨_,w, ?_,rfl,rfl⟩
 simp[execOp,resolve,invoke,builtin,ha _ _ hx,Builtin.len_,run_underlying hu,goInt]
def HM(v v':Value)(j:Nat):Prop:=∃p n c,v= .slice p n c∧v'= .slice p j c∧j≤n
def Cz(z:Nat)(v v':Value)(j:Nat):Prop:=∃p n c,v= .slice p n c∧v'= .slice (if c=j then p else p.map (·.add (j*z))) (n-j) (c-j)∧j≤n
theorem UG(z:Array Value)(hp:0<z.size):∀q:Nat,(List.range (q*z.size)).map (z[·% z.size]!)=(List.replicate q z.toList).flatten:=by
 intro q
 induction q with
 |zero=>simp
 |succ q ih=>
  rw[List.replicate_succ',List.flatten_append,←ih,Nat.succ_mul,List.range_add,List.map_append]
  congr 1
  simp only[List.map_map,List.flatten_singleton]
  apply List.ext_getElem?
  intro j
  by_cases hj:j<z.size
  · have e1:(q*z.size+j)% z.size=j:=by rw[Nat.mul_comm,Nat.mul_add_mod,Nat.mod_eq_of_lt hj]
    simp[hj,e1,getElem!_pos]
  · simp[hj]
theorem OW.aio [Rd]{u:Operand}{v v':Value}{j:Nat}{xs:List α}(hu:P.underlying t=some (.slice e))(hT:bJ P e α)(hx:ev L u=some v')(ho:Ow T o k K w v xs)(ht:Cz (ad.sz α) v v' j)(hd:gD K [k]=true):
  OW P Q L ⟨d,.call {callee:= .builtin .clear,args:= #[u],argTypes:= #[t]},ty,pos,af,g⟩ w (fun v0 w'=>v0= .tuple #[]∧ba [k] [] o w o w'∧Ow T o k K w' v (xs.take j++List.replicate (xs.length-j) ad.zero)):=by
 obtain⟨p,m,c,h1,rfl,hj⟩:=ht
 by_cases he:m-j=0
 · have hm:m=xs.length:=by
    rcases ho with⟨rfl,rfl⟩|⟨gg,cap,aO,aw,rfl,_⟩
    · cases h1;rfl
    · cases h1;rfl
   have dx:xs.take j++List.replicate (xs.length-j) ad.zero=xs:=by
    rw[show xs.length-j=0 from by omega,List.replicate_zero,List.append_nil,List.take_of_length_le (by omega)]
   rw[dx]
   refine OW.run fun a ha=>⟨.tuple #[],w, ?_,rfl,ba.refl _ _ _ _,ho⟩
   have e0:(Builtin.clear_ #[t] ty #[Value.slice (if c=j then p else p.map (·.add (j*ad.sz α))) (m-j) (c-j)]).run P w= .ok (.tuple #[]) w:=by
    rw[he]
    cases(if c=j then p else p.map (·.add (j*ad.sz α)))<;>simp[Builtin.clear_,run_underlying hu]
   simp[execOp,resolve,invoke,builtin,ha _ _ hx,e0]
 · rcases ho with⟨rfl,rfl⟩|⟨gg,cap,aO,aw,rfl,h2,h3,h4,h5,h6,h7,h8⟩
   · cases h1;omega
   · cases h1
     obtain⟨i,dR,cI,fF,jf⟩:=hT.ju
     have Bp:¬c=j:=by omega
     have dH:(⟨gg,0,none⟩:Addr).add (j*ad.sz α)=⟨gg,j*ad.sz α,none⟩:=by unfold Addr.add;split<;>simp_all
     have hz:(pack (ad.agg α) (ad.zc α)).cells.toList=ad.zc α:=qx (α:=α) (ad.dW (fun _=>True) w)
     have eV:(ad.zc α).length=ad.sz α:=ad.len (ad.dW (α:=α) (fun _=>True) w)
     have eK:(pack (ad.agg α) (ad.zc α)).cells.size=ad.sz α:=by rw[←Array.length_toList,hz,eV]
     have ou:(Builtin.zeroCells (pack (ad.agg α) (ad.zc α)).cells (xs.length-j)).toList=(List.replicate (xs.length-j) (ad.zc α)).flatten:=by
      have:=UG (pack (ad.agg α) (ad.zc α)).cells (by rw[eK];exact ad.pos) (xs.length-j)
      rw[hz] at this
      rw[←this]
      simp[Builtin.zeroCells]
     have dG:=ma h7
     have hmul:xs.length*ad.sz α≤c*ad.sz α:=Nat.mul_le_mul_right _ h4
     have AY:(xs.length-j)*ad.sz α=xs.length*ad.sz α-j*ad.sz α:=Nat.sub_mul _ _ _
     have hjm:j*ad.sz α≤xs.length*ad.sz α:=Nat.mul_le_mul_right _ hj
     have iO:(List.replicate (xs.length-j) (ad.zc α)).flatten.length=(xs.length-j)*ad.sz α:=by simp[eV]
     have jd:∀u∈(List.replicate (xs.length-j) (ad.zc α)).flatten,u.oneCell'=true:=by
      intro u hu
      obtain⟨l,hl,qG⟩:=List.mem_flatten.1 hu
      rw[List.mem_replicate] at hl
      exact ad.one (ad.dW (α:=α) (fun _=>True) w) u (hl.2▸qG)
     have bN:=run_storeCells_at P gg (j*ad.sz α) T (List.replicate (xs.length-j) (ad.zc α)).flatten 0 aO w h3 (by omega) jd
     simp only[Nat.add_zero] at bN
     have bh:ba [k] [] o w o (w.setRow gg (aO.toList.take (j*ad.sz α)++(List.replicate (xs.length-j) (ad.zc α)).flatten++aO.toList.drop (j*ad.sz α+(List.replicate (xs.length-j) (ad.zc α)).flatten.length)).toArray):=ba.row _ h2
     have hlen:(xs.take j++List.replicate (xs.length-j) (ad.zero:α)).length=xs.length:=by simp;omega
     refine OW.run fun a ha=>⟨.tuple #[],_, ?_,rfl,bh,.inr ⟨gg,c,_,aw.take j++List.replicate (xs.length-j) (ad.zc α),by rw[hlen],h2,setRow_heap w gg aO _ T _ h3,by rw[hlen];exact h4,h5, ?_, ?_, ?_⟩⟩
     · have e0:(Builtin.clear_ #[t] ty #[Value.slice (some ⟨gg,j*ad.sz α,none⟩) (xs.length-j) (c-j)]).run P w= .ok (.tuple #[]) (w.setRow gg (aO.toList.take (j*ad.sz α)++(List.replicate (xs.length-j) (ad.zc α)).flatten++aO.toList.drop (j*ad.sz α+(List.replicate (xs.length-j) (ad.zc α)).flatten.length)).toArray):=by
        obtain⟨q,hq⟩:∃q,xs.length-j=q+1:=⟨xs.length-j-1,by omega⟩
        rw[hq] at bN ou⊢
        simp[Builtin.clear_,run_underlying hu,hT.zero,ou,bN]
       simp[execOp,resolve,invoke,builtin,ha _ _ hx,Bp,dH,e0]
     · simp[eV]
       omega
     · exact bz.append ((h7.take j).mono fun _ _=>ad.mono (bh.ro hd)) (bz.replicate (ad.dW _ _) _)
     · rw[hlen,List.flatten_append,uW h7.lK,←h8,List.take_take,Nat.min_eq_left hjm]
       show(aO.toList.take (j*ad.sz α)++(List.replicate (xs.length-j) (ad.zc α)).flatten++aO.toList.drop _).take _=_
       rw[List.take_append_of_le_length (by simp[eV];omega),List.take_of_length_le (by simp[eV];omega)]
theorem OW.ah9 [Rd]{x y:Operand}{v v' u:Value}{j:Nat}{xs ys:List α}(hu:P.underlying t=some (.slice e))(hT:bJ P e α)(hx:ev L x=some v')(hy:ev L y=some u)(ho:Ow T o k K w v xs)(ht:Cz (ad.sz α) v v' j)(hr:dM (In o K) w u ys)(hd:gD K [k]=true):
  OW P Q L ⟨d,.call {callee:= .builtin .copy,args:= #[x,y],argTypes:= #[t,t]},ty,pos,af,g⟩ w (fun v0 w'=>v0= .int .i64 ((Min.min ys.length (xs.length-j):Nat):Int)∧ba [k] [] o w o w'∧Ow T o k K w' v (xs.take j++(ys.take (xs.length-j)++xs.drop (j+ys.length)))):=by
 obtain⟨p,m,c,h1,rfl,hj⟩:=ht
 obtain⟨q,cy,rfl,nt⟩:=hr
 have hm:m=xs.length:=by
  rcases ho with⟨rfl,rfl⟩|⟨gg,cap,aO,aw,rfl,_⟩
  · cases h1;rfl
  · cases h1;rfl
 subst hm
 obtain⟨i,dR,cI,fF,jf⟩:=hT.ju
 by_cases he:Min.min ys.length (xs.length-j)=0
 · have dx:xs.take j++(ys.take (xs.length-j)++xs.drop (j+ys.length))=xs:=by
    rcases Nat.eq_zero_or_pos ys.length with h0|h0
    · have:ys=[]:=List.eq_nil_of_length_eq_zero h0
      subst this
      simp
    · rw[show xs.length-j=0 from by omega,List.take_zero,List.nil_append,List.drop_of_length_le (by omega),List.append_nil,List.take_of_length_le (by omega)]
   rw[dx,he]
   refine OW.run fun a ha=>⟨_,w, ?_,rfl,ba.refl _ _ _ _,ho⟩
   have si:Nat.min ys.length (xs.length-j)=0:=he
   have e0:(Builtin.copy_ #[t,t] ty #[Value.slice (if c=j then p else p.map (·.add (j*ad.sz α))) (xs.length-j) (c-j),Value.slice q ys.length cy]).run P w= .ok (.int .i64 0) w:=by
    cases(if c=j then p else p.map (·.add (j*ad.sz α)))<;>cases q<;>simp[Builtin.copy_,run_underlying hu,sizeOf,typeInfo,dR,Builtin.lenOf,Builtin.firstCells,loadCells,loadCellsFrom,storeCells,si,goInt]
   simp[execOp,resolve,invoke,builtin,ha _ _ hx,ha _ _ hy,e0]
 · rcases ho with⟨rfl,rfl⟩|⟨gg,cap,aO,aw,rfl,h2,h3,h4,h5,h6,h7,h8⟩
   · simp at he
   · cases h1
     rcases nt with rfl|⟨a,nI,rfl,mG,k6⟩
     · simp at he
     obtain⟨n,hn⟩:∃n,n=Min.min ys.length (xs.length-j):=⟨_,rfl⟩
     have Bp:¬c=j:=by omega
     have dH:(⟨gg,0,none⟩:Addr).add (j*ad.sz α)=⟨gg,j*ad.sz α,none⟩:=by unfold Addr.add;split<;>simp_all
     have dG:=ma h7
     have xt:(nI.take n).flatten=nI.flatten.take (n*ad.sz α):=uW mG.lK n
     have hfy:=ma mG
     have hny:n*ad.sz α≤ys.length*ad.sz α:=Nat.mul_le_mul_right _ (by omega)
     have sf:(j+n)*ad.sz α≤xs.length*ad.sz α:=Nat.mul_le_mul_right _ (by omega)
     have hmul:xs.length*ad.sz α≤c*ad.sz α:=Nat.mul_le_mul_right _ h4
     rw[Nat.add_mul] at sf
     have hlen:(nI.take n).flatten.length=n*ad.sz α:=by rw[xt,List.length_take];omega
     have jd:∀u∈(nI.take n).flatten,u.oneCell'=true:=fun u hu=>by
      rw[xt] at hu
      exact tQ mG u (List.mem_of_mem_take hu)
     have hf:=run_firstCells_some (P:=P) w i.size n a ys.length cy (nI.take n).flatten (by rw[hlen,cI]) (fun z u hz=>k6 z u (by
      rw[xt,List.getElem?_take] at hz
      split at hz
      · exact hz
      · cases hz))
     have bN:=run_storeCells_at P gg (j*ad.sz α) T (nI.take n).flatten 0 aO w h3 (by omega) jd
     simp only[Nat.add_zero] at bN
     have bh:ba [k] [] o w o (w.setRow gg (aO.toList.take (j*ad.sz α)++(nI.take n).flatten++aO.toList.drop (j*ad.sz α+(nI.take n).flatten.length)).toArray):=ba.row _ h2
     have e1:xs.take j++(ys.take (xs.length-j)++xs.drop (j+ys.length))=xs.take j++(ys.take n++xs.drop (j+n)):=by
      congr 1
      rcases Nat.le_total ys.length (xs.length-j) with hle|hle
      · rw[show n=ys.length by omega,List.take_of_length_le hle,List.take_of_length_le (Nat.le_refl _)]
      · rw[show n=xs.length-j by omega,List.drop_of_length_le (by omega),List.drop_of_length_le (by omega)]
     have uB:(xs.take j++(ys.take n++xs.drop (j+n))).length=xs.length:=by simp;omega
     rw[e1,←hn]
     refine OW.run fun a' ha=>⟨goInt n,_, ?_,rfl,bh,.inr ⟨gg,c,_,aw.take j++(nI.take n++aw.drop (j+n)),by rw[uB],h2,setRow_heap w gg aO _ T _ h3,by rw[uB];exact h4,h5, ?_, ?_, ?_⟩⟩
     · have si:Nat.min ys.length (xs.length-j)=n:=hn.symm
       simp[execOp,resolve,invoke,builtin,ha _ _ hx,ha _ _ hy,Builtin.copy_,run_underlying hu,sizeOf,typeInfo,dR,Builtin.lenOf,si,Bp,dH,hf,bN]
     · simp[hlen]
       omega
     · exact bz.append ((h7.take j).mono fun _ _=>ad.mono (bh.ro hd)) (bz.append ((mG.take n).mono fun _ _=>ad.mono (bh.ro hd)) ((h7.drop (j+n)).mono fun _ _=>ad.mono (bh.ro hd)))
     · rw[uB,List.flatten_append,List.flatten_append,uW h7.lK,BE h7.lK]
       have:=Pu (A:=aO.toList) (c:=(nI.take n).flatten) (m:=j*ad.sz α) (N:=xs.length*ad.sz α) (by rw[hlen];omega) (by have hcu:aO.toList.length=aO.size:=Array.length_toList;omega)
       show(aO.toList.take (j*ad.sz α)++(nI.take n).flatten++aO.toList.drop (j*ad.sz α+(nI.take n).flatten.length)).take _=_
       rw[this,h8,hlen,←Nat.add_mul,List.append_assoc]
end
end Dp
end Go.Proofs.YtaneejpkncdodaaGreat
