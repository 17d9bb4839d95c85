import Derived.WalkKit
import Derived.WalkSpells
import Derived.WalkLawsBesides
import Derived.Laws.AppendOwnNone
import Derived.TacticsIn
import Derived.OrdersIn
set_option linter.unusedVariables false
set_option linter.unusedSimpArgs false
open Array renaming getElem?_setIfInBounds→ar2
open ByteArray renaming empty→arX
open Classical renaming choose→asj,choose_spec→asn
open List renaming all_eq_true→aq0,replicate→aqS
open Nat renaming beq→aqH,le_refl→aqM,lt_of_lt_of_le→asb
open Option.some renaming injEq→aq3
noncomputable section
namespace Go.Proofs.YtncbfgppjfcijaaGreat
open Go Go.RowKit
namespace Dp
class Rd where
 ro:Option Nat
 ds:List Deferred
 fix:Nat→Option Value
instance(priority:=low) Rd.plain:Rd:=⟨none,[],fun _=>none⟩
def Rd.ft(I:Rd)(n t:Nat):Bool:=Nat.blt t n&&(I.fix t).isNone
def Rd.F(I:Rd):Fence:={Fence.wide with round:=I.ro}
theorem Rd.fn(I:Rd)(f:FuncId):I.F.fn f:=trivial
def look:List (Nat×Value)→Nat→Option Value
 |[],_=>none
 |p::r,t=>cond (aqH p.1 t) (some p.2) (look r t)
structure Fr [I:Rd](n:Nat)(L:List (Nat×Value))(a:Act):Prop where
 size:a.tmps.size=n
 defers:a.defers=I.ds
 get:∀t v,look L t=some v→a.tmps[t]? =some v
 fix:∀t v,I.fix t=some v→a.tmps[t]? =some v
def ev(L:List (Nat×Value)):Operand→Option Value
 | .tmp t=>look L t
 | .const v=>some v
 | .func f=>some (.func (.func f) #[] #[])
 | .global g=>some (.pointer (some ⟨g,0,none⟩))
theorem Fr.ev [Rd]{n:Nat}{L:List (Nat×Value)}{a:Act}(h:Fr n L a){x:Operand}{v:Value}(hx:Dp.ev L x=some v):a.eval x=v:=by
 cases x with
 |tmp t=>
  have hg:=h.get t v hx
  simp[Act.eval,hg]
 |const u=>simpa[Dp.ev,Act.eval] using hx
 |global g=>simpa[Dp.ev,Act.eval] using hx
 |func f=>simpa[Dp.ev,Act.eval] using hx
theorem mK(d:Nat)(v:Value)(L:List (Nat×Value)):look ((d,v)::L) d=some v:=by simp[look]
theorem k7{d t:Nat}(v:Value)(L:List (Nat×Value))(h:d≠t):look ((d,v)::L) t=look L t:=by
 have:aqH d t=false:=by
  rcases hb:aqH d t with _|_
  · rfl
  · exact(h (Nat.eq_of_beq_eq_true hb)).elim
 simp[look,this]
theorem Fr.put [I:Rd]{n:Nat}{L:List (Nat×Value)}{a:Act}(h:Fr n L a){d:Nat}(hd:I.ft n d=true)(v:Value):Fr n ((d,v)::L) (a.put (some d) v):=by
 unfold Rd.ft at hd
 rw[Bool.and_eq_true] at hd
 have F6:d<n:=Nat.le_of_ble_eq_true hd.1
 refine⟨by simp[Act.put,h.size],by simp[Act.put,h.defers],fun t u hu=> ?_,fun t u hu=> ?_⟩
 case refine_2=>
  have pV:d≠t:=fun e=>by subst e;rw[hu] at hd;exact Bool.noConfusion hd.2
  have:=h.fix t u hu
  simp[Act.put,ar2,pV,this]
 by_cases pV:d=t
 · subst pV
   rw[mK] at hu
   simp[Act.put,h.size,F6] at hu⊢
   exact hu
 · rw[k7 _ _ pV] at hu
   have:=h.get t u hu
   simp[Act.put,ar2,pV,this]
def sub:List (Nat×Value)→List (Nat×Value)→Prop
 |[],_=>True
 |p::r,L=>look L p.1=some p.2∧sub r L
theorem Q1{L' L:List (Nat×Value)}(h:sub L' L){t:Nat}{v:Value}(hv:look L' t=some v):look L t=some v:=by
 induction L' with
 |nil=>simp[look] at hv
 |cons p r ih=>
  obtain⟨d,u⟩:=p
  by_cases pV:d=t
  · subst pV
    rw[mK] at hv
    cases hv
    exact h.1
  · rw[k7 _ _ pV] at hv
    exact ih h.2 hv
theorem Fr.sub [Rd]{n:Nat}{L L':List (Nat×Value)}{a:Act}(h:Fr n L a)(hs:Dp.sub L' L):Fr n L' a:=
 ⟨h.size,h.defers,fun t v hv=>h.get t v (Q1 hs hv),h.fix⟩
section
variable (P:Program) (n:Nat)
def NK [Rd](K:Act→World→Prop)(L:List (Nat×Value))(w:World):Prop:=∀a,Fr n L a→K a w
def CW [I:Rd](c:Code)(Q:Exit→Act→World→Prop)(L:List (Nat×Value))(w:World):Prop:=∀a,Fr n L a→Code.wpIn I.F 0 P c Q a w
def WL [I:Rd](ops:Array Oper)(Q:Exit→Act→World→Prop)(l:List Oper)(L:List (Nat×Value))(w:World):Prop:=∀a,Fr n L a→wpListIn I.F 0 P ops Q l a w
def OW [I:Rd](Q:Exit→Act→World→Prop)(L:List (Nat×Value))(o:Oper)(w:World)(R:Value→World→Prop):Prop:=
 ∀(a:Act) (K:Act→World→Prop),(∀x v,ev L x=some v→a.eval x=v)→(∀v w',R v w'→K (a.put o.dst v) w')→o.wpIn I.F 0 P a w K Q
end
section
variable {P:Program} {n:Nat} {Q:Exit→Act→World→Prop} {L:List (Nat×Value)} {w:World} {ops:Array Oper} {rest:List Oper}
theorem CW.sub [Rd]{c:Code}{L':List (Nat×Value)}(hs:Dp.sub L' L)(h:CW P n c Q L' w):CW P n c Q L w:=fun a ha=>h a (ha.sub hs)
theorem WL.nil [Rd](h:NK n (Q .normal) L w):WL P n ops Q [] L w:=fun a ha=>wpListIn_nil (h a ha)
theorem WL.step [I:Rd]{d:Nat}{op:Op}{ty:TypeId}{pos:String}{af:Array Edge}{R:Value→World→Prop}(h:OW P Q L ⟨some d,op,ty,pos,af,none⟩ w R)(hd:I.ft n d=true)
  (k:∀v w',R v w'→WL P n ops Q rest ((d,v)::L) w'):WL P n ops Q (⟨some d,op,ty,pos,af,none⟩::rest) L w:=by
 intro a ha
 refine wpListIn_plain rfl fun K hK=> ?_
 exact h a K (fun x v hx=>ha.ev hx) fun v w' hr=>hK _ _ (k v w' hr _ (ha.put hd v))
theorem WL.ac0 [Rd]{op:Op}{ty:TypeId}{pos:String}{af:Array Edge}{R:Value→World→Prop}(h:OW P Q L ⟨none,op,ty,pos,af,none⟩ w R)
  (k:∀v w',R v w'→WL P n ops Q rest L w'):WL P n ops Q (⟨none,op,ty,pos,af,none⟩::rest) L w:=by
 intro a ha
 refine wpListIn_plain rfl fun K hK=> ?_
 exact h a K (fun x v hx=>ha.ev hx) fun v w' hr=>hK _ _ (k v w' hr _ ha)
theorem WL.gC [I:Rd]{d:Nat}{op:Op}{ty:TypeId}{pos:String}{af:Array Edge}{v:Value}(h:OW P Q L ⟨some d,op,ty,pos,af,none⟩ w (fun v' w'=>v'=v∧w'=w))(hd:I.ft n d=true)
  (k:WL P n ops Q rest ((d,v)::L) w):WL P n ops Q (⟨some d,op,ty,pos,af,none⟩::rest) L w:=
 WL.step h hd (by rintro v' w' ⟨rfl,rfl⟩;exact k)
theorem WL.Jk [I:Rd]{d:Nat}{op:Op}{ty:TypeId}{pos:String}{af:Array Edge}{R:Value→Prop}(h:OW P Q L ⟨some d,op,ty,pos,af,none⟩ w (fun v' w'=>w'=w∧R v'))(hd:I.ft n d=true)
  (k:∀v,R v→WL P n ops Q rest ((d,v)::L) w):WL P n ops Q (⟨some d,op,ty,pos,af,none⟩::rest) L w:=
 WL.step h hd (by rintro v' w' ⟨rfl,hr⟩;exact k v' hr)
theorem CW.region [Rd]{id:Nat}{l:List Oper}(h:WL P n l.toArray Q l L w):CW P n (.region id l.toArray false) Q L w:=fun a ha=>wpIn_region_lit (h a ha)
theorem CW.seq [I:Rd]{x y:Code}(h:∀K:Act→World→Prop,(∀L' w',CW P n y Q L' w'→NK n K L' w')→CW P n x (Exit.then K Q) L w):CW P n (.seq x y) Q L w:=
 fun a ha=>wpIn_seq (h (y.wpIn I.F 0 P Q) (fun _ _ hc a' eR=>hc a' eR) a ha)
theorem CW.skip [Rd](h:NK n (Q .normal) L w):CW P n .skip Q L w:=fun a ha=>wpIn_skip (h a ha)
theorem CW.exit [Rd]{id:Nat}(h:NK n (Q (.exit id)) L w):CW P n (.exit id) Q L w:=fun a ha=>wpIn_exit (h a ha)
theorem CW.block [Rd]{id:Nat}{c:Code}(h:CW P n c (Exit.inBlock id Q) L w):CW P n (.block id c) Q L w:=fun a ha=>wpIn_block (h a ha)
theorem CW.cond [Rd]{t:Nat}{x y:Code}{b:Bool}(hc:look L t=some (.bool b))(ht:b=true→CW P n x Q L w)(hf:b=false→CW P n y Q L w):CW P n (.cond (.tmp t) x y) Q L w:=
 fun a ha=>wpIn_cond_split (ha.ev (x:= .tmp t) hc) (fun h=>ht h a ha) (fun h=>hf h a ha)
def oZ:Nat→List Value→List (Nat×Value)
 |_,[]=>[]
 |k,v::r=>(k,v)::oZ (k+1) r
theorem Li(l:List Value):∀k t v,look (oZ k l) t=some v→k≤t∧l[t-k]? =some v:=by
 induction l with
 |nil=>intro k t v h;simp[oZ,look] at h
 |cons u r ih=>
  intro k t v h
  by_cases hk:k=t
  · subst hk
    rw[oZ,mK] at h
    simpa using h
  · rw[oZ,k7 _ _ hk] at h
    obtain⟨h1,h2⟩:=ih (k+1) t v h
    refine⟨by omega, ?_⟩
    rw[show t-k=(t-(k+1))+1 from by omega]
    simpa using h2
theorem enter{f:FuncId}{fn:Func}{c:Code}{l:List Value}{R:Ending→World→Prop}(hf:P.funcs[f]? =some fn)(hb:fn.body=some c)(hn:fn.ntmps=n)(hl:Nat.ble l.length n=true)
  (h:CW P n c (bodyPost P fn R) (oZ 0 l) w):Calls P f l.toArray w R:=by
 have Ue:l.length≤n:=by simpa using hl
 refine calls_of_wp hf hb (wpIn_wide.1 (h _ ⟨by simp[hn];omega,rfl,fun t v hv=> ?_,fun _ _ h=>by cases h⟩))
 obtain⟨_,h2⟩:=Li l 0 t v hv
 have ht:t<l.length:=(List.getElem?_eq_some_iff.1 h2).1
 simp only[Nat.sub_zero] at h2
 rw[Array.getElem?_append_left (by simpa using ht)]
 simpa using h2
end
theorem tx{α β:Type}{a:Option α}{f:α→Option β}{r:β}(h:a.bind f=some r):∃y,a=some y∧f y=some r:=by
 cases a with
 |none=>cases h
 |some y=>exact⟨y,rfl,h⟩
section
variable {σ ρ:Type}
inductive jS(step:σ→Option (σ⊕ρ)):Nat→σ→ρ→Prop
 |done {s r}:step s=some (.inr r)→jS step 0 s r
 |more {k s s' r}:step s=some (.inl s')→jS step k s' r→jS step (k+1) s r
theorem jS.det{step:σ→Option (σ⊕ρ)}{k k':Nat}{s:σ}{r r':ρ}(h:jS step k s r)(h':jS step k' s r'):r=r'∧k=k':=by
 induction h generalizing k' with
 |done e=>
  cases h' with
  |done e'=>rw[e] at e';cases e';exact⟨rfl,rfl⟩
  |more e' _=>rw[e] at e';cases e'
 |more e _ ih=>
  cases h' with
  |done e'=>rw[e] at e';cases e'
  |more e' h2=>
   rw[e] at e'
   cases e'
   obtain⟨h1,h3⟩:=ih h2
   exact⟨h1,by rw[h3]⟩
open Classical in
def uw(step:σ→Option (σ⊕ρ))(s:σ):Option ρ:=
 if h:∃r k,jS step k s r then some (asj h) else none
theorem least(p:Nat→Prop)(h:∃k,p k):∃m,p m∧∀j,p j→m≤j:=by
 obtain⟨k,hk⟩:=h
 induction k using Nat.strongRecOn with
 |_ k ih=>
  by_cases hs:∃j,j<k∧p j
  · obtain⟨j,hj,hp⟩:=hs
    exact ih j hj hp
  · exact⟨k,hk,fun j hj=>Nat.le_of_not_lt fun aK=>hs ⟨j,aK,hj⟩⟩
theorem Le{step:σ→Option (σ⊕ρ)}{s:σ}{r:ρ}:uw step s=some r↔∃k,jS step k s r:=by
 unfold uw
 split
 · rename_i h
   obtain⟨k,hk⟩:=asn h
   constructor
   · intro e;cases e;exact⟨k,hk⟩
   · rintro⟨k',bH⟩;rw[(hk.det bH).1]
 · rename_i h
   constructor
   · intro e;cases e
   · rintro⟨k,hk⟩;exact(h ⟨r,k,hk⟩).elim
theorem afI(step:σ→Option (σ⊕ρ))(s:σ):
  uw step s=match step s with
   |some (.inl s')=>uw step s'
   |some (.inr r)=>some r
   |none=>none:=by
 apply Option.ext
 intro r
 rw[Le]
 cases h:step s with
 |none=>
  constructor
  · rintro⟨k,hk⟩;cases hk<;>simp_all
  · intro e;cases e
 |some x=>
  cases x with
  |inl s'=>
   simp only
   rw[Le]
   constructor
   · rintro⟨k,hk⟩
     cases hk with
     |done e=>rw[h] at e;cases e
     |more e h2=>rw[h] at e;cases e;exact⟨_,h2⟩
   · rintro⟨k,hk⟩;exact⟨_,.more h hk⟩
  |inr r'=>
   simp only[aq3]
   constructor
   · rintro⟨k,hk⟩
     cases hk with
     |done e=>rw[h] at e;cases e;rfl
     |more e h2=>rw[h] at e;cases e
   · rintro rfl;exact⟨0,.done h⟩
variable {P:Program} {n:Nat} {Q:Exit→Act→World→Prop} {L:List (Nat×Value)} {w:World}
theorem CW.loop [Rd]{c:Code}(step:σ→Option (σ⊕ρ))(inv:σ→List (Nat×Value)→World→Prop){s0:σ}{r:ρ}(hr:uw step s0=some r)(h0:inv s0 L w)
  (round:∀(K:Act→World→Prop) s L' w',inv s L' w'→∀x,step s=some x→(∀r',x= .inr r'→r'=r)→(∀s' zf pi,x= .inl s'→inv s' zf pi→NK n K zf pi)→
    CW P n c (Exit.then K Q) L' w'):CW P n (.loop c) Q L w:=by
 intro a ha
 obtain⟨k,hk⟩:=Le.1 hr
 classical
 let I:Act→World→Prop:=fun a w=>∃s L,Fr n L a∧inv s L w∧∃k,jS step k s r
 let J:Nat→Act→World→Prop:=fun k a w=>∃s L,Fr n L a∧inv s L w∧jS step k s r
 have hIJ:∀a w,I a w→∃k,J k a w:=fun a w ⟨s,L,h1,h2,k,h3⟩=>⟨k,s,L,h1,h2,h3⟩
 let μ:Act→World→Nat:=fun a w=>if h:∃k,J k a w then asj (least _ h) else 0
 refine wpIn_loop I μ ⟨s0,L,ha,h0,k,hk⟩ ?_
 intro a1 w1 hI
 have hex:=hIJ a1 w1 hI
 have hμ:μ a1 w1=asj (least _ hex):=by simp only[μ];rw[dif_pos hex]
 obtain⟨s,L1,hf,hi,TT⟩:=(asn (least _ hex)).1
 generalize hm:asj (least _ hex)=m at*
 have key:∀x,step s=some x→(∀r',x= .inr r'→r'=r)∧(∀s',x= .inl s'→∃j,j<m∧jS step j s' r):=by
  intro x hx
  cases TT with
  |done e=>
   rw[hx] at e
   cases e
   exact⟨(fun r' h=>by cases h;rfl),(fun s' h=>by cases h)⟩
  |more e h2=>
   rw[hx] at e
   cases e
   exact⟨(fun r' h=>by cases h),(fun s' h=>by cases h;exact⟨_,Nat.lt_succ_self _,h2⟩)⟩
 have hx:∃x,step s=some x:=by
  cases TT with
  |done e=>exact⟨_,e⟩
  |more e _=>exact⟨_,e⟩
 obtain⟨x,hx⟩:=hx
 obtain⟨k1,k2⟩:=key x hx
 refine round (fun a' w'=>I a' w'∧μ a' w'<μ a1 w1) s L1 w1 hi x hx k1 ?_ a1 hf
 intro s' L2 w2 dj hinv a2 pX
 obtain⟨j,hj,TS⟩:=k2 s' dj
 have hJ:J j a2 w2:=⟨s',L2,pX,hinv,TS⟩
 refine⟨⟨s',L2,pX,hinv,j,TS⟩, ?_⟩
 rw[hμ]
 have UF:∃k,J k a2 w2:=⟨j,hJ⟩
 simp only[μ]
 rw[dif_pos UF]
 exact Nat.lt_of_le_of_lt ((asn (least _ UF)).2 j hJ) hj
end
end Dp
end Go.Proofs.YtncbfgppjfcijaaGreat
namespace Go.Proofs.YtncbfgppjfcijaaGreat
open Go Go.RowKit
namespace Dp
def gy(w:World)(a:Addr)(cs:List Value):Prop:=∀(j:Nat) (u:Value),cs[j]? =some u→w.cell? (a.add j)=some u
def bC{α:Type}(R:List Value→α→Prop):List (List Value)→List α→Prop
 |[],[]=>True
 |c::cs,x::xs=>R c x∧bC R cs xs
 |_,_=>False
theorem bC.length{α:Type}{R:List Value→α→Prop}:∀{cs:List (List Value)} {xs:List α},bC R cs xs→cs.length=xs.length
 |[],[],_=>rfl
 |_::_,_::_,h=>by simp[bC.length h.2]
 |[],_::_,h=>h.elim
 |_::_,[],h=>h.elim
theorem bC.mono{α:Type}{R R':List Value→α→Prop}(hr:∀c x,R c x→R' c x):∀{cs:List (List Value)} {xs:List α},bC R cs xs→bC R' cs xs
 |[],[],_=>trivial
 |_::_,_::_,h=>⟨hr _ _ h.1,bC.mono hr h.2⟩
 |[],_::_,h=>h.elim
 |_::_,[],h=>h.elim
theorem bC.get{α:Type}{R:List Value→α→Prop}:∀{cs:List (List Value)} {xs:List α},bC R cs xs→∀{i:Nat} {x:α},xs[i]? =some x→∃c,cs[i]? =some c∧R c x
 |[],[],_,i,x,hx=>by simp at hx
 |c::cs,y::ys,h,0,x,hx=>by
  have:y=x:=by simpa using hx
  exact⟨c,rfl,this▸h.1⟩
 |c::cs,y::ys,h,i+1,x,hx=>by
  obtain⟨c',h1,h2⟩:=bC.get h.2 (i:=i) (x:=x) (by simpa using hx)
  exact⟨c',by simpa using h1,h2⟩
 |[],_::_,h,_,_,_=>h.elim
 |_::_,[],h,_,_,_=>h.elim
theorem bC.append{α:Type}{R:List Value→α→Prop}:∀{cs ds:List (List Value)} {xs ys:List α},bC R cs xs→bC R ds ys→bC R (cs++ds) (xs++ys)
 |[],_,[],_,_,h'=>h'
 |_::_,_,_::_,_,h,h'=>⟨h.1,bC.append h.2 h'⟩
 |[],_,_::_,_,h,_=>h.elim
 |_::_,_,[],_,h,_=>h.elim
theorem bC.set{α:Type}{R:List Value→α→Prop}:∀{cs:List (List Value)} {xs:List α},bC R cs xs→∀(i:Nat) {c:List Value} {x:α},R c x→bC R (cs.set i c) (xs.set i x)
 |[],[],_,_,_,_,_=>trivial
 |_::_,_::_,h,0,_,_,hr=>⟨hr,h.2⟩
 |_::_,_::_,h,i+1,_,_,hr=>⟨h.1,bC.set h.2 i hr⟩
 |[],_::_,h,_,_,_,_=>h.elim
 |_::_,[],h,_,_,_,_=>h.elim
theorem bC.drop{α:Type}{R:List Value→α→Prop}:∀{cs:List (List Value)} {xs:List α},bC R cs xs→∀(i:Nat),bC R (cs.drop i) (xs.drop i)
 |_,_,h,0=>by simpa using h
 |[],[],_,i+1=>trivial
 |_::_,_::_,h,i+1=>by simpa using bC.drop h.2 i
 |[],_::_,h,_=>h.elim
 |_::_,[],h,_=>h.elim
theorem bC.take{α:Type}{R:List Value→α→Prop}:∀{cs:List (List Value)} {xs:List α},bC R cs xs→∀(i:Nat),bC R (cs.take i) (xs.take i)
 |_,_,h,0=>by simp[bC]
 |[],[],_,i+1=>trivial
 |_::_,_::_,h,i+1=>by simpa[bC] using⟨h.1,bC.take h.2 i⟩
 |[],_::_,h,_=>h.elim
 |_::_,[],h,_=>h.elim
theorem bC.mem{α:Type}{R:List Value→α→Prop}:∀{cs:List (List Value)} {xs:List α},bC R cs xs→∀c∈cs,∃x,R c x
 |[],[],_,c,hc=>by cases hc
 |_::_,x::_,h,c,hc=>by
  rcases List.mem_cons.1 hc with rfl|hc
  · exact⟨x,h.1⟩
  · exact bC.mem h.2 c hc
 |[],_::_,h,_,_=>h.elim
 |_::_,[],h,_,_=>h.elim
theorem bC.replicate{α:Type}{R:List Value→α→Prop}{c:List Value}{x:α}(h:R c x):∀n,bC R (aqS n c) (aqS n x)
 |0=>trivial
 |n+1=>⟨h,bC.replicate h n⟩
class ab(α:Type) where
 sz:Nat
 agg:Bool
 zc:List Value
 zero:α
 rd:(Nat→Prop)→World→List Value→α→Prop
 len:∀{S w cs x},rd S w cs x→cs.length=sz
 one:∀{S w cs x},rd S w cs x→∀u∈cs,u.oneCell'=true
 mono:∀{S S':Nat→Prop} {w w':World} {cs x},(∀b,S b→b<w.heap.size→S' b∧w'.heap[b]? =w.heap[b]?)→rd S w cs x→rd S' w' cs x
 flat:agg=false→sz=1
 pos:0<sz
 d_:∀S w,rd S w zc zero
def pack(g:Bool)(cs:List Value):Value:=if g then .agg cs.toArray else cs.headD undef
section
variable {α:Type} [ab α]
def Rv(S:Nat→Prop)(w:World)(v:Value)(x:α):Prop:=∃cs,v=pack (ab.agg α) cs∧ab.rd S w cs x
def ru(S:Nat→Prop)(w:World)(pa:Addr)(x:α):Prop:=∃cs,ab.rd S w cs x∧S pa.block∧gy w pa cs
theorem qF{S:Nat→Prop}{w:World}{cs:List Value}{x:α}(h:ab.rd S w cs x):(pack (ab.agg α) cs).cells.toList=cs:=by
 cases hg:ab.agg α with
 |true=>simp[pack,Value.cells]
 |false=>
  have hl:=ab.len h
  rw[ab.flat hg] at hl
  match cs,hl with
  |[u],_=>
   have:=ab.one h u (by simp)
   cases u<;>simp_all [pack,Value.cells,Value.oneCell']
theorem Rv.mono{S S':Nat→Prop}{w w':World}{v:Value}{x:α}(hm:∀b,S b→b<w.heap.size→S' b∧w'.heap[b]? =w.heap[b]?)(h:Rv S w v x):Rv S' w' v x:=by
 obtain⟨cs,h1,h2⟩:=h
 exact⟨cs,h1,ab.mono hm h2⟩
theorem Rv.weaken{S S':Nat→Prop}{w:World}{v:Value}{x:α}(hm:∀b,S b→S' b)(h:Rv S w v x):Rv S' w v x:=h.mono fun b hb _=>⟨hm b hb,rfl⟩
theorem gy.lt{w:World}{a:Addr}{cs:List Value}(h:gy w a cs)(hp:0<cs.length):a.block<w.heap.size:=by
 have:=h 0 cs[0] (by simp[hp])
 exact World.block_lt_of_cell? w a (u:=cs[0]) (by simpa[Addr.add] using this)
theorem H'(a:Addr)(j:Nat):(a.add j).block=a.block:=by unfold Addr.add;split<;>rfl
theorem gy.mono{w w':World}{a:Addr}{cs:List Value}(h:gy w a cs)(hb:w'.heap[a.block]? =w.heap[a.block]?):gy w' a cs:=by
 intro j u hu
 have:=h j u hu
 rw[←this]
 exact World.cell?_of_block (by rw[H'];exact hb)
theorem ru.mono{S S':Nat→Prop}{w w':World}{pa:Addr}{x:α}(hm:∀b,S b→b<w.heap.size→S' b∧w'.heap[b]? =w.heap[b]?)(h:ru S w pa x):ru S' w' pa x:=by
 obtain⟨cs,h1,h2,h3⟩:=h
 have aK:=h3.lt (by rw[ab.len h1];exact ab.pos)
 have hh:=hm _ h2 aK
 exact⟨cs,ab.mono hm h1,hh.1,h3.mono hh.2⟩
end
instance:ab Int where
 sz:=1
 agg:=false
 zc:=[.int .i64 0]
 zero:=0
 rd:=fun _ _ cs x=>cs=[.int .i64 x]
 len:=by rintro S w cs x rfl;rfl
 one:=by rintro S w cs x rfl u hu;simp at hu;subst hu;rfl
 mono:=fun _ h=>h
 flat:=fun _=>rfl
 pos:=Nat.one_pos
 d_:=fun _ _=>rfl
instance:ab Bool where
 sz:=1
 agg:=false
 zc:=[.bool false]
 zero:=false
 rd:=fun _ _ cs x=>cs=[.bool x]
 len:=by rintro S w cs x rfl;rfl
 one:=by rintro S w cs x rfl u hu;simp at hu;subst hu;rfl
 mono:=fun _ h=>h
 flat:=fun _=>rfl
 pos:=Nat.one_pos
 d_:=fun _ _=>rfl
instance:ab ByteArray where
 sz:=1
 agg:=false
 zc:=[.string arX]
 zero:=arX
 rd:=fun _ _ cs x=>cs=[.string x]
 len:=by rintro S w cs x rfl;rfl
 one:=by rintro S w cs x rfl u hu;simp at hu;subst hu;rfl
 mono:=fun _ h=>h
 flat:=fun _=>rfl
 pos:=Nat.one_pos
 d_:=fun _ _=>rfl
structure U8 where
 n:Int
instance:ab U8 where
 sz:=1
 agg:=false
 zc:=[.int .u8 0]
 zero:=⟨0⟩
 rd:=fun _ _ cs x=>cs=[.int .u8 x.n]
 len:=by rintro S w cs x rfl;rfl
 one:=by rintro S w cs x rfl u hu;simp at hu;subst hu;rfl
 mono:=fun _ h=>h
 flat:=fun _=>rfl
 pos:=Nat.one_pos
 d_:=fun _ _=>rfl
instance{α β:Type}[ab α][ab β]:ab (α×β) where
 sz:=ab.sz α+ab.sz β
 agg:=true
 zc:=ab.zc α++ab.zc β
 zero:=(ab.zero,ab.zero)
 rd:=fun S w cs x=>∃c1 c2,cs=c1++c2∧ab.rd S w c1 x.1∧ab.rd S w c2 x.2
 len:=by
  rintro S w cs x ⟨c1,c2,rfl,h1,h2⟩
  simp[ab.len h1,ab.len h2]
 one:=by
  rintro S w cs x ⟨c1,c2,rfl,h1,h2⟩ u hu
  rcases List.mem_append.1 hu with hu|hu
  · exact ab.one h1 u hu
  · exact ab.one h2 u hu
 mono:=by
  rintro S S' w w' cs x hm ⟨c1,c2,rfl,h1,h2⟩
  exact⟨c1,c2,rfl,ab.mono hm h1,ab.mono hm h2⟩
 flat:=by simp
 pos:=asb ab.pos (Nat.le_add_right _ _)
 d_:=fun S w=>⟨_,_,rfl,ab.d_ S w,ab.d_ S w⟩
instance{α:Type}[ab α]:ab (List α) where
 sz:=1
 agg:=false
 zc:=[.slice none 0 0]
 zero:=[]
 rd:=fun S w cs xs=>∃p cap,cs=[.slice p xs.length cap]∧xs.length≤cap∧cap≤maxLen∧(xs=[]∨∃a aw,p=some a∧S a.block∧bC (ab.rd S w) aw xs∧gy w a aw.flatten)
 len:=by rintro S w cs x ⟨p,cap,rfl,_⟩;rfl
 one:=by rintro S w cs x ⟨p,cap,rfl,_⟩ u hu;simp at hu;subst hu;rfl
 mono:=by
  rintro S S' w w' cs xs hm ⟨p,cap,rfl,h1,h2,h3⟩
  refine⟨p,cap,rfl,h1,h2, ?_⟩
  rcases h3 with h3|⟨a,aw,rfl,hs,ha,hc⟩
  · exact .inl h3
  · by_cases hx:xs=[]
    · exact .inl hx
    · have hp:0<aw.flatten.length:=by
       match aw,xs,ha with
       |[],[],_=>exact(hx rfl).elim
       |c::aw,x::xs,ha=>
        have:=ab.len ha.1
        have:=ab.pos (α:=α)
        simp
        omega
      have hh:=hm _ hs (hc.lt hp)
      exact .inr ⟨a,aw,rfl,hh.1,ha.mono fun _ _=>ab.mono hm,hc.mono hh.2⟩
 flat:=fun _=>rfl
 pos:=Nat.one_pos
 d_:=fun S w=>⟨none,0,rfl,aqM _,Nat.zero_le _,.inl rfl⟩
@[reducible] def ab.via {α β:Type} [ab α] (to:β→α) (z:β) (hz:to z=ab.zero):ab β where
  sz:=ab.sz α
  agg:=true
  zc:=ab.zc α
  zero:=z
  rd:=fun S w cs x=>ab.rd S w cs (to x)
  len:=fun h=>ab.len h
  one:=fun h=>ab.one h
  mono:=fun hm h=>ab.mono hm h
  flat:=by simp
  pos:=ab.pos (α:=α)
  d_:=fun S w=>by rw[hz];exact ab.d_ S w
theorem adD{S:Nat→Prop}{w:World}{v:Value}{x:Bool}:Rv S w v x↔v= .bool x:=by
 constructor
 · rintro⟨cs,rfl,h⟩
   have:cs=[.bool x]:=h
   subst this;rfl
 · rintro rfl;exact⟨_,rfl,rfl⟩
theorem om{α:Type}[ab α]{S:Nat→Prop}{w:World}{v:Value}{xs:List α}(h:Rv S w v xs):∃p cap,v= .slice p xs.length cap∧xs.length≤cap∧cap≤maxLen∧
  (xs=[]∨∃a aw,p=some a∧S a.block∧bC (ab.rd S w) aw xs∧gy w a aw.flatten):=by
 obtain⟨cs,rfl,p,cap,rfl,h1,h2,h3⟩:=h
 exact⟨p,cap,rfl,h1,h2,h3⟩
theorem wY{α:Type}[ab α](S:Nat→Prop)(w:World):Rv S w (.slice none 0 0) ([]:List α):=⟨_,rfl,ab.d_ S w⟩
abbrev bL:=Nat→Nat
def In(o:bL)(K:List Nat):Nat→Prop:=fun b=>o b∈K
structure ba(M N:List Nat)(o:bL)(w:World)(o':bL)(w':World):Prop where
 os:w'.os=w.os
 tape:w'.tape=w.tape
 output:w'.output=w.output
 size:w.heap.size≤w'.heap.size
 dW:∀b,b<w.heap.size→o' b=o b
 new:∀b,w.heap.size≤b→b<w'.heap.size→o' b∈N
 jP:∀b,b<w.heap.size→o b∉M→w'.heap[b]? =w.heap[b]?
theorem ba.refl(M N:List Nat)(o:bL)(w:World):ba M N o w o w:=⟨rfl,rfl,rfl,aqM _,fun _ _=>rfl,fun b h1 h2=>by omega,fun _ _ _=>rfl⟩
theorem ba.trans{M N:List Nat}{o o1 o2:bL}{w w1 w2:World}(h:ba M N o w o1 w1)(k:ba M N o1 w1 o2 w2):ba M N o w o2 w2:=by
 refine⟨k.os.trans h.os,k.tape.trans h.tape,k.output.trans h.output,Nat.le_trans h.size k.size,fun b hb=> ?_,fun b h1 h2=> ?_,fun b hb hm=> ?_⟩
 · rw[k.dW b (asb hb h.size),h.dW b hb]
 · by_cases aK:b<w1.heap.size
   · rw[k.dW b aK];exact h.new b h1 aK
   · exact k.new b (by omega) h2
 · have M8:=asb hb h.size
   rw[k.jP b M8 (by rw[h.dW b hb];exact hm),h.jP b hb hm]
theorem ba.weaken{M N M' N':List Nat}{o o':bL}{w w':World}(h:ba M N o w o' w')(hM:∀x∈M,x∈M')(hN:∀x∈N,x∈N'):ba M' N' o w o' w':=
 ⟨h.os,h.tape,h.output,h.size,h.dW,fun b h1 h2=>hN _ (h.new b h1 h2),fun b hb hm=>h.jP b hb fun hx=>hm (hM _ hx)⟩
def gJ(K M:List Nat):Bool:=K.all fun x=>M.all fun y=> !(aqH x y)
theorem B9{K M:List Nat}(h:gJ K M=true){x:Nat}(hx:x∈K):x∉M:=by
 intro hy
 have h1:=aq0.1 h x hx
 have h2:=aq0.1 h1 x hy
 simp at h2
section
variable {M N K K':List Nat} {o o':bL} {w w':World}
theorem ba.ro(h:ba M N o w o' w')(hd:gJ K M=true):∀b,In o K b→b<w.heap.size→In o' K b∧w'.heap[b]? =w.heap[b]? :=fun b hb aK=>
 ⟨by unfold In;rw[h.dW b aK];exact hb,h.jP b aK (B9 hd hb)⟩
theorem Rv.m9{α:Type}[ab α]{v:Value}{x:α}(r:Rv (In o K) w v x)(h:ba M N o w o' w')(hd:gJ K M=true):Rv (In o' K) w' v x:=r.mono (h.ro hd)
end
def Ow{α:Type}[ab α](T:TypeId)(o:bL)(k:Nat)(K:List Nat)(w:World)(v:Value)(xs:List α):Prop:=
 (v= .slice none 0 0∧xs=[])∨
 ∃g cap aL aw,v= .slice (some ⟨g,0,none⟩) xs.length cap∧o g=k∧w.heap[g]? =some (.cells aL T (0,0))∧xs.length≤cap∧cap≤maxLen∧aL.size=cap*ab.sz α∧
  bC (ab.rd (In o K) w) aw xs∧aL.toList.take (xs.length*ab.sz α)=aw.flatten
section
variable {α:Type} [ab α] {M N K K':List Nat} {o o':bL} {w w':World} {c k:Nat}
theorem Ow.rv{T:TypeId}{v:Value}{xs:List α}(r:Ow T o k K w v xs):Rv (In o (k::K)) w v xs:=by
 rcases r with⟨rfl,rfl⟩|⟨g,cap,aL,aw,rfl,h2,h3,h4,h5,h6,h7,h8⟩
 · exact wY _ _
 · refine⟨_,rfl,some ⟨g,0,none⟩,cap,rfl,h4,h5,.inr ⟨⟨g,0,none⟩,aw,rfl, ?_,h7.mono fun _ _=>ab.mono (fun b hb _=>⟨List.mem_cons_of_mem _ hb,rfl⟩), ?_⟩⟩
   · show o g∈k::K
     rw[h2];exact List.mem_cons_self
   · intro j u hu
     have dL:(⟨g,0,none⟩:Addr).add j=⟨g,j,none⟩:=by unfold Addr.add;split<;>simp_all
     rw[dL,cell_of_row w g j aL T (0,0) h3]
     rw[←h8,List.getElem?_take] at hu
     split at hu
     · simpa using hu
     · cases hu
theorem Ow.nil(T:TypeId)(o:bL)(k:Nat)(K:List Nat)(w:World):Ow T o k K w (.slice none 0 0) ([]:List α):= .inl ⟨rfl,rfl⟩
end
def grow(o:bL)(w:World)(n:Nat):bL:=fun b=>if b<w.heap.size then o b else n
theorem ba.fresh{o:bL}{w w':World}(n:Nat)(h:Below w.heap.size w w'):ba [] [n] o w (grow o w n) w':=
 ⟨h.os,h.tape,h.output,h.size,fun b hb=>by simp[grow,hb],fun b h1 _=>by simp[grow,Nat.not_lt.2 h1],fun b hb _=>h.block b hb⟩
end Dp
end Go.Proofs.YtncbfgppjfcijaaGreat
