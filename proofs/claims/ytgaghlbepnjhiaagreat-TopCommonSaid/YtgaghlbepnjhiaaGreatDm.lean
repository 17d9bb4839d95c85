import Derived.WalkKit
import Derived.WalkSpells
import Derived.WalkLawsBesides
import Derived.Laws.AppendOwnNone
import Derived.TacticsIn
import Derived.OrdersIn
set_option linter.all false
open Array renaming getElem?_setIfInBounds->F8
open Bool renaming false->ae,true->ab
open ByteArray renaming empty->tz
open Classical renaming choose->Y0,choose_spec->alO
open Go renaming Code->bO,Oper->aV,Program->cT,TypeId->aX,Value->ai,World->ax
open List renaming all_eq_true->dX,replicate->cR
open Nat renaming beq->aW,le_refl->bw,lt_of_lt_of_le->F1
open Option renaming some->aa
open Option.some renaming injEq->fK
noncomputable section
namespace Go.Proofs.YtgaghlbepnjhiaaGreat
def sf:=@beq_iff_eq
def QG:=@beq_self_eq_true
def kG:=@bne_self_eq_false
def sd:=@cond_false
def wi:=@cond_true
def iF:=@congrArg
def Ch:=@decide_eq_decide
def J1:=@decide_eq_false
def wh:=@decide_eq_true
def alM:=@decide_eq_true_eq
def YX:=@decide_eq_true_iff
def YW:=@false_implies
def aB:=@if_false
def aK:=@if_neg
def aI:=@if_pos
def aH:=@if_true
def mR:=@of_decide_eq_false
def jJ:=@of_decide_eq_true
def kF:=@or_false
open Go Go.RowKit
namespace Dp
class Rd where
 ro:Option Nat
 ds:List Deferred
 fix:Nat->Option ai
instance(priority:=low) Rd.plain:Rd:=⟨none,[],λ_=>none⟩
def Rd.fb(I:Rd)(n t:Nat):Bool:=Nat.blt t n&&(I.fix t).isNone
def Rd.F(I:Rd):Fence:={Fence.wide with round:=I.ro}
def Rd.fn(I:Rd)(f:FuncId):I.F.fn f:=trivial
def look:List (Nat×ai)->Nat->Option ai
 |[],_=>none
 |p::r,t=>cond (aW p.1 t) (aa p.2) (look r t)
structure Fr [I:Rd](n:Nat)(L:List (Nat×ai))(a:Act):Prop where
 size:a.tmps.size=n
 defers:a.defers=I.ds
 get:∀t v,look L t=aa v->a.tmps[t]? =aa v
 fix:∀t v,I.fix t=aa v->a.tmps[t]? =aa v
def ev(L:List (Nat×ai)):Operand->Option ai
 | .tmp t=>look L t
 | .const v=>aa v
 | .func f=>aa (.func (.func f) #[] #[])
 | .global g=>aa (.pointer (aa ⟨g,0,none⟩))
def Fr.ev [Rd]{n:Nat}{L:List (Nat×ai)}{a:Act}(h:Fr n L a){x:Operand}{v:ai}(hx:Dp.ev L x=aa v):a.eval x=v:=by
 cases x with
 |tmp t=>have hg:=h.get t v hx;simp[Act.eval,hg]
 |const u=>simpa[Dp.ev,Act.eval]using hx
 |global g=>simpa[Dp.ev,Act.eval]using hx
 |func f=>simpa[Dp.ev,Act.eval]using hx
def iX(d:Nat)(v:ai)(L:List (Nat×ai)):look ((d,v)::L) d=aa v:=by simp[look]
def il{d t:Nat}(v:ai)(L:List (Nat×ai))(h:d≠t):look ((d,v)::L) t=look L t:=by
 have:aW d t=ae:=by
  rcases hb:aW d t with _|_
  ·rfl
  ·exact(h (Nat.eq_of_beq_eq_true hb)).elim
 simp[look,this]
def Fr.put [I:Rd]{n:Nat}{L:List (Nat×ai)}{a:Act}(h:Fr n L a){d:Nat}(hd:I.fb n d=ab)(v:ai):Fr n ((d,v)::L) (a.put (aa d) v):=by
 unfold Rd.fb at hd;rw[Bool.and_eq_true]at hd;have NE:d<n:=Nat.le_of_ble_eq_true hd.1;refine⟨by simp[Act.put,h.size],by simp[Act.put,h.defers],λt u hu=>?_,λt u hu=>?_⟩
 case refine_2=>
  have vM:d≠t:=λe=>by subst e;rw[hu]at hd;exact Bool.noConfusion hd.2
  have:=h.fix t u hu;simp[Act.put,F8,vM,this]
 by_cases vM:d=t
 ·subst vM;rw[iX]at hu;simp[Act.put,h.size,NE]at hu⊢;exact hu
 ·rw[il _ _ vM]at hu;have:=h.get t u hu;simp[Act.put,F8,vM,this]
def sub:List (Nat×ai)->List (Nat×ai)->Prop
 |[],_=>True
 |p::r,L=>look L p.1=aa p.2∧sub r L
def aoL{L' L:List (Nat×ai)}(h:sub L' L){t:Nat}{v:ai}(hv:look L' t=aa v):look L t=aa v:=by
 induction L' with
 |nil=>simp[look]at hv
 |cons p r ih=>
  obtain⟨d,u⟩:=p;by_cases vM:d=t
  ·subst vM;rw[iX]at hv;cases hv;exact h.1
  ·rw[il _ _ vM]at hv;exact ih h.2 hv
def Fr.sub [Rd]{n:Nat}{L L':List (Nat×ai)}{a:Act}(h:Fr n L a)(hs:Dp.sub L' L):Fr n L' a:=⟨h.size,h.defers,λt v hv=>h.get t v (aoL hs hv),h.fix⟩
section
variable (P:cT) (n:Nat)
def NK [Rd](K:Act->ax->Prop)(L:List (Nat×ai))(w:ax):Prop:=∀a,Fr n L a->K a w
def CW [I:Rd](c:bO)(Q:Exit->Act->ax->Prop)(L:List (Nat×ai))(w:ax):Prop:=∀a,Fr n L a->bO.wpIn I.F 0 P c Q a w
def WL [I:Rd](ops:Array aV)(Q:Exit->Act->ax->Prop)(l:List aV)(L:List (Nat×ai))(w:ax):Prop:=∀a,Fr n L a->wpListIn I.F 0 P ops Q l a w
def OW [I:Rd](Q:Exit->Act->ax->Prop)(L:List (Nat×ai))(o:aV)(w:ax)(R:ai->ax->Prop):Prop:=∀(a:Act) (K:Act->ax->Prop),(∀x v,ev L x=aa v->a.eval x=v)->(∀v w',R v w'->K (a.put o.dst v) w')->o.wpIn I.F 0 P a w K Q
end
section
variable {P:cT} {n:Nat} {Q:Exit->Act->ax->Prop} {L:List (Nat×ai)} {w:ax} {ops:Array aV} {rest:List aV}
def CW.sub [Rd]{c:bO}{L':List (Nat×ai)}(hs:Dp.sub L' L)(h:CW P n c Q L' w):CW P n c Q L w:=λa ha=>h a (ha.sub hs)
def WL.nil [Rd](h:NK n (Q .normal) L w):WL P n ops Q [] L w:=λa ha=>wpListIn_nil (h a ha)
def WL.step [I:Rd]{d:Nat}{op:Op}{ty:aX}{pos:String}{af:Array Edge}{R:ai->ax->Prop}(h:OW P Q L ⟨aa d,op,ty,pos,af,none⟩ w R)(hd:I.fb n d=ab)
  (k:∀v w',R v w'->WL P n ops Q rest ((d,v)::L) w'):WL P n ops Q (⟨aa d,op,ty,pos,af,none⟩::rest) L w:=by
 intro a ha
 refine wpListIn_plain rfl λK hK=>?_
 exact h a K (λx v hx=>ha.ev hx) λv w' hr=>hK _ _ (k v w' hr _ (ha.put hd v))
def WL.aoV [Rd]{op:Op}{ty:aX}{pos:String}{af:Array Edge}{R:ai->ax->Prop}(h:OW P Q L ⟨none,op,ty,pos,af,none⟩ w R)
  (k:∀v w',R v w'->WL P n ops Q rest L w'):WL P n ops Q (⟨none,op,ty,pos,af,none⟩::rest) L w:=by
 intro a ha
 refine wpListIn_plain rfl λK hK=>?_
 exact h a K (λx v hx=>ha.ev hx) λv w' hr=>hK _ _ (k v w' hr _ ha)
def WL.lW [I:Rd]{d:Nat}{op:Op}{ty:aX}{pos:String}{af:Array Edge}{v:ai}(h:OW P Q L ⟨aa d,op,ty,pos,af,none⟩ w (λv' w'=>v'=v∧w'=w))(hd:I.fb n d=ab)
  (k:WL P n ops Q rest ((d,v)::L) w):WL P n ops Q (⟨aa d,op,ty,pos,af,none⟩::rest) L w:=
 WL.step h hd (by rintro v' w' ⟨rfl,rfl⟩;exact k)
def WL.aaG [I:Rd]{d:Nat}{op:Op}{ty:aX}{pos:String}{af:Array Edge}{R:ai->Prop}(h:OW P Q L ⟨aa d,op,ty,pos,af,none⟩ w (λv' w'=>w'=w∧R v'))(hd:I.fb n d=ab)
  (k:∀v,R v->WL P n ops Q rest ((d,v)::L) w):WL P n ops Q (⟨aa d,op,ty,pos,af,none⟩::rest) L w:=
 WL.step h hd (by rintro v' w' ⟨rfl,hr⟩;exact k v' hr)
def CW.region [Rd]{id:Nat}{l:List aV}(h:WL P n l.toArray Q l L w):CW P n (.region id l.toArray ae) Q L w:=λa ha=>wpIn_region_lit (h a ha)
def CW.seq [I:Rd]{x y:bO}(h:∀K:Act->ax->Prop,(∀L' w',CW P n y Q L' w'->NK n K L' w')->CW P n x (Exit.then K Q) L w):CW P n (.seq x y) Q L w:=
 λa ha=>wpIn_seq (h (y.wpIn I.F 0 P Q) (λ_ _ hc a' jY=>hc a' jY) a ha)
def CW.skip [Rd](h:NK n (Q .normal) L w):CW P n .skip Q L w:=λa ha=>wpIn_skip (h a ha)
def CW.exit [Rd]{id:Nat}(h:NK n (Q (.exit id)) L w):CW P n (.exit id) Q L w:=λa ha=>wpIn_exit (h a ha)
def CW.block [Rd]{id:Nat}{c:bO}(h:CW P n c (Exit.inBlock id Q) L w):CW P n (.block id c) Q L w:=λa ha=>wpIn_block (h a ha)
def CW.cond [Rd]{t:Nat}{x y:bO}{b:Bool}(hc:look L t=aa (.bool b))(ht:b=ab->CW P n x Q L w)(hf:b=ae->CW P n y Q L w):CW P n (.cond (.tmp t) x y) Q L w:=
 λa ha=>wpIn_cond_split (ha.ev (x:= .tmp t) hc) (λh=>ht h a ha) (λh=>hf h a ha)
def tu:Nat->List ai->List (Nat×ai)
 |_,[]=>[]
 |k,v::r=>(k,v)::tu (k+1) r
def TF(l:List ai):∀k t v,look (tu k l) t=aa v->k<=t∧l[t-k]? =aa v:=by
 induction l with
 |nil=>intro k t v h;simp[tu,look]at h
 |cons u r ih=>
  intro k t v h;by_cases hk:k=t
  ·subst hk;rw[tu,iX]at h;simpa using h
  ·rw[tu,il _ _ hk]at h;obtain⟨h1,h2⟩:=ih (k+1) t v h;refine⟨by omega,?_⟩;rw[show t-k=(t-(k+1))+1 from by omega];simpa using h2
def enter{f:FuncId}{fn:Func}{c:bO}{l:List ai}{R:Ending->ax->Prop}(hf:P.funcs[f]? =aa fn)(hb:fn.body=aa c)(hn:fn.ntmps=n)(hl:Nat.ble l.length n=ab)
  (h:CW P n c (bodyPost P fn R) (tu 0 l) w):Calls P f l.toArray w R:=by
 have pL:l.length<=n:=by simpa using hl
 refine calls_of_wp hf hb (wpIn_wide.1 (h _ ⟨by simp[hn];omega,rfl,λt v hv=>?_,λ_ _ h=>by cases h⟩))
 obtain⟨_,h2⟩:=TF l 0 t v hv
 have ht:t<l.length:=(List.getElem?_eq_some_iff.1 h2).1
 simp only[Nat.sub_zero]at h2
 rw[Array.getElem?_append_left (by simpa using ht)]
 simpa using h2
end
def nZ{α β:Type}{a:Option α}{f:α->Option β}{r:β}(h:a.bind f=aa r):∃y,a=aa y∧f y=aa r:=by
 cases a with
 |none=>cases h
 |some y=>exact⟨y,rfl,h⟩
section
variable {σ ρ:Type}
inductive mh(step:σ->Option (σ⊕ρ)):Nat->σ->ρ->Prop
 |done {s r}:step s=aa (.inr r)->mh step 0 s r
 |more {k s s' r}:step s=aa (.inl s')->mh step k s' r->mh step (k+1) s r
def mh.det{step:σ->Option (σ⊕ρ)}{k k':Nat}{s:σ}{r r':ρ}(h:mh step k s r)(h':mh step k' s r'):r=r'∧k=k':=by
 induction h generalizing k' with
 |done e=>
  cases h' with
  |done e'=>rw[e]at e';cases e';exact⟨rfl,rfl⟩
  |more e' _=>rw[e]at e';cases e'
 |more e _ ih=>
  cases h' with
  |done e'=>rw[e]at e';cases e'
  |more e' h2=>rw[e]at e';cases e';obtain⟨h1,h3⟩:=ih h2;exact⟨h1,by rw[h3]⟩
open Classical in
def AD(step:σ->Option (σ⊕ρ))(s:σ):Option ρ:=
 if h:∃r k,mh step k s r then aa (Y0 h)else none
def least(p:Nat->Prop)(h:∃k,p k):∃m,p m∧∀j,p j->m<=j:=by
 obtain⟨k,hk⟩:=h;induction k using Nat.strongRecOn with
 |_ k ih=>
  by_cases hs:∃j,j<k∧p j
  ·obtain⟨j,hj,hp⟩:=hs;exact ih j hj hp
  ·exact⟨k,hk,λj hj=>Nat.le_of_not_lt λaS=>hs ⟨j,aS,hj⟩⟩
def TB{step:σ->Option (σ⊕ρ)}{s:σ}{r:ρ}:AD step s=aa r↔∃k,mh step k s r:=by
 unfold AD;split
 ·rename_i h;obtain⟨k,hk⟩:=alO h;constructor
  ·intro e;cases e;exact⟨k,hk⟩
  ·rintro⟨k',da⟩;rw[(hk.det da).1]
 ·rename_i h;constructor
  ·intro e;cases e
  ·rintro⟨k,hk⟩;exact(h ⟨r,k,hk⟩).elim
def asy(step:σ->Option (σ⊕ρ))(s:σ):
  AD step s=match step s with
   |some (.inl s')=>AD step s'
   |some (.inr r)=>aa r
   |none=>none:=by
 apply Option.ext
 intro r
 rw[TB]
 cases h:step s with
 |none=>
  constructor
  ·rintro⟨k,hk⟩;cases hk<;>simp_all
  ·intro e;cases e
 |some x=>
  cases x with
  |inl s'=>
   simp only
   rw[TB]
   constructor
   ·rintro⟨k,hk⟩;cases hk with
    |done e=>rw[h]at e;cases e
    |more e h2=>rw[h]at e;cases e;exact⟨_,h2⟩
   ·rintro⟨k,hk⟩;exact⟨_,.more h hk⟩
  |inr r'=>
   simp only[fK]
   constructor
   ·rintro⟨k,hk⟩;cases hk with
    |done e=>rw[h]at e;cases e;rfl
    |more e h2=>rw[h]at e;cases e
   ·rintro rfl;exact⟨0,.done h⟩
variable {P:cT} {n:Nat} {Q:Exit->Act->ax->Prop} {L:List (Nat×ai)} {w:ax}
def CW.loop [Rd]{c:bO}(step:σ->Option (σ⊕ρ))(inv:σ->List (Nat×ai)->ax->Prop){s0:σ}{r:ρ}(hr:AD step s0=aa r)(h0:inv s0 L w)
  (round:∀(K:Act->ax->Prop) s L' w',inv s L' w'->∀x,step s=aa x->(∀r',x= .inr r'->r'=r)->(∀s' FM uY,x= .inl s'->inv s' FM uY->NK n K FM uY)->
    CW P n c (Exit.then K Q) L' w'):CW P n (.loop c) Q L w:=by
 intro a ha
 obtain⟨k,hk⟩:=TB.1 hr
 classical
 let I:Act->ax->Prop:=λa w=>∃s L,Fr n L a∧inv s L w∧∃k,mh step k s r
 let J:Nat->Act->ax->Prop:=λk a w=>∃s L,Fr n L a∧inv s L w∧mh step k s r
 have hIJ:∀a w,I a w->∃k,J k a w:=λa w ⟨s,L,h1,h2,k,h3⟩=>⟨k,s,L,h1,h2,h3⟩
 let μ:Act->ax->Nat:=λa w=>if h:∃k,J k a w then Y0 (least _ h)else 0
 refine wpIn_loop I μ ⟨s0,L,ha,h0,k,hk⟩ ?_
 intro a1 w1 hI
 have hex:=hIJ a1 w1 hI
 have hμ:μ a1 w1=Y0 (least _ hex):=by simp only[μ];rw[dif_pos hex]
 obtain⟨s,L1,hf,hi,adU⟩:=(alO (least _ hex)).1
 generalize hm:Y0 (least _ hex)=m at*
 have key:∀x,step s=aa x->(∀r',x= .inr r'->r'=r)∧(∀s',x= .inl s'->∃j,j<m∧mh step j s' r):=by
  intro x hx;cases adU with
  |done e=>rw[hx]at e;cases e;exact⟨(λr' h=>by cases h;rfl),(λs' h=>by cases h)⟩
  |more e h2=>rw[hx]at e;cases e;exact⟨(λr' h=>by cases h),(λs' h=>by cases h;exact⟨_,Nat.lt_succ_self _,h2⟩)⟩
 have hx:∃x,step s=aa x:=by
  cases adU with
  |done e=>exact⟨_,e⟩
  |more e _=>exact⟨_,e⟩
 obtain⟨x,hx⟩:=hx
 obtain⟨k1,k2⟩:=key x hx
 refine round (λa' w'=>I a' w'∧μ a' w'<μ a1 w1) s L1 w1 hi x hx k1 ?_ a1 hf
 intro s' L2 w2 eJ hinv a2 nl
 obtain⟨j,hj,adT⟩:=k2 s' eJ
 have hJ:J j a2 w2:=⟨s',L2,nl,hinv,adT⟩
 refine⟨⟨s',L2,nl,hinv,j,adT⟩,?_⟩
 rw[hμ]
 have aeF:∃k,J k a2 w2:=⟨j,hJ⟩
 simp only[μ]
 rw[dif_pos aeF]
 exact Nat.lt_of_le_of_lt ((alO (least _ aeF)).2 j hJ) hj
end
end Dp
end Go.Proofs.YtgaghlbepnjhiaaGreat
namespace Go.Proofs.YtgaghlbepnjhiaaGreat
open Go Go.RowKit
namespace Dp
def j_(w:ax)(a:Addr)(cs:List ai):Prop:=∀(j:Nat) (u:ai),cs[j]? =aa u->w.cell? (a.add j)=aa u
def cA{α:Type}(R:List ai->α->Prop):List (List ai)->List α->Prop
 |[],[]=>True
 |c::cs,x::xs=>R c x∧cA R cs xs
 |_,_=>False
def cA.length{α:Type}{R:List ai->α->Prop}:∀{cs:List (List ai)} {xs:List α},cA R cs xs->cs.length=xs.length
 |[],[],_=>rfl
 |_::_,_::_,h=>by simp[cA.length h.2]
 |[],_::_,h=>h.elim
 |_::_,[],h=>h.elim
def cA.mono{α:Type}{R R':List ai->α->Prop}(hr:∀c x,R c x->R' c x):∀{cs:List (List ai)} {xs:List α},cA R cs xs->cA R' cs xs
 |[],[],_=>trivial
 |_::_,_::_,h=>⟨hr _ _ h.1,cA.mono hr h.2⟩
 |[],_::_,h=>h.elim
 |_::_,[],h=>h.elim
def cA.get{α:Type}{R:List ai->α->Prop}:∀{cs:List (List ai)} {xs:List α},cA R cs xs->∀{i:Nat} {x:α},xs[i]? =aa x->∃c,cs[i]? =aa c∧R c x
 |[],[],_,i,x,hx=>by simp at hx
 |c::cs,y::ys,h,0,x,hx=>by
  have:y=x:=by simpa using hx
  exact⟨c,rfl,this▸h.1⟩
 |c::cs,y::ys,h,i+1,x,hx=>by obtain⟨c',h1,h2⟩:=cA.get h.2 (i:=i) (x:=x) (by simpa using hx);exact⟨c',by simpa using h1,h2⟩
 |[],_::_,h,_,_,_=>h.elim
 |_::_,[],h,_,_,_=>h.elim
def cA.append{α:Type}{R:List ai->α->Prop}:∀{cs ds:List (List ai)} {xs ys:List α},cA R cs xs->cA R ds ys->cA R (cs++ds) (xs++ys)
 |[],_,[],_,_,h'=>h'
 |_::_,_,_::_,_,h,h'=>⟨h.1,cA.append h.2 h'⟩
 |[],_,_::_,_,h,_=>h.elim
 |_::_,_,[],_,h,_=>h.elim
def cA.set{α:Type}{R:List ai->α->Prop}:∀{cs:List (List ai)} {xs:List α},cA R cs xs->∀(i:Nat) {c:List ai} {x:α},R c x->cA R (cs.set i c) (xs.set i x)
 |[],[],_,_,_,_,_=>trivial
 |_::_,_::_,h,0,_,_,hr=>⟨hr,h.2⟩
 |_::_,_::_,h,i+1,_,_,hr=>⟨h.1,cA.set h.2 i hr⟩
 |[],_::_,h,_,_,_,_=>h.elim
 |_::_,[],h,_,_,_,_=>h.elim
def cA.drop{α:Type}{R:List ai->α->Prop}:∀{cs:List (List ai)} {xs:List α},cA R cs xs->∀(i:Nat),cA R (cs.drop i) (xs.drop i)
 |_,_,h,0=>by simpa using h
 |[],[],_,i+1=>trivial
 |_::_,_::_,h,i+1=>by simpa using cA.drop h.2 i
 |[],_::_,h,_=>h.elim
 |_::_,[],h,_=>h.elim
def cA.take{α:Type}{R:List ai->α->Prop}:∀{cs:List (List ai)} {xs:List α},cA R cs xs->∀(i:Nat),cA R (cs.take i) (xs.take i)
 |_,_,h,0=>by simp[cA]
 |[],[],_,i+1=>trivial
 |_::_,_::_,h,i+1=>by simpa[cA]using⟨h.1,cA.take h.2 i⟩
 |[],_::_,h,_=>h.elim
 |_::_,[],h,_=>h.elim
def cA.mem{α:Type}{R:List ai->α->Prop}:∀{cs:List (List ai)} {xs:List α},cA R cs xs->∀c∈cs,∃x,R c x
 |[],[],_,c,hc=>by cases hc
 |_::_,x::_,h,c,hc=>by
  rcases List.mem_cons.1 hc with rfl|hc
  ·exact⟨x,h.1⟩
  ·exact cA.mem h.2 c hc
 |[],_::_,h,_,_=>h.elim
 |_::_,[],h,_,_=>h.elim
def cA.replicate{α:Type}{R:List ai->α->Prop}{c:List ai}{x:α}(h:R c x):∀n,cA R (cR n c) (cR n x)
 |0=>trivial
 |n+1=>⟨h,cA.replicate h n⟩
class ad(α:Type)where
 sz:Nat
 agg:Bool
 zc:List ai
 zero:α
 rd:(Nat->Prop)->ax->List ai->α->Prop
 len:∀{S w cs x},rd S w cs x->cs.length=sz
 one:∀{S w cs x},rd S w cs x->∀u∈cs,u.oneCell'=ab
 mono:∀{S S':Nat->Prop} {w w':ax} {cs x},(∀b,S b->b<w.heap.size->S' b∧w'.heap[b]? =w.heap[b]?)->rd S w cs x->rd S' w' cs x
 flat:agg=ae->sz=1
 pos:0<sz
 gh:∀S w,rd S w zc zero
def pack(g:Bool)(cs:List ai):ai:=if g then .agg cs.toArray else cs.headD undef
section
variable {α:Type} [ad α]
def Rv(S:Nat->Prop)(w:ax)(v:ai)(x:α):Prop:=∃cs,v=pack (ad.agg α) cs∧ad.rd S w cs x
def xE(S:Nat->Prop)(w:ax)(pa:Addr)(x:α):Prop:=∃cs,ad.rd S w cs x∧S pa.block∧j_ w pa cs
def wR{S:Nat->Prop}{w:ax}{cs:List ai}{x:α}(h:ad.rd S w cs x):(pack (ad.agg α) cs).cells.toList=cs:=by
 cases hg:ad.agg α with
 |true=>simp[pack,ai.cells]
 |false=>
  have hl:=ad.len h;rw[ad.flat hg]at hl;match cs,hl with
  |[u],_=>have:=ad.one h u (by simp);cases u<;>simp_all [pack,ai.cells,ai.oneCell']
def Rv.mono{S S':Nat->Prop}{w w':ax}{v:ai}{x:α}(hm:∀b,S b->b<w.heap.size->S' b∧w'.heap[b]? =w.heap[b]?)(h:Rv S w v x):Rv S' w' v x:=by obtain⟨cs,h1,h2⟩:=h;exact⟨cs,h1,ad.mono hm h2⟩
def Rv.weaken{S S':Nat->Prop}{w:ax}{v:ai}{x:α}(hm:∀b,S b->S' b)(h:Rv S w v x):Rv S' w v x:=h.mono λb hb _=>⟨hm b hb,rfl⟩
def j_.lt{w:ax}{a:Addr}{cs:List ai}(h:j_ w a cs)(hp:0<cs.length):a.block<w.heap.size:=by have:=h 0 cs[0] (by simp[hp]);exact ax.block_lt_of_cell? w a (u:=cs[0]) (by simpa[Addr.add]using this)
def P6(a:Addr)(j:Nat):(a.add j).block=a.block:=by unfold Addr.add;split<;>rfl
def j_.mono{w w':ax}{a:Addr}{cs:List ai}(h:j_ w a cs)(hb:w'.heap[a.block]? =w.heap[a.block]?):j_ w' a cs:=by intro j u hu;have:=h j u hu;rw[<-this];exact ax.cell?_of_block (by rw[P6];exact hb)
def xE.mono{S S':Nat->Prop}{w w':ax}{pa:Addr}{x:α}(hm:∀b,S b->b<w.heap.size->S' b∧w'.heap[b]? =w.heap[b]?)(h:xE S w pa x):xE S' w' pa x:=by obtain⟨cs,h1,h2,h3⟩:=h;have aS:=h3.lt (by rw[ad.len h1];exact ad.pos);have hh:=hm _ h2 aS;exact⟨cs,ad.mono hm h1,hh.1,h3.mono hh.2⟩
end
instance:ad Int where
 sz:=1
 agg:=ae
 zc:=[.int .i64 0]
 zero:=0
 rd:=λ_ _ cs x=>cs=[.int .i64 x]
 len:=by rintro S w cs x rfl;rfl
 one:=by rintro S w cs x rfl u hu;simp at hu;subst hu;rfl
 mono:=λ_ h=>h
 flat:=λ_=>rfl
 pos:=Nat.one_pos
 gh:=λ_ _=>rfl
instance:ad Bool where
 sz:=1
 agg:=ae
 zc:=[.bool ae]
 zero:=ae
 rd:=λ_ _ cs x=>cs=[.bool x]
 len:=by rintro S w cs x rfl;rfl
 one:=by rintro S w cs x rfl u hu;simp at hu;subst hu;rfl
 mono:=λ_ h=>h
 flat:=λ_=>rfl
 pos:=Nat.one_pos
 gh:=λ_ _=>rfl
instance:ad ByteArray where
 sz:=1
 agg:=ae
 zc:=[.string tz]
 zero:=tz
 rd:=λ_ _ cs x=>cs=[.string x]
 len:=by rintro S w cs x rfl;rfl
 one:=by rintro S w cs x rfl u hu;simp at hu;subst hu;rfl
 mono:=λ_ h=>h
 flat:=λ_=>rfl
 pos:=Nat.one_pos
 gh:=λ_ _=>rfl
structure U8 where
 n:Int
instance:ad U8 where
 sz:=1
 agg:=ae
 zc:=[.int .u8 0]
 zero:=⟨0⟩
 rd:=λ_ _ cs x=>cs=[.int .u8 x.n]
 len:=by rintro S w cs x rfl;rfl
 one:=by rintro S w cs x rfl u hu;simp at hu;subst hu;rfl
 mono:=λ_ h=>h
 flat:=λ_=>rfl
 pos:=Nat.one_pos
 gh:=λ_ _=>rfl
instance{α β:Type}[ad α][ad β]:ad (α×β)where
 sz:=ad.sz α+ad.sz β
 agg:=ab
 zc:=ad.zc α++ad.zc β
 zero:=(ad.zero,ad.zero)
 rd:=λS w cs x=>∃c1 c2,cs=c1++c2∧ad.rd S w c1 x.1∧ad.rd S w c2 x.2
 len:=by rintro S w cs x ⟨c1,c2,rfl,h1,h2⟩;simp[ad.len h1,ad.len h2]
 one:=by
  rintro S w cs x ⟨c1,c2,rfl,h1,h2⟩ u hu;rcases List.mem_append.1 hu with hu|hu
  ·exact ad.one h1 u hu
  ·exact ad.one h2 u hu
 mono:=by rintro S S' w w' cs x hm ⟨c1,c2,rfl,h1,h2⟩;exact⟨c1,c2,rfl,ad.mono hm h1,ad.mono hm h2⟩
 flat:=by simp
 pos:=F1 ad.pos (Nat.le_add_right _ _)
 gh:=λS w=>⟨_,_,rfl,ad.gh S w,ad.gh S w⟩
instance{α:Type}[ad α]:ad (List α)where
 sz:=1
 agg:=ae
 zc:=[.slice none 0 0]
 zero:=[]
 rd:=λS w cs xs=>∃p cap,cs=[.slice p xs.length cap]∧xs.length<=cap∧cap<=maxLen∧(xs=[]∨∃a aJ,p=aa a∧S a.block∧cA (ad.rd S w) aJ xs∧j_ w a aJ.flatten)
 len:=by rintro S w cs x ⟨p,cap,rfl,_⟩;rfl
 one:=by rintro S w cs x ⟨p,cap,rfl,_⟩ u hu;simp at hu;subst hu;rfl
 mono:=by
  rintro S S' w w' cs xs hm ⟨p,cap,rfl,h1,h2,h3⟩;refine⟨p,cap,rfl,h1,h2,?_⟩;rcases h3 with h3|⟨a,aJ,rfl,hs,ha,hc⟩
  ·exact .inl h3
  ·by_cases hx:xs=[]
   ·exact .inl hx
   ·have hp:0<aJ.flatten.length:=by
     match aJ,xs,ha with
     |[],[],_=>exact(hx rfl).elim
     |c::aJ,x::xs,ha=>have:=ad.len ha.1;have:=ad.pos (α:=α);simp;omega
    have hh:=hm _ hs (hc.lt hp);exact .inr ⟨a,aJ,rfl,hh.1,ha.mono λ_ _=>ad.mono hm,hc.mono hh.2⟩
 flat:=λ_=>rfl
 pos:=Nat.one_pos
 gh:=λS w=>⟨none,0,rfl,bw _,Nat.zero_le _,.inl rfl⟩
@[reducible] def ad.via {α β:Type} [ad α] (to:β->α) (z:β) (hz:to z=ad.zero):ad β where
  sz:=ad.sz α
  agg:=ab
  zc:=ad.zc α
  zero:=z
  rd:=λS w cs x=>ad.rd S w cs (to x)
  len:=λh=>ad.len h
  one:=λh=>ad.one h
  mono:=λhm h=>ad.mono hm h
  flat:=by simp
  pos:=ad.pos (α:=α)
  gh:=λS w=>by rw[hz];exact ad.gh S w
def ap0{S:Nat->Prop}{w:ax}{v:ai}{x:Bool}:Rv S w v x↔v= .bool x:=by
 constructor
 ·rintro⟨cs,rfl,h⟩;have:cs=[.bool x]:=h;subst this;rfl
 ·rintro rfl;exact⟨_,rfl,rfl⟩
def u9{α:Type}[ad α]{S:Nat->Prop}{w:ax}{v:ai}{xs:List α}(h:Rv S w v xs):∃p cap,v= .slice p xs.length cap∧xs.length<=cap∧cap<=maxLen∧
  (xs=[]∨∃a aJ,p=aa a∧S a.block∧cA (ad.rd S w) aJ xs∧j_ w a aJ.flatten):=by
 obtain⟨cs,rfl,p,cap,rfl,h1,h2,h3⟩:=h
 exact⟨p,cap,rfl,h1,h2,h3⟩
def Dt{α:Type}[ad α](S:Nat->Prop)(w:ax):Rv S w (.slice none 0 0) ([]:List α):=⟨_,rfl,ad.gh S w⟩
abbrev cE:=Nat->Nat
def In(o:cE)(K:List Nat):Nat->Prop:=λb=>o b∈K
structure bJ(M N:List Nat)(o:cE)(w:ax)(o':cE)(w':ax):Prop where
 os:w'.os=w.os
 tape:w'.tape=w.tape
 output:w'.output=w.output
 size:w.heap.size<=w'.heap.size
 fU:∀b,b<w.heap.size->o' b=o b
 new:∀b,w.heap.size<=b->b<w'.heap.size->o' b∈N
 nu:∀b,b<w.heap.size->o b∉M->w'.heap[b]? =w.heap[b]?
def bJ.refl(M N:List Nat)(o:cE)(w:ax):bJ M N o w o w:=⟨rfl,rfl,rfl,bw _,λ_ _=>rfl,λb h1 h2=>by omega,λ_ _ _=>rfl⟩
def bJ.trans{M N:List Nat}{o o1 o2:cE}{w w1 w2:ax}(h:bJ M N o w o1 w1)(k:bJ M N o1 w1 o2 w2):bJ M N o w o2 w2:=by
 refine⟨k.os.trans h.os,k.tape.trans h.tape,k.output.trans h.output,Nat.le_trans h.size k.size,λb hb=>?_,λb h1 h2=>?_,λb hb hm=>?_⟩
 ·rw[k.fU b (F1 hb h.size),h.fU b hb]
 ·by_cases aS:b<w1.heap.size
  ·rw[k.fU b aS];exact h.new b h1 aS
  ·exact k.new b (by omega) h2
 ·have Bt:=F1 hb h.size;rw[k.nu b Bt (by rw[h.fU b hb];exact hm),h.nu b hb hm]
def bJ.weaken{M N M' N':List Nat}{o o':cE}{w w':ax}(h:bJ M N o w o' w')(hM:∀x∈M,x∈M')(hN:∀x∈N,x∈N'):bJ M' N' o w o' w':=⟨h.os,h.tape,h.output,h.size,h.fU,λb h1 h2=>hN _ (h.new b h1 h2),λb hb hm=>h.nu b hb λhx=>hm (hM _ hx)⟩
def j7(K M:List Nat):Bool:=K.all λx=>M.all λy=> !(aW x y)
def IS{K M:List Nat}(h:j7 K M=ab){x:Nat}(hx:x∈K):x∉M:=by intro hy;have h1:=dX.1 h x hx;have h2:=dX.1 h1 x hy;simp at h2
section
variable {M N K K':List Nat} {o o':cE} {w w':ax}
def bJ.ro(h:bJ M N o w o' w')(hd:j7 K M=ab):∀b,In o K b->b<w.heap.size->In o' K b∧w'.heap[b]? =w.heap[b]? :=λb hb aS=>
 ⟨by unfold In;rw[h.fU b aS];exact hb,h.nu b aS (IS hd hb)⟩
def Rv.rQ{α:Type}[ad α]{v:ai}{x:α}(r:Rv (In o K) w v x)(h:bJ M N o w o' w')(hd:j7 K M=ab):Rv (In o' K) w' v x:=r.mono (h.ro hd)
end
def Ow{α:Type}[ad α](T:aX)(o:cE)(k:Nat)(K:List Nat)(w:ax)(v:ai)(xs:List α):Prop:=
 (v= .slice none 0 0∧xs=[])∨
 ∃g f cap aU aJ,v= .slice (aa ⟨g,f,none⟩) xs.length cap∧o g=k∧w.heap[g]? =aa (.cells aU T (0,0))∧xs.length<=cap∧cap<=maxLen∧f+cap*ad.sz α<=aU.size∧
  cA (ad.rd (In o K) w) aJ xs∧(aU.toList.drop f).take (xs.length*ad.sz α)=aJ.flatten
def jR(b p off:Nat):(⟨b,p,none⟩:Addr).add off=⟨b,p+off,none⟩:=by unfold Addr.add;split<;>simp_all
section
variable {α:Type} [ad α] {M N K K':List Nat} {o o':cE} {w w':ax} {c k:Nat}
def Ow.rv{T:aX}{v:ai}{xs:List α}(r:Ow T o k K w v xs):Rv (In o (k::K)) w v xs:=by
 rcases r with⟨rfl,rfl⟩|⟨g,f,cap,aU,aJ,rfl,h2,h3,h4,h5,h6,h7,h8⟩
 ·exact Dt _ _
 ·refine⟨_,rfl,aa ⟨g,f,none⟩,cap,rfl,h4,h5,.inr ⟨⟨g,f,none⟩,aJ,rfl,?_,h7.mono λ_ _=>ad.mono (λb hb _=>⟨List.mem_cons_of_mem _ hb,rfl⟩),?_⟩⟩
  ·show o g∈k::K;rw[h2];exact List.mem_cons_self
  ·intro j u hu;rw[jR,cell_of_row w g (f+j) aU T (0,0) h3];rw[<-h8,List.getElem?_take]at hu;split at hu
   ·simpa using hu
   ·cases hu
def Ow.nil(T:aX)(o:cE)(k:Nat)(K:List Nat)(w:ax):Ow T o k K w (.slice none 0 0) ([]:List α):= .inl ⟨rfl,rfl⟩
end
def grow(o:cE)(w:ax)(n:Nat):cE:=λb=>if b<w.heap.size then o b else n
def bJ.fresh{o:cE}{w w':ax}(n:Nat)(h:Below w.heap.size w w'):bJ [] [n] o w (grow o w n) w':=⟨h.os,h.tape,h.output,h.size,λb hb=>by simp[grow,hb],λb h1 _=>by simp[grow,Nat.not_lt.2 h1],λb hb _=>h.block b hb⟩
