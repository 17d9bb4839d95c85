import Derived.Test.YtmngjhagbjgmfaaGreatRa
set_option linter.all false
open Bool renaming false->ai,true->ab
open Decidable renaming decide->al
open List renaming find?_eq_none->tu,getD_eq_getElem?_getD->uJ,getElem?_append_left->mn,getElem?_range->Jt,mem_range->eu,range->bW,replicate->cU
open Nat renaming le_refl->bx,zero_le->kF
open Option renaming some->aa
open Option.some renaming inj->jP
noncomputable section
namespace Go.Proofs.YtmngjhagbjgmfaaGreat
open Go Go.RowKit Dp
namespace Rx
def Wp{α:Type}(m:Option α)(Q:α->Prop):Prop:=∃r,m=aa r∧Q r
section
variable {α β γ:Type} {m:Option α} {f:α->Option β} {Q:α->Prop} {R:β->Prop} {x:α}
def au:Wp (aa x) Q↔Q x:=⟨λ⟨_,h,hq⟩=>by cases h;exact hq,λh=>⟨_,rfl,h⟩⟩
def wp_bind:Wp (nD m f) R↔Wp m λy=>Wp (f y) R:=by
 constructor
 ·rintro⟨r,h,hr⟩;obtain⟨y,h1,h2⟩:=Option.bind_eq_some_iff.1 h;exact⟨y,h1,r,h2,hr⟩
 ·rintro⟨y,h1,r,h2,hr⟩;exact⟨r,by rw[h1];exact h2,hr⟩
def Wp.mono{Q':α->Prop}(h:Wp m Q)(hq:∀x,Q x->Q' x):Wp m Q':=by obtain⟨r,h1,h2⟩:=h;exact⟨r,h1,hq r h2⟩
def Wp.bind{f:α->Option β}(h:Wp m Q)(hf:∀y,Q y->Wp (f y) R):Wp (nD m f) R:=wp_bind.2 (h.mono hf)
def Wp.pM{f:α->Option β}(h:m=aa x)(hf:Wp (f x) R):Wp (nD m f) R:=by rw[h];exact hf
def Qp:Wp m (λy=>y=x)↔m=aa x:=⟨λ⟨_,h,hq⟩=>by rw[h,hq],λh=>⟨x,h,rfl⟩⟩
end
def Sm{α:Type}(l:List α):Prop:=l.length<=1000000000
section
variable {σ ρ:Type} {step:σ->Option (σ⊕ρ)} {s:σ} {r:ρ}
def ark{k:Nat}{s:σ}(h:me step k s r):∀{n:Nat},k<n->nE step n s=aa r:=by
 induction h with
 |done e=>
  intro n hn;cases n with
  |zero=>omega
  |succ n=>show(match step _ with|some (.inl s')=>nE step n s'|some (.inr r)=>aa r|none=>none)=_;rw[e]
 |more e _ ih=>
  intro n hn;cases n with
  |zero=>omega
  |succ n=>show(match step _ with|some (.inl s')=>nE step n s'|some (.inr r)=>aa r|none=>none)=_;rw[e];exact ih (by omega)
def oz{k:Nat}(h:me step k s r)(hk:k<=1000000000000000000):aJ step s=aa r:=ark h (by omega)
def tH(μ:σ->Nat)(inv:σ->Prop){Q:ρ->Prop}(h:∀s,inv s->Wp (step s) λx=>match x with| .inl s'=>inv s'∧μ s'<μ s| .inr r=>Q r){s:σ}(h0:inv s)(hm:μ s<=1000000000000000000):Wp (aJ step s) Q:=by
 have key:∀(m:Nat) (s:σ),μ s<=m->inv s->∃k r,k<=m∧me step k s r∧Q r:=by
  intro m;induction m with
  |zero=>
   intro s hs hi;obtain⟨x,h1,h2⟩:=h s hi;cases x with
   |inl s'=>have:=h2.2;omega
   |inr r=>exact⟨0,r,bx _,.done h1,h2⟩
  |succ m ih=>
   intro s hs hi;obtain⟨x,h1,h2⟩:=h s hi;cases x with
   |inl s'=>obtain⟨k,r,h3,h4,h5⟩:=ih s' (by have:=h2.2;omega) h2.1;exact⟨k+1,r,by omega,.more h1 h4,h5⟩
   |inr r=>exact⟨0,r,kF _,.done h1,h2⟩
 obtain⟨k,r,h1,h2,h3⟩:=key (μ s) s (bx _) h0;exact⟨r,oz h2 (by omega),h3⟩
def dV(n:Nat)(inv:Nat->σ->Prop){Q:ρ->Prop}{s:σ}(h0:inv 0 s)(next:∀k s,k<n->inv k s->Wp (step s) λx=>match x with| .inl s'=>inv (k+1) s'| .inr r=>Q r)(stop:∀s,inv n s->Wp (step s) λx=>match x with| .inl _=>False| .inr r=>Q r)(hn:n<=1000000000000000000:=by first|omega|(simp only[Sm]at*;omega)):Wp (aJ step s) Q:=by
 have key:∀(m k:Nat) (s:σ),m+k=n->inv k s->∃j r,j<=m∧me step j s r∧Q r:=by
  intro m;induction m with
  |zero=>
   intro k s hk hi;obtain⟨x,h1,h2⟩:=stop s (by rw[show n=k from by omega];exact hi);cases x with
   |inl s'=>exact h2.elim
   |inr r=>exact⟨0,r,bx _,.done h1,h2⟩
  |succ m ih=>
   intro k s hk hi;obtain⟨x,h1,h2⟩:=next k s (by omega) hi
   cases x with
   |inl s'=>obtain⟨j,r,h3,h4,h5⟩:=ih (k+1) s' (by omega) h2;exact⟨j+1,r,by omega,.more h1 h4,h5⟩
   |inr r=>exact⟨0,r,kF _,.done h1,h2⟩
 obtain⟨k,r,h1,h2,h3⟩:=key n 0 s (by omega) h0;exact⟨r,oz h2 (by omega),h3⟩
def dQ(f:Nat->σ)(n:Nat){r:ρ}(next:∀k,k<n->step (f k)=aa (.inl (f (k+1))))(stop:step (f n)=aa (.inr r))(hn:n<=1000000000000000000:=by first|omega|(simp only[Sm]at*;omega)):aJ step (f 0)=aa r:=by
 have key:∀(m k:Nat),m+k=n->me step m (f k) r:=by
  intro m;induction m with
  |zero=>intro k hk;rw[show k=n from by omega];exact .done stop
  |succ m ih=>intro k hk;exact .more (next k (by omega)) (ih (k+1) (by omega))
 exact oz (key n 0 (by omega)) hn
def vm(f:Nat->σ)(n:Nat)(p:Nat->Bool){R:Nat->ρ}{e:ρ}(next:∀k,k<n->p k=ai->step (f k)=aa (.inl (f (k+1))))(hit:∀k,k<n->p k=ab->step (f k)=aa (.inr (R k)))(stop:step (f n)=aa (.inr e))(hn:n<=1000000000000000000:=by first|omega|(simp only[Sm]at*;omega)):
  aJ step (f 0)=aa (match(bW n).find? p with|some k=>R k|none=>e):=by
 cases hf:(bW n).find? p with
 |none=>
  refine dQ f n (λk hk=>next k hk ?_) stop hn
  have:=tu.1 hf k (eu.2 hk)
  simpa using this
 |some k=>
  obtain⟨h1,as,bs,h2,h3⟩:=List.find?_eq_some_iff_append.1 hf
  have hk:k<n:=eu.1 (List.mem_of_find?_eq_some hf)
  have hlen:as.length=k:=by
   have h4:(bW n)[as.length]? =aa k:=by rw[h2];simp
   rw[Jt (by have:=iq List.length h2;simp at this;omega)]at h4
   exact jP h4
  refine dQ f k (λj hj=>next j (by omega) ?_) (hit k hk h1) (by omega)
  have iw:j∈as:=by have h4:(bW n)[j]? =aa j:=Jt (by omega);rw[h2,mn (by omega)]at h4;exact List.mem_of_getElem? h4
  simpa using h3 j iw
end
section
open Classical
def dB(p:Prop):Bool:=al p
def aeZ{p:Prop}:dB p=ab↔p:=by simp[dB]
def iN{p:Prop}(h:p):dB p=ab:=aeZ.2 h
def gU{p:Prop}(h:¬p):dB p=ai:=by cases hb:dB p with|true=>exact(h (aeZ.1 hb)).elim|false=>rfl
def axQ{p:Prop}{b:Bool}(h:b=ab↔p):b=dB p:=by
 cases b with
 |true=>exact(iN (h.1 rfl)).symm
 |false=>exact(gU λhp=>by have:=h.2 hp;cases this).symm
def VJ{p q:Prop}(h:p↔q):dB p=dB q:=by rw[propext h]
end
def bZ{x:Int}(h1: -1000000000000000000<=x)(h2:x<=1000000000000000000):W x=x:=ze (by omega) (by omega)
def Ms{α:Type}(xs:List α)(j:Nat):idx xs (j:Int)=xs[j]? :=by simp[idx]
def jC{α:Type}{xs:List α}{j:Nat}(h:j<xs.length)(y:α):di xs (j:Int) y=aa (xs.set j y):=by unfold di;rw[aH ⟨by omega,by omega⟩];simp
def RD{α:Type}{xs:List α}{j:Int}(h0:0<=j)(h:j<xs.length)(y:α):di xs j y=aa (xs.set j.toNat y):=by unfold di;rw[aH ⟨h0,h⟩]
def cK{α:Type}{xs ys:List α}(h:xs.length+ys.length<=1073741824):bG xs ys=aa (xs++ys):=by unfold bG;rw[aH h]
def CS{α:Type}{xs:List α}{n:Nat}(h:n<=xs.length):dK xs 0 (n:Int)=aa (xs.take n):=by unfold dK;rw[aH ⟨by omega,by omega,by omega⟩];simp
def Rp{α:Type}{xs:List α}{n:Nat}(h:n<=xs.length):dK xs (n:Int) (len xs)=aa (xs.drop n):=by unfold dK len;rw[aH ⟨by omega,by omega,by omega⟩];simp
def zO{a b:Int}(ha:0<=a)(hb:0<b)(h:a<=1000000000000000000):mT a b=aa (a/b):=by unfold mT;have h1:a.tdiv b=a/b:=Int.tdiv_eq_ediv_of_nonneg ha;have h2:0<=a/b:=Int.ediv_nonneg ha (by omega);have h3:a/b<=a:=Int.ediv_le_self _ ha;rw[aL (by omega),h1,bZ (by omega) (by omega)]
def RW{a b:Int}(ha:0<=a)(hb:0<b):kO a b=aa (a% b):=by unfold kO;rw[aL (by omega),Int.tmod_eq_emod_of_nonneg ha]
def yd{α:Type}{z:α}{n:Nat}(h:n<=1073741824):mz z (n:Int)=aa (cU n z):=by unfold mz;rw[aH ⟨by omega,by omega⟩];simp
def dT{c:Prop}[Decidable c](h:c):al c=ab:=v9 h
def dF{c:Prop}[Decidable c](h:¬c):al c=ai:=Jq h
def gm{a b:Int}(h:a=b):(a==b)=ab:=by simp[h]
def dI{a b:Int}(h:a≠b):(a==b)=ai:=by simp[h]
def W9{a b:Int}(h:a≠b):(a !=b)=ab:=by simp[h]
def BK{a b:Int}(h:a=b):(a !=b)=ai:=by simp[h]
end Rx
end Go.Proofs.YtmngjhagbjgmfaaGreat
namespace Go.Proofs.YtmngjhagbjgmfaaGreat
open Go Go.RowKit Dp
namespace Rx
def ba{k:Nat}(h:k<1000000000000000000):W ((k:Int)+1)=((k+1:Nat):Int):=by rw[bZ (by omega) (by omega)];omega
def nT{k:Nat}(h:k<1000000000000000000)(h0:0<k):W ((k:Int)-1)=((k-1:Nat):Int):=by rw[bZ (by omega) (by omega)];omega
section
variable {α:Type} [ad α]
def gt(l:List α)(k:Nat):α:=l.getD k ad.zero
def fJ{l:List α}{k:Nat}(h:k<l.length):gt l k=l[k]:=by simp[gt,List.getD,h]
def aP{l:List α}{k:Nat}(h:k<l.length):idx l (k:Int)=aa (gt l k):=by rw[Ms,fJ h];simp[h]
def iL{l:List α}{j:Int}(h0:0<=j)(h:j<l.length):idx l j=aa (gt l j.toNat):=by obtain⟨k,rfl⟩:=Int.eq_ofNat_of_zero_le h0;rw[aP (by omega)];simp
def dx{l:List α}{k:Nat}(h:k<l.length):gt l k∈l:=by rw[fJ h];exact List.getElem_mem _
def ou{l:List α}{x:α}(h:x∈l):∃k,k<l.length∧gt l k=x:=by obtain⟨k,hk,e⟩:=List.getElem_of_mem h;exact⟨k,hk,by rw[fJ hk,e]⟩
def gH{l:List α}{i k:Nat}{x:α}(h:i<l.length):gt (l.set i x) k=if k=i then x else gt l k:=by
 unfold gt;simp only[uJ,List.getElem?_set];by_cases hk:i=k
 ·subst hk;simp[h]
 ·rw[aL hk,aL (λe=>hk e.symm)]
def Nf{l m:List α}{k:Nat}(h:k<l.length):gt (l++m) k=gt l k:=by unfold gt;simp[uJ,mn h]
def Ng{l:List α}{x:α}:gt (l++[x]) l.length=x:=by unfold gt;simp[uJ]
def jZ{l m:List α}(h:l.length=m.length)(he:∀k,k<l.length->gt l k=gt m k):l=m:=by apply List.ext_getElem h;intro k h1 h2;have:=he k h1;rwa[fJ h1,fJ h2]at this
def lm{l:List α}{k:Nat}(h:k<l.length):l.take (k+1)=l.take k++[gt l k]:=by rw[List.take_add_one,List.getElem?_eq_getElem h,fJ h];rfl
def Bi{n k:Nat}{z:α}(h:k<n):gt (cU n z) k=z:=by rw[fJ (by simpa using h)];simp
def abB{l:List α}{x:α}:x∈l↔∃k,k<l.length∧gt l k=x:=⟨ou,λ⟨_,hk,e⟩=>e▸dx hk⟩
def lF{n j:Nat}(f:Nat->α)(h:j<n):gt ((bW n).map f) j=f j:=by rw[fJ (by simpa using h)];simp
def sQ{l:List α}{x:α}{k:Nat}(h:k<l.length+1):gt (l++[x]) k=if k<l.length then gt l k else x:=by
 by_cases hk:k<l.length
 ·rw[aH hk,Nf hk]
 ·rw[aL hk,show k=l.length from by omega,Ng]
end
def CX{α:Type}{l:List α}{j:Int}{x:α}(h0:0<=j)(h:j<l.length):di l j x=aa (l.set j.toNat x):=by unfold di;rw[aH ⟨h0,h⟩]
def bS(a:Int):yN a a=aa ():=aH rfl
def abW{α:Type}(l:List α):len l=(l.length:Int):=rfl
def aeD{n:Nat}{p:Nat->Bool}(h:∀k,k<n->p k=ai):(bW n).find? p=none:=by rw[tu];intro k hk;rw[h k (eu.1 hk)];simp
section
open Classical
def oy{σ ρ:Type}{step:σ->Option (σ⊕ρ)}(f:Nat->σ)(n:Nat)(P:Nat->Prop){r e:ρ}(next:∀k,k<n->¬P k->step (f k)=aa (.inl (f (k+1))))(hit:∀k,k<n->P k->step (f k)=aa (.inr r))(stop:step (f n)=aa (.inr e))(hn:n<=1000000000000000000:=by first|omega|(simp only[Sm]at*;omega)):
  aJ step (f 0)=aa (if ∃k,k<n∧P k then r else e):=by
 rw[vm (R:=λ_=>r) (e:=e) f n (λk=>decide (P k)) (λk hk h=>next k hk (by simpa using h)) (λk hk h=>hit k hk (by simpa using h)) stop hn]
 by_cases h:∃k,k<n∧P k
 ·rw[aH h];obtain⟨k,hk,hp⟩:=h;cases hf:(bW n).find? (λk=>decide (P k))with
  |some j=>rfl
  |none=>have:=tu.1 hf k (eu.2 hk);simp[hp]at this
 ·rw[aL h,aeD (λk hk=>by have:¬P k:=λhp=>h ⟨k,hk,hp⟩;simp[this])]
def Md{σ ρ:Type}{step:σ->Option (σ⊕ρ)}(f:Nat->σ)(n:Nat)(P:Nat->Prop){r e:ρ}(next:∀k,k<n->¬P k->step (f k)=aa (.inl (f (k+1))))(hit:∀k,k<n->P k->step (f k)=aa (.inr r))(stop:step (f n)=aa (.inr e))(hn:n<=1000000000000000000:=by first|omega|(simp only[Sm]at*;omega)):
  aJ step (f 0)=aa (cond (dB (∃k,k<n∧P k)) r e):=by
 rw[oy f n P next hit stop hn]
 by_cases h:∃k,k<n∧P k
 ·rw[aH h,iN h];rfl
 ·rw[aL h,gU h];rfl
end
def bb{α:Type}{l:List α}{k:Nat}(h:k<l.length):al ((k:Int)<len l)=ab:=dT (by unfold len;omega)
def bJ{α:Type}{l:List α}:al ((l.length:Int)<len l)=ai:=dF (by unfold len;omega)
def eP{α:Type}{l:List α}(hl:Sm l){k:Nat}(h:k<l.length):k<1000000000000000000:=by unfold Sm at hl;omega
def Z0{α:Type}{l:List α}(hl:Sm l):l.length<=1000000000000000000:=by unfold Sm at hl;omega
