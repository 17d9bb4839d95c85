import Derived.Test.YtmngjhagbjgmfaaGreatRa
set_option linter.all false
open Bool renaming false->ai,true->ab
open Decidable renaming decide->ak
open List renaming find?_eq_none->tp,getD_eq_getElem?_getD->uF,getElem?_append_left->mi,getElem?_range->Jp,mem_range->er,range->bV,replicate->cR
open Nat renaming le_refl->bw,zero_le->kC
open Option renaming some->aa
open Option.some renaming inj->jM
noncomputable section
namespace Go.Proofs.YtmngjhagbjgmfaaGreat
open Go Go.RowKit Dp
namespace Rx
def Wp{α:Type}(m:Option α)(Q:α->Prop):Prop:=∃r,m=aa r∧Q r
section
variable {α β γ:Type} {m:Option α} {f:α->Option β} {Q:α->Prop} {R:β->Prop} {x:α}
def ar:Wp (aa x) Q↔Q x:=⟨λ⟨_,h,hq⟩=>by cases h;exact hq,λh=>⟨_,rfl,h⟩⟩
def wp_bind:Wp (nA m f) R↔Wp m λy=>Wp (f y) R:=by
 constructor
 ·rintro⟨r,h,hr⟩;obtain⟨y,h1,h2⟩:=Option.bind_eq_some_iff.1 h;exact⟨y,h1,r,h2,hr⟩
 ·rintro⟨y,h1,r,h2,hr⟩;exact⟨r,by rw[h1];exact h2,hr⟩
def Wp.mono{Q':α->Prop}(h:Wp m Q)(hq:∀x,Q x->Q' x):Wp m Q':=by obtain⟨r,h1,h2⟩:=h;exact⟨r,h1,hq r h2⟩
def Wp.bind{f:α->Option β}(h:Wp m Q)(hf:∀y,Q y->Wp (f y) R):Wp (nA m f) R:=wp_bind.2 (h.mono hf)
def Wp.pJ{f:α->Option β}(h:m=aa x)(hf:Wp (f x) R):Wp (nA m f) R:=by rw[h];exact hf
def Ql:Wp m (λy=>y=x)↔m=aa x:=⟨λ⟨_,h,hq⟩=>by rw[h,hq],λh=>⟨x,h,rfl⟩⟩
end
def Sm{α:Type}(l:List α):Prop:=l.length<=1000000000
section
variable {σ ρ:Type} {step:σ->Option (σ⊕ρ)} {s:σ} {r:ρ}
def arf{k:Nat}{s:σ}(h:ma step k s r):∀{n:Nat},k<n->nB step n s=aa r:=by
 induction h with
 |done e=>
  intro n hn;cases n with
  |zero=>omega
  |succ n=>show(match step _ with|some (.inl s')=>nB step n s'|some (.inr r)=>aa r|none=>none)=_;rw[e]
 |more e _ ih=>
  intro n hn;cases n with
  |zero=>omega
  |succ n=>show(match step _ with|some (.inl s')=>nB step n s'|some (.inr r)=>aa r|none=>none)=_;rw[e];exact ih (by omega)
def ou{k:Nat}(h:ma step k s r)(hk:k<=1000000000000000000):aI step s=aa r:=arf h (by omega)
def tD(μ:σ->Nat)(inv:σ->Prop){Q:ρ->Prop}(h:∀s,inv s->Wp (step s) λx=>match x with| .inl s'=>inv s'∧μ s'<μ s| .inr r=>Q r){s:σ}(h0:inv s)(hm:μ s<=1000000000000000000):Wp (aI step s) Q:=by
 have key:∀(m:Nat) (s:σ),μ s<=m->inv s->∃k r,k<=m∧ma step k s r∧Q r:=by
  intro m;induction m with
  |zero=>
   intro s hs hi;obtain⟨x,h1,h2⟩:=h s hi;cases x with
   |inl s'=>have:=h2.2;omega
   |inr r=>exact⟨0,r,bw _,.done h1,h2⟩
  |succ m ih=>
   intro s hs hi;obtain⟨x,h1,h2⟩:=h s hi;cases x with
   |inl s'=>obtain⟨k,r,h3,h4,h5⟩:=ih s' (by have:=h2.2;omega) h2.1;exact⟨k+1,r,by omega,.more h1 h4,h5⟩
   |inr r=>exact⟨0,r,kC _,.done h1,h2⟩
 obtain⟨k,r,h1,h2,h3⟩:=key (μ s) s (bw _) h0;exact⟨r,ou h2 (by omega),h3⟩
def dS(n:Nat)(inv:Nat->σ->Prop){Q:ρ->Prop}{s:σ}(h0:inv 0 s)(next:∀k s,k<n->inv k s->Wp (step s) λx=>match x with| .inl s'=>inv (k+1) s'| .inr r=>Q r)(stop:∀s,inv n s->Wp (step s) λx=>match x with| .inl _=>False| .inr r=>Q r)(hn:n<=1000000000000000000:=by first|omega|(simp only[Sm]at*;omega)):Wp (aI step s) Q:=by
 have key:∀(m k:Nat) (s:σ),m+k=n->inv k s->∃j r,j<=m∧ma step j s r∧Q r:=by
  intro m;induction m with
  |zero=>
   intro k s hk hi;obtain⟨x,h1,h2⟩:=stop s (by rw[show n=k from by omega];exact hi);cases x with
   |inl s'=>exact h2.elim
   |inr r=>exact⟨0,r,bw _,.done h1,h2⟩
  |succ m ih=>
   intro k s hk hi;obtain⟨x,h1,h2⟩:=next k s (by omega) hi
   cases x with
   |inl s'=>obtain⟨j,r,h3,h4,h5⟩:=ih (k+1) s' (by omega) h2;exact⟨j+1,r,by omega,.more h1 h4,h5⟩
   |inr r=>exact⟨0,r,kC _,.done h1,h2⟩
 obtain⟨k,r,h1,h2,h3⟩:=key n 0 s (by omega) h0;exact⟨r,ou h2 (by omega),h3⟩
def dO(f:Nat->σ)(n:Nat){r:ρ}(next:∀k,k<n->step (f k)=aa (.inl (f (k+1))))(stop:step (f n)=aa (.inr r))(hn:n<=1000000000000000000:=by first|omega|(simp only[Sm]at*;omega)):aI step (f 0)=aa r:=by
 have key:∀(m k:Nat),m+k=n->ma step m (f k) r:=by
  intro m;induction m with
  |zero=>intro k hk;rw[show k=n from by omega];exact .done stop
  |succ m ih=>intro k hk;exact .more (next k (by omega)) (ih (k+1) (by omega))
 exact ou (key n 0 (by omega)) hn
def vc(f:Nat->σ)(n:Nat)(p:Nat->Bool){R:Nat->ρ}{e:ρ}(next:∀k,k<n->p k=ai->step (f k)=aa (.inl (f (k+1))))(hit:∀k,k<n->p k=ab->step (f k)=aa (.inr (R k)))(stop:step (f n)=aa (.inr e))(hn:n<=1000000000000000000:=by first|omega|(simp only[Sm]at*;omega)):
  aI step (f 0)=aa (match(bV n).find? p with|some k=>R k|none=>e):=by
 cases hf:(bV n).find? p with
 |none=>
  refine dO f n (λk hk=>next k hk ?_) stop hn
  have:=tp.1 hf k (er.2 hk)
  simpa using this
 |some k=>
  obtain⟨h1,as,bs,h2,h3⟩:=List.find?_eq_some_iff_append.1 hf
  have hk:k<n:=er.1 (List.mem_of_find?_eq_some hf)
  have hlen:as.length=k:=by
   have h4:(bV n)[as.length]? =aa k:=by rw[h2];simp
   rw[Jp (by have:=ik List.length h2;simp at this;omega)]at h4
   exact jM h4
  refine dO f k (λj hj=>next j (by omega) ?_) (hit k hk h1) (by omega)
  have iq:j∈as:=by have h4:(bV n)[j]? =aa j:=Jp (by omega);rw[h2,mi (by omega)]at h4;exact List.mem_of_getElem? h4
  simpa using h3 j iq
end
section
open Classical
def dB(p:Prop):Bool:=ak p
def aeV{p:Prop}:dB p=ab↔p:=by simp[dB]
def iK{p:Prop}(h:p):dB p=ab:=aeV.2 h
def gQ{p:Prop}(h:¬p):dB p=ai:=by cases hb:dB p with|true=>exact(h (aeV.1 hb)).elim|false=>rfl
def axM{p:Prop}{b:Bool}(h:b=ab↔p):b=dB p:=by
 cases b with
 |true=>exact(iK (h.1 rfl)).symm
 |false=>exact(gQ λhp=>by have:=h.2 hp;cases this).symm
def VF{p q:Prop}(h:p↔q):dB p=dB q:=by rw[propext h]
end
def bY{x:Int}(h1: -1000000000000000000<=x)(h2:x<=1000000000000000000):W x=x:=y_ (by omega) (by omega)
def Mo{α:Type}(xs:List α)(j:Nat):idx xs (j:Int)=xs[j]? :=by simp[idx]
def jy{α:Type}{xs:List α}{j:Nat}(h:j<xs.length)(y:α):df xs (j:Int) y=aa (xs.set j y):=by unfold df;rw[aG ⟨by omega,by omega⟩];simp
def Rz{α:Type}{xs:List α}{j:Int}(h0:0<=j)(h:j<xs.length)(y:α):df xs j y=aa (xs.set j.toNat y):=by unfold df;rw[aG ⟨h0,h⟩]
def cJ{α:Type}{xs ys:List α}(h:xs.length+ys.length<=1073741824):bF xs ys=aa (xs++ys):=by unfold bF;rw[aG h]
def CO{α:Type}{xs:List α}{n:Nat}(h:n<=xs.length):dI xs 0 (n:Int)=aa (xs.take n):=by unfold dI;rw[aG ⟨by omega,by omega,by omega⟩];simp
def Rl{α:Type}{xs:List α}{n:Nat}(h:n<=xs.length):dI xs (n:Int) (len xs)=aa (xs.drop n):=by unfold dI len;rw[aG ⟨by omega,by omega,by omega⟩];simp
def zK{a b:Int}(ha:0<=a)(hb:0<b)(h:a<=1000000000000000000):mQ a b=aa (a/b):=by unfold mQ;have h1:a.tdiv b=a/b:=Int.tdiv_eq_ediv_of_nonneg ha;have h2:0<=a/b:=Int.ediv_nonneg ha (by omega);have h3:a/b<=a:=Int.ediv_le_self _ ha;rw[aK (by omega),h1,bY (by omega) (by omega)]
def RR{a b:Int}(ha:0<=a)(hb:0<b):kL a b=aa (a% b):=by unfold kL;rw[aK (by omega),Int.tmod_eq_emod_of_nonneg ha]
def x_{α:Type}{z:α}{n:Nat}(h:n<=1073741824):mu z (n:Int)=aa (cR n z):=by unfold mu;rw[aG ⟨by omega,by omega⟩];simp
def dT{c:Prop}[Decidable c](h:c):ak c=ab:=vZ h
def dF{c:Prop}[Decidable c](h:¬c):ak c=ai:=Jl h
def gh{a b:Int}(h:a=b):(a==b)=ab:=by simp[h]
def dG{a b:Int}(h:a≠b):(a==b)=ai:=by simp[h]
def W3{a b:Int}(h:a≠b):(a !=b)=ab:=by simp[h]
def BG{a b:Int}(h:a=b):(a !=b)=ai:=by simp[h]
end Rx
end Go.Proofs.YtmngjhagbjgmfaaGreat
namespace Go.Proofs.YtmngjhagbjgmfaaGreat
open Go Go.RowKit Dp
namespace Rx
def a_{k:Nat}(h:k<1000000000000000000):W ((k:Int)+1)=((k+1:Nat):Int):=by rw[bY (by omega) (by omega)];omega
def nQ{k:Nat}(h:k<1000000000000000000)(h0:0<k):W ((k:Int)-1)=((k-1:Nat):Int):=by rw[bY (by omega) (by omega)];omega
section
variable {α:Type} [ad α]
def gt(l:List α)(k:Nat):α:=l.getD k ad.zero
def fH{l:List α}{k:Nat}(h:k<l.length):gt l k=l[k]:=by simp[gt,List.getD,h]
def aO{l:List α}{k:Nat}(h:k<l.length):idx l (k:Int)=aa (gt l k):=by rw[Mo,fH h];simp[h]
def iI{l:List α}{j:Int}(h0:0<=j)(h:j<l.length):idx l j=aa (gt l j.toNat):=by obtain⟨k,rfl⟩:=Int.eq_ofNat_of_zero_le h0;rw[aO (by omega)];simp
def du{l:List α}{k:Nat}(h:k<l.length):gt l k∈l:=by rw[fH h];exact List.getElem_mem _
def om{l:List α}{x:α}(h:x∈l):∃k,k<l.length∧gt l k=x:=by obtain⟨k,hk,e⟩:=List.getElem_of_mem h;exact⟨k,hk,by rw[fH hk,e]⟩
def gE{l:List α}{i k:Nat}{x:α}(h:i<l.length):gt (l.set i x) k=if k=i then x else gt l k:=by
 unfold gt;simp only[uF,List.getElem?_set];by_cases hk:i=k
 ·subst hk;simp[h]
 ·rw[aK hk,aK (λe=>hk e.symm)]
def Na{l m:List α}{k:Nat}(h:k<l.length):gt (l++m) k=gt l k:=by unfold gt;simp[uF,mi h]
def Nb{l:List α}{x:α}:gt (l++[x]) l.length=x:=by unfold gt;simp[uF]
def jW{l m:List α}(h:l.length=m.length)(he:∀k,k<l.length->gt l k=gt m k):l=m:=by apply List.ext_getElem h;intro k h1 h2;have:=he k h1;rwa[fH h1,fH h2]at this
def lh{l:List α}{k:Nat}(h:k<l.length):l.take (k+1)=l.take k++[gt l k]:=by rw[List.take_add_one,List.getElem?_eq_getElem h,fH h];rfl
def Be{n k:Nat}{z:α}(h:k<n):gt (cR n z) k=z:=by rw[fH (by simpa using h)];simp
def abx{l:List α}{x:α}:x∈l↔∃k,k<l.length∧gt l k=x:=⟨om,λ⟨_,hk,e⟩=>e▸du hk⟩
def lC{n j:Nat}(f:Nat->α)(h:j<n):gt ((bV n).map f) j=f j:=by rw[fH (by simpa using h)];simp
def sM{l:List α}{x:α}{k:Nat}(h:k<l.length+1):gt (l++[x]) k=if k<l.length then gt l k else x:=by
 by_cases hk:k<l.length
 ·rw[aG hk,Na hk]
 ·rw[aK hk,show k=l.length from by omega,Nb]
end
def CS{α:Type}{l:List α}{j:Int}{x:α}(h0:0<=j)(h:j<l.length):df l j x=aa (l.set j.toNat x):=by unfold df;rw[aG ⟨h0,h⟩]
def bR(a:Int):yJ a a=aa ():=aG rfl
def abS{α:Type}(l:List α):len l=(l.length:Int):=rfl
def aez{n:Nat}{p:Nat->Bool}(h:∀k,k<n->p k=ai):(bV n).find? p=none:=by rw[tp];intro k hk;rw[h k (er.1 hk)];simp
section
open Classical
def ot{σ ρ:Type}{step:σ->Option (σ⊕ρ)}(f:Nat->σ)(n:Nat)(P:Nat->Prop){r e:ρ}(next:∀k,k<n->¬P k->step (f k)=aa (.inl (f (k+1))))(hit:∀k,k<n->P k->step (f k)=aa (.inr r))(stop:step (f n)=aa (.inr e))(hn:n<=1000000000000000000:=by first|omega|(simp only[Sm]at*;omega)):
  aI step (f 0)=aa (if ∃k,k<n∧P k then r else e):=by
 rw[vc (R:=λ_=>r) (e:=e) f n (λk=>decide (P k)) (λk hk h=>next k hk (by simpa using h)) (λk hk h=>hit k hk (by simpa using h)) stop hn]
 by_cases h:∃k,k<n∧P k
 ·rw[aG h];obtain⟨k,hk,hp⟩:=h;cases hf:(bV n).find? (λk=>decide (P k))with
  |some j=>rfl
  |none=>have:=tp.1 hf k (er.2 hk);simp[hp]at this
 ·rw[aK h,aez (λk hk=>by have:¬P k:=λhp=>h ⟨k,hk,hp⟩;simp[this])]
def L_{σ ρ:Type}{step:σ->Option (σ⊕ρ)}(f:Nat->σ)(n:Nat)(P:Nat->Prop){r e:ρ}(next:∀k,k<n->¬P k->step (f k)=aa (.inl (f (k+1))))(hit:∀k,k<n->P k->step (f k)=aa (.inr r))(stop:step (f n)=aa (.inr e))(hn:n<=1000000000000000000:=by first|omega|(simp only[Sm]at*;omega)):
  aI step (f 0)=aa (cond (dB (∃k,k<n∧P k)) r e):=by
 rw[ot f n P next hit stop hn]
 by_cases h:∃k,k<n∧P k
 ·rw[aG h,iK h];rfl
 ·rw[aK h,gQ h];rfl
end
def ba{α:Type}{l:List α}{k:Nat}(h:k<l.length):ak ((k:Int)<len l)=ab:=dT (by unfold len;omega)
def bI{α:Type}{l:List α}:ak ((l.length:Int)<len l)=ai:=dF (by unfold len;omega)
def eN{α:Type}{l:List α}(hl:Sm l){k:Nat}(h:k<l.length):k<1000000000000000000:=by unfold Sm at hl;omega
def ZW{α:Type}{l:List α}(hl:Sm l):l.length<=1000000000000000000:=by unfold Sm at hl;omega
