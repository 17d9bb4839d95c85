import Derived.Test.YtgaghlbepnjhiaaGreatRa
set_option linter.all false
open Bool renaming false->ae,true->ab
open Decidable renaming decide->ak
open List renaming find?_eq_none->sh,getD_eq_getElem?_getD->uK,getElem?_append_left->mr,getElem?_range->J3,mem_range->ew,range->bW,replicate->cR
open Nat renaming le_refl->bw,zero_le->jS
open Option renaming some->aa
open Option.some renaming inj->kb
noncomputable section
namespace Go.Proofs.YtgaghlbepnjhiaaGreat
open Go Go.RowKit Dp
namespace Rx
def Wp{α:Type}(m:Option α)(Q:α->Prop):Prop:=∃r,m=aa r∧Q r
section
variable {α β γ:Type} {m:Option α} {f:α->Option β} {Q:α->Prop} {R:β->Prop} {x:α}
def aq:Wp (aa x) Q↔Q x:=⟨λ⟨_,h,hq⟩=>by cases h;exact hq,λh=>⟨_,rfl,h⟩⟩
def wp_bind:Wp (nL m f) R↔Wp m λy=>Wp (f y) R:=by
 constructor
 ·rintro⟨r,h,hr⟩;obtain⟨y,h1,h2⟩:=Option.bind_eq_some_iff.1 h;exact⟨y,h1,r,h2,hr⟩
 ·rintro⟨y,h1,r,h2,hr⟩;exact⟨r,by rw[h1];exact h2,hr⟩
def Wp.mono{Q':α->Prop}(h:Wp m Q)(hq:∀x,Q x->Q' x):Wp m Q':=by obtain⟨r,h1,h2⟩:=h;exact⟨r,h1,hq r h2⟩
def Wp.bind{f:α->Option β}(h:Wp m Q)(hf:∀y,Q y->Wp (f y) R):Wp (nL m f) R:=wp_bind.2 (h.mono hf)
def Wp.nZ{f:α->Option β}(h:m=aa x)(hf:Wp (f x) R):Wp (nL m f) R:=by rw[h];exact hf
def xT:Wp m (λy=>y=x)↔m=aa x:=⟨λ⟨_,h,hq⟩=>by rw[h,hq],λh=>⟨x,h,rfl⟩⟩
def Wp.of(h:m=aa x)(hq:Q x):Wp m Q:=⟨x,h,hq⟩
def Wp.get(h:Wp m Q):∃r,m=aa r∧Q r:=h
def Wp.and{Q':α->Prop}(h:Wp m Q)(h':Wp m Q'):Wp m λx=>Q x∧Q' x:=by obtain⟨r,h1,h2⟩:=h;obtain⟨r',h3,h4⟩:=h';rw[h1]at h3;cases h3;exact⟨r,h1,h2,h4⟩
end
def Sm{α:Type}(l:List α):Prop:=l.length<=1000000000
section
variable {σ ρ:Type} {step:σ->Option (σ⊕ρ)} {s:σ} {r:ρ}
def asz{k:Nat}{s:σ}(h:mh step k s r):∀{n:Nat},k<n->nM step n s=aa r:=by
 induction h with
 |done e=>
  intro n hn;cases n with
  |zero=>omega
  |succ n=>show(match step _ with|some (.inl s')=>nM step n s'|some (.inr r)=>aa r|none=>none)=_;rw[e]
 |more e _ ih=>
  intro n hn;cases n with
  |zero=>omega
  |succ n=>show(match step _ with|some (.inl s')=>nM step n s'|some (.inr r)=>aa r|none=>none)=_;rw[e];exact ih (by omega)
def oD{k:Nat}(h:mh step k s r)(hk:k<=1000000000000000000):aG step s=aa r:=asz h (by omega)
def pn(μ:σ->Nat)(inv:σ->Prop){Q:ρ->Prop}(h:∀s,inv s->Wp (step s) λx=>match x with| .inl s'=>inv s'∧μ s'<μ s| .inr r=>Q r){s:σ}(h0:inv s)(hm:μ s<=1000000000000000000):Wp (aG step s) Q:=by
 have key:∀(m:Nat) (s:σ),μ s<=m->inv s->∃k r,k<=m∧mh step k s r∧Q r:=by
  intro m;induction m with
  |zero=>
   intro s hs hi;obtain⟨x,h1,h2⟩:=h s hi;cases x with
   |inl s'=>have:=h2.2;omega
   |inr r=>exact⟨0,r,bw _,.done h1,h2⟩
  |succ m ih=>
   intro s hs hi;obtain⟨x,h1,h2⟩:=h s hi;cases x with
   |inl s'=>obtain⟨k,r,h3,h4,h5⟩:=ih s' (by have:=h2.2;omega) h2.1;exact⟨k+1,r,by omega,.more h1 h4,h5⟩
   |inr r=>exact⟨0,r,jS _,.done h1,h2⟩
 obtain⟨k,r,h1,h2,h3⟩:=key (μ s) s (bw _) h0;exact⟨r,oD h2 (by omega),h3⟩
def dy(n:Nat)(inv:Nat->σ->Prop){Q:ρ->Prop}{s:σ}(h0:inv 0 s)(next:∀k s,k<n->inv k s->Wp (step s) λx=>match x with| .inl s'=>inv (k+1) s'| .inr r=>Q r)(stop:∀s,inv n s->Wp (step s) λx=>match x with| .inl _=>False| .inr r=>Q r)(hn:n<=1000000000000000000:=by first|omega|(simp only[Sm]at*;omega)):Wp (aG step s) Q:=by
 have key:∀(m k:Nat) (s:σ),m+k=n->inv k s->∃j r,j<=m∧mh step j s r∧Q r:=by
  intro m;induction m with
  |zero=>
   intro k s hk hi;obtain⟨x,h1,h2⟩:=stop s (by rw[show n=k from by omega];exact hi);cases x with
   |inl s'=>exact h2.elim
   |inr r=>exact⟨0,r,bw _,.done h1,h2⟩
  |succ m ih=>
   intro k s hk hi;obtain⟨x,h1,h2⟩:=next k s (by omega) hi
   cases x with
   |inl s'=>obtain⟨j,r,h3,h4,h5⟩:=ih (k+1) s' (by omega) h2;exact⟨j+1,r,by omega,.more h1 h4,h5⟩
   |inr r=>exact⟨0,r,jS _,.done h1,h2⟩
 obtain⟨k,r,h1,h2,h3⟩:=key n 0 s (by omega) h0;exact⟨r,oD h2 (by omega),h3⟩
def dR(f:Nat->σ)(n:Nat){r:ρ}(next:∀k,k<n->step (f k)=aa (.inl (f (k+1))))(stop:step (f n)=aa (.inr r))(hn:n<=1000000000000000000:=by first|omega|(simp only[Sm]at*;omega)):aG step (f 0)=aa r:=by
 have key:∀(m k:Nat),m+k=n->mh step m (f k) r:=by
  intro m;induction m with
  |zero=>intro k hk;rw[show k=n from by omega];exact .done stop
  |succ m ih=>intro k hk;exact .more (next k (by omega)) (ih (k+1) (by omega))
 exact oD (key n 0 (by omega)) hn
def vw(f:Nat->σ)(n:Nat)(p:Nat->Bool){R:Nat->ρ}{e:ρ}(next:∀k,k<n->p k=ae->step (f k)=aa (.inl (f (k+1))))(hit:∀k,k<n->p k=ab->step (f k)=aa (.inr (R k)))(stop:step (f n)=aa (.inr e))(hn:n<=1000000000000000000:=by first|omega|(simp only[Sm]at*;omega)):
  aG step (f 0)=aa (match(bW n).find? p with|some k=>R k|none=>e):=by
 cases hf:(bW n).find? p with
 |none=>
  refine dR f n (λk hk=>next k hk ?_) stop hn
  have:=sh.1 hf k (ew.2 hk)
  simpa using this
 |some k=>
  obtain⟨h1,as,bs,h2,h3⟩:=List.find?_eq_some_iff_append.1 hf
  have hk:k<n:=ew.1 (List.mem_of_find?_eq_some hf)
  have hlen:as.length=k:=by
   have h4:(bW n)[as.length]? =aa k:=by rw[h2];simp
   rw[J3 (by have:=iF List.length h2;simp at this;omega)]at h4
   exact kb h4
  refine dR f k (λj hj=>next j (by omega) ?_) (hit k hk h1) (by omega)
  have iJ:j∈as:=by have h4:(bW n)[j]? =aa j:=J3 (by omega);rw[h2,mr (by omega)]at h4;exact List.mem_of_getElem? h4
  simpa using h3 j iJ
end
section
open Classical
def dB(p:Prop):Bool:=ak p
def afR{p:Prop}:dB p=ab↔p:=by simp[dB]
def fG{p:Prop}(h:p):dB p=ab:=afR.2 h
def fH{p:Prop}(h:¬p):dB p=ae:=by cases hb:dB p with|true=>exact(h (afR.1 hb)).elim|false=>rfl
def ay4{p:Prop}{b:Bool}(h:b=ab↔p):b=dB p:=by
 cases b with
 |true=>exact(fG (h.1 rfl)).symm
 |false=>exact(fH λhp=>by have:=h.2 hp;cases this).symm
def WA{p q:Prop}(h:p↔q):dB p=dB q:=by rw[propext h]
end
def bX{x:Int}(h1: -1000000000000000000<=x)(h2:x<=1000000000000000000):W x=x:=zt (by omega) (by omega)
def M9{α:Type}(xs:List α)(j:Nat):idx xs (j:Int)=xs[j]? :=by simp[idx]
def jK{α:Type}{xs:List α}{j:Nat}(h:j<xs.length)(y:α):dq xs (j:Int) y=aa (xs.set j y):=by unfold dq;rw[aI ⟨by omega,by omega⟩];simp
def Sw{α:Type}{xs:List α}{j:Int}(h0:0<=j)(h:j<xs.length)(y:α):dq xs j y=aa (xs.set j.toNat y):=by unfold dq;rw[aI ⟨h0,h⟩]
def cJ{α:Type}{xs ys:List α}(h:xs.length+ys.length<=1073741824):bD xs ys=aa (xs++ys):=by unfold bD;rw[aI h]
def Dh{α:Type}{xs:List α}{n:Nat}(h:n<=xs.length):dH xs 0 (n:Int)=aa (xs.take n):=by unfold dH;rw[aI ⟨by omega,by omega,by omega⟩];simp
def Lt{α:Type}{xs:List α}{n:Nat}(h:n<=xs.length):dH xs (n:Int) (len xs)=aa (xs.drop n):=by unfold dH len;rw[aI ⟨by omega,by omega,by omega⟩];simp
def Ad{a b:Int}(ha:0<=a)(hb:0<b)(h:a<=1000000000000000000):nJ a b=aa (a/b):=by unfold nJ;have h1:a.tdiv b=a/b:=Int.tdiv_eq_ediv_of_nonneg ha;have h2:0<=a/b:=Int.ediv_nonneg ha (by omega);have h3:a/b<=a:=Int.ediv_le_self _ ha;rw[aK (by omega),h1,bX (by omega) (by omega)]
def SN{a b:Int}(ha:0<=a)(hb:0<b):lA a b=aa (a% b):=by unfold lA;rw[aK (by omega),Int.tmod_eq_emod_of_nonneg ha]
def yw{α:Type}{z:α}{n:Nat}(h:n<=1073741824):mE z (n:Int)=aa (cR n z):=by unfold mE;rw[aI ⟨by omega,by omega⟩];simp
def dT{c:Prop}[Decidable c](h:c):ak c=ab:=wh h
def dF{c:Prop}[Decidable c](h:¬c):ak c=ae:=J1 h
def gu{a b:Int}(h:a=b):(a==b)=ab:=by simp[h]
def dL{a b:Int}(h:a≠b):(a==b)=ae:=by simp[h]
def XX{a b:Int}(h:a≠b):(a !=b)=ab:=by simp[h]
def B4{a b:Int}(h:a=b):(a !=b)=ae:=by simp[h]
end Rx
end Go.Proofs.YtgaghlbepnjhiaaGreat
namespace Go.Proofs.YtgaghlbepnjhiaaGreat
open Go Go.RowKit Dp
namespace Rx
def aY{k:Nat}(h:k<1000000000000000000):W ((k:Int)+1)=((k+1:Nat):Int):=by rw[bX (by omega) (by omega)];omega
def nv{k:Nat}(h:k<1000000000000000000)(h0:0<k):W ((k:Int)-1)=((k-1:Nat):Int):=by rw[bX (by omega) (by omega)];omega
section
variable {α:Type} [ad α]
def gt(l:List α)(k:Nat):α:=l.getD k ad.zero
def fQ{l:List α}{k:Nat}(h:k<l.length):gt l k=l[k]:=by simp[gt,List.getD,h]
def aM{l:List α}{k:Nat}(h:k<l.length):idx l (k:Int)=aa (gt l k):=by rw[M9,fQ h];simp[h]
def iI{l:List α}{j:Int}(h0:0<=j)(h:j<l.length):idx l j=aa (gt l j.toNat):=by obtain⟨k,rfl⟩:=Int.eq_ofNat_of_zero_le h0;rw[aM (by omega)];simp
def cX{l:List α}{k:Nat}(h:k<l.length):gt l k∈l:=by rw[fQ h];exact List.getElem_mem _
def lC{l:List α}{x:α}(h:x∈l):∃k,k<l.length∧gt l k=x:=by obtain⟨k,hk,e⟩:=List.getElem_of_mem h;exact⟨k,hk,by rw[fQ hk,e]⟩
def gV{l:List α}{i k:Nat}{x:α}(h:i<l.length):gt (l.set i x) k=if k=i then x else gt l k:=by
 unfold gt;simp only[uK,List.getElem?_set];by_cases hk:i=k
 ·subst hk;simp[h]
 ·rw[aK hk,aK (λe=>hk e.symm)]
def NW{l m:List α}{k:Nat}(h:k<l.length):gt (l++m) k=gt l k:=by unfold gt;simp[uK,mr h]
def NX{l:List α}{x:α}:gt (l++[x]) l.length=x:=by unfold gt;simp[uK]
def jZ{l m:List α}(h:l.length=m.length)(he:∀k,k<l.length->gt l k=gt m k):l=m:=by apply List.ext_getElem h;intro k h1 h2;have:=he k h1;rwa[fQ h1,fQ h2]at this
def lr{l:List α}{k:Nat}(h:k<l.length):l.take (k+1)=l.take k++[gt l k]:=by rw[List.take_add_one,List.getElem?_eq_getElem h,fQ h];rfl
def BB{n k:Nat}{z:α}(h:k<n):gt (cR n z) k=z:=by rw[fQ (by simpa using h)];simp
def acu{l:List α}{x:α}:x∈l↔∃k,k<l.length∧gt l k=x:=⟨lC,λ⟨_,hk,e⟩=>e▸cX hk⟩
def lK{n j:Nat}(f:Nat->α)(h:j<n):gt ((bW n).map f) j=f j:=by rw[fQ (by simpa using h)];simp
def oN{l:List α}{x:α}{k:Nat}(h:k<l.length+1):gt (l++[x]) k=if k<l.length then gt l k else x:=by
 by_cases hk:k<l.length
 ·rw[aI hk,NW hk]
 ·rw[aK hk,show k=l.length from by omega,NX]
end
def Dl{α:Type}{l:List α}{j:Int}{x:α}(h0:0<=j)(h:j<l.length):dq l j x=aa (l.set j.toNat x):=by unfold dq;rw[aI ⟨h0,h⟩]
def bT(a:Int):y7 a a=aa ():=aI rfl
def acP{α:Type}(l:List α):len l=(l.length:Int):=rfl
def afu{n:Nat}{p:Nat->Bool}(h:∀k,k<n->p k=ae):(bW n).find? p=none:=by rw[sh];intro k hk;rw[h k (ew.1 hk)];simp
section
open Classical
def oC{σ ρ:Type}{step:σ->Option (σ⊕ρ)}(f:Nat->σ)(n:Nat)(P:Nat->Prop){r e:ρ}(next:∀k,k<n->¬P k->step (f k)=aa (.inl (f (k+1))))(hit:∀k,k<n->P k->step (f k)=aa (.inr r))(stop:step (f n)=aa (.inr e))(hn:n<=1000000000000000000:=by first|omega|(simp only[Sm]at*;omega)):
  aG step (f 0)=aa (if ∃k,k<n∧P k then r else e):=by
 rw[vw (R:=λ_=>r) (e:=e) f n (λk=>decide (P k)) (λk hk h=>next k hk (by simpa using h)) (λk hk h=>hit k hk (by simpa using h)) stop hn]
 by_cases h:∃k,k<n∧P k
 ·rw[aI h];obtain⟨k,hk,hp⟩:=h;cases hf:(bW n).find? (λk=>decide (P k))with
  |some j=>rfl
  |none=>have:=sh.1 hf k (ew.2 hk);simp[hp]at this
 ·rw[aK h,afu (λk hk=>by have:¬P k:=λhp=>h ⟨k,hk,hp⟩;simp[this])]
def MU{σ ρ:Type}{step:σ->Option (σ⊕ρ)}(f:Nat->σ)(n:Nat)(P:Nat->Prop){r e:ρ}(next:∀k,k<n->¬P k->step (f k)=aa (.inl (f (k+1))))(hit:∀k,k<n->P k->step (f k)=aa (.inr r))(stop:step (f n)=aa (.inr e))(hn:n<=1000000000000000000:=by first|omega|(simp only[Sm]at*;omega)):
  aG step (f 0)=aa (cond (dB (∃k,k<n∧P k)) r e):=by
 rw[oC f n P next hit stop hn]
 by_cases h:∃k,k<n∧P k
 ·rw[aI h,fG h];rfl
 ·rw[aK h,fH h];rfl
end
def aZ{α:Type}{l:List α}{k:Nat}(h:k<l.length):ak ((k:Int)<len l)=ab:=dT (by unfold len;omega)
def bC{α:Type}{l:List α}:ak ((l.length:Int)<len l)=ae:=dF (by unfold len;omega)
def eT{α:Type}{l:List α}(hl:Sm l){k:Nat}(h:k<l.length):k<1000000000000000000:=by unfold Sm at hl;omega
def aaQ{α:Type}{l:List α}(hl:Sm l):l.length<=1000000000000000000:=by unfold Sm at hl;omega
