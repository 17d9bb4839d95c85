import Derived.Test.YtncbfgppjfcijaaGreatRa
set_option linter.unusedVariables false
set_option linter.unusedSimpArgs false
open List renaming find?_eq_none→arB,getD_eq_getElem?_getD→arL,getElem?_append_left→ark,getElem?_range→asd,mem_range→aqV,range→aqN,replicate→aqS
open Nat renaming le_refl→aqM,zero_le→arj
open Option.some renaming inj→are
noncomputable section
namespace Go.Proofs.YtncbfgppjfcijaaGreat
open Go Go.RowKit Dp
namespace Rx
def Wp{α:Type}(m:Option α)(Q:α→Prop):Prop:=∃r,m=some r∧Q r
section
variable {α β γ:Type} {m:Option α} {f:α→Option β} {Q:α→Prop} {R:β→Prop} {x:α}
theorem al:Wp (some x) Q↔Q x:=⟨fun⟨_,h,hq⟩=>by cases h;exact hq,fun h=>⟨_,rfl,h⟩⟩
theorem wp_bind:Wp (rY m f) R↔Wp m fun y=>Wp (f y) R:=by
 constructor
 · rintro⟨r,h,hr⟩
   obtain⟨y,h1,h2⟩:=Option.bind_eq_some_iff.1 h
   exact⟨y,h1,r,h2,hr⟩
 · rintro⟨y,h1,r,h2,hr⟩
   exact⟨r,by rw[h1];exact h2,hr⟩
theorem Wp.mono{Q':α→Prop}(h:Wp m Q)(hq:∀x,Q x→Q' x):Wp m Q':=by
 obtain⟨r,h1,h2⟩:=h
 exact⟨r,h1,hq r h2⟩
theorem Wp.bind{f:α→Option β}(h:Wp m Q)(hf:∀y,Q y→Wp (f y) R):Wp (rY m f) R:=wp_bind.2 (h.mono hf)
theorem Wp.tx{f:α→Option β}(h:m=some x)(hf:Wp (f x) R):Wp (rY m f) R:=by rw[h];exact hf
theorem I7:Wp m (fun y=>y=x)↔m=some x:=⟨fun⟨_,h,hq⟩=>by rw[h,hq],fun h=>⟨x,h,rfl⟩⟩
theorem Wp.of(h:m=some x)(hq:Q x):Wp m Q:=⟨x,h,hq⟩
theorem Wp.get(h:Wp m Q):∃r,m=some r∧Q r:=h
theorem Wp.and{Q':α→Prop}(h:Wp m Q)(h':Wp m Q'):Wp m fun x=>Q x∧Q' x:=by
 obtain⟨r,h1,h2⟩:=h
 obtain⟨r',h3,h4⟩:=h'
 rw[h1] at h3
 cases h3
 exact⟨r,h1,h2,h4⟩
end
def Sm{α:Type}(l:List α):Prop:=l.length≤1000000000
section
variable {σ ρ:Type} {step:σ→Option (σ⊕ρ)} {s:σ} {r:ρ}
theorem afK{k:Nat}{s:σ}(h:jS step k s r):∀{n:Nat},k<n→k6 step n s=some r:=by
 induction h with
 |done e=>
  intro n hn
  cases n with
  |zero=>omega
  |succ n=>
   show(match step _ with|some (.inl s')=>k6 step n s'|some (.inr r)=>some r|none=>none)=_
   rw[e]
 |more e _ ih=>
  intro n hn
  cases n with
  |zero=>omega
  |succ n=>
   show(match step _ with|some (.inl s')=>k6 step n s'|some (.inr r)=>some r|none=>none)=_
   rw[e]
   exact ih (by omega)
theorem lO{k:Nat}(h:jS step k s r)(hk:k≤1000000000000000000):ay step s=some r:=afK h (by omega)
theorem wl(μ:σ→Nat)(inv:σ→Prop){Q:ρ→Prop}(h:∀s,inv s→Wp (step s) fun x=>match x with| .inl s'=>inv s'∧μ s'<μ s| .inr r=>Q r){s:σ}(h0:inv s)(hm:μ s≤1000000000000000000):Wp (ay step s) Q:=by
 have key:∀(m:Nat) (s:σ),μ s≤m→inv s→∃k r,k≤m∧jS step k s r∧Q r:=by
  intro m
  induction m with
  |zero=>
   intro s hs hi
   obtain⟨x,h1,h2⟩:=h s hi
   cases x with
   |inl s'=>have:=h2.2;omega
   |inr r=>exact⟨0,r,aqM _,.done h1,h2⟩
  |succ m ih=>
   intro s hs hi
   obtain⟨x,h1,h2⟩:=h s hi
   cases x with
   |inl s'=>
    obtain⟨k,r,h3,h4,h5⟩:=ih s' (by have:=h2.2;omega) h2.1
    exact⟨k+1,r,by omega,.more h1 h4,h5⟩
   |inr r=>exact⟨0,r,arj _,.done h1,h2⟩
 obtain⟨k,r,h1,h2,h3⟩:=key (μ s) s (aqM _) h0
 exact⟨r,lO h2 (by omega),h3⟩
theorem dO(n:Nat)(inv:Nat→σ→Prop){Q:ρ→Prop}{s:σ}(h0:inv 0 s)(next:∀k s,k<n→inv k s→Wp (step s) fun x=>match x with| .inl s'=>inv (k+1) s'| .inr r=>Q r)(stop:∀s,inv n s→Wp (step s) fun x=>match x with| .inl _=>False| .inr r=>Q r)(hn:n≤1000000000000000000:=by first|omega|(simp only[Sm] at*;omega)):Wp (ay step s) Q:=by
 have key:∀(m k:Nat) (s:σ),m+k=n→inv k s→∃j r,j≤m∧jS step j s r∧Q r:=by
  intro m
  induction m with
  |zero=>
   intro k s hk hi
   obtain⟨x,h1,h2⟩:=stop s (by rw[show n=k from by omega];exact hi)
   cases x with
   |inl s'=>exact h2.elim
   |inr r=>exact⟨0,r,aqM _,.done h1,h2⟩
  |succ m ih=>
   intro k s hk hi
   obtain⟨x,h1,h2⟩:=next k s (by omega) hi
   cases x with
   |inl s'=>
    obtain⟨j,r,h3,h4,h5⟩:=ih (k+1) s' (by omega) h2
    exact⟨j+1,r,by omega,.more h1 h4,h5⟩
   |inr r=>exact⟨0,r,arj _,.done h1,h2⟩
 obtain⟨k,r,h1,h2,h3⟩:=key n 0 s (by omega) h0
 exact⟨r,lO h2 (by omega),h3⟩
theorem dE(f:Nat→σ)(n:Nat){r:ρ}(next:∀k,k<n→step (f k)=some (.inl (f (k+1))))(stop:step (f n)=some (.inr r))(hn:n≤1000000000000000000:=by first|omega|(simp only[Sm] at*;omega)):ay step (f 0)=some r:=by
 have key:∀(m k:Nat),m+k=n→jS step m (f k) r:=by
  intro m
  induction m with
  |zero=>intro k hk;rw[show k=n from by omega];exact .done stop
  |succ m ih=>intro k hk;exact .more (next k (by omega)) (ih (k+1) (by omega))
 exact lO (key n 0 (by omega)) hn
theorem kZ(f:Nat→σ)(n:Nat)(p:Nat→Bool){R:Nat→ρ}{e:ρ}(next:∀k,k<n→p k=false→step (f k)=some (.inl (f (k+1))))(hit:∀k,k<n→p k=true→step (f k)=some (.inr (R k)))(stop:step (f n)=some (.inr e))(hn:n≤1000000000000000000:=by first|omega|(simp only[Sm] at*;omega)):
  ay step (f 0)=some (match(aqN n).find? p with|some k=>R k|none=>e):=by
 cases hf:(aqN n).find? p with
 |none=>
  refine dE f n (fun k hk=>next k hk ?_) stop hn
  have:=arB.1 hf k (aqV.2 hk)
  simpa using this
 |some k=>
  obtain⟨h1,as,bs,h2,h3⟩:=List.find?_eq_some_iff_append.1 hf
  have hk:k<n:=aqV.1 (List.mem_of_find?_eq_some hf)
  have hlen:as.length=k:=by
   have h4:(aqN n)[as.length]? =some k:=by rw[h2];simp
   rw[asd (by
    have:=congrArg List.length h2
    simp at this
    omega)] at h4
   exact are h4
  refine dE f k (fun j hj=>next j (by omega) ?_) (hit k hk h1) (by omega)
  have fk:j∈as:=by
   have h4:(aqN n)[j]? =some j:=asd (by omega)
   rw[h2,ark (by omega)] at h4
   exact List.mem_of_getElem? h4
  simpa using h3 j fk
end
section
open Classical
def dB(p:Prop):Bool:=decide p
theorem VK{p:Prop}:dB p=true↔p:=by simp[dB]
theorem il{p:Prop}(h:p):dB p=true:=VK.2 h
theorem fq{p:Prop}(h:¬p):dB p=false:=by cases hb:dB p with|true=>exact(h (VK.1 hb)).elim|false=>rfl
theorem ak5{p:Prop}{b:Bool}(h:b=true↔p):b=dB p:=by
 cases b with
 |true=>exact(il (h.1 rfl)).symm
 |false=>exact(fq fun hp=>by have:=h.2 hp;cases this).symm
theorem NY{p q:Prop}(h:p↔q):dB p=dB q:=by rw[propext h]
end
theorem be{x:Int}(h1: -1000000000000000000≤x)(h2:x≤1000000000000000000):W x=x:=qe (by omega) (by omega)
theorem agF{α:Type}(xs:List α)(j:Nat):idx xs (j:Int)=xs[j]? :=by simp[idx]
theorem fg{α:Type}{xs:List α}{j:Nat}(h:j<xs.length)(y:α):cm xs (j:Int) y=some (xs.set j y):=by
 unfold cm
 rw[if_pos ⟨by omega,by omega⟩]
 simp
theorem Rl{α:Type}{xs:List α}{j:Int}(h0:0≤j)(h:j<xs.length)(y:α):cm xs j y=some (xs.set j.toNat y):=by unfold cm;rw[if_pos ⟨h0,h⟩]
theorem cp{α:Type}{xs ys:List α}(h:xs.length+ys.length≤1073741824):bq xs ys=some (xs++ys):=by unfold bq;rw[if_pos h]
theorem D_{α:Type}{xs:List α}{n:Nat}(h:n≤xs.length):dV xs 0 (n:Int)=some (xs.take n):=by
 unfold dV
 rw[if_pos ⟨by omega,by omega,by omega⟩]
 simp
theorem Rg{α:Type}{xs:List α}{n:Nat}(h:n≤xs.length):dV xs (n:Int) (len xs)=some (xs.drop n):=by
 unfold dV len
 rw[if_pos ⟨by omega,by omega,by omega⟩]
 simp
theorem EN{a b:Int}(ha:0≤a)(hb:0<b)(h:a≤1000000000000000000):ny a b=some (a/b):=by
 unfold ny
 have h1:a.tdiv b=a/b:=Int.tdiv_eq_ediv_of_nonneg ha
 have h2:0≤a/b:=Int.ediv_nonneg ha (by omega)
 have h3:a/b≤a:=Int.ediv_le_self _ ha
 rw[if_neg (by omega),h1,be (by omega) (by omega)]
theorem Kl{a b:Int}(ha:0≤a)(hb:0<b):jh a b=some (a% b):=by
 unfold jh
 rw[if_neg (by omega),Int.tmod_eq_emod_of_nonneg ha]
theorem ur{α:Type}{z:α}{n:Nat}(h:n≤1073741824):jC z (n:Int)=some (aqS n z):=by
 unfold jC;rw[if_pos ⟨by omega,by omega⟩];simp
theorem dT{c:Prop}[Decidable c](h:c):decide c=true:=decide_eq_true h
theorem dF{c:Prop}[Decidable c](h:¬c):decide c=false:=decide_eq_false h
theorem eh{a b:Int}(h:a=b):(a==b)=true:=by simp[h]
theorem bY{a b:Int}(h:a≠b):(a==b)=false:=by simp[h]
theorem HR{a b:Int}(h:a≠b):(a !=b)=true:=by simp[h]
theorem tv{a b:Int}(h:a=b):(a !=b)=false:=by simp[h]
end Rx
end Go.Proofs.YtncbfgppjfcijaaGreat
namespace Go.Proofs.YtncbfgppjfcijaaGreat
open Go Go.RowKit Dp
namespace Rx
theorem aU{k:Nat}(h:k<1000000000000000000):W ((k:Int)+1)=((k+1:Nat):Int):=by rw[be (by omega) (by omega)];omega
theorem o0{k:Nat}(h:k<1000000000000000000)(h0:0<k):W ((k:Int)-1)=((k-1:Nat):Int):=by rw[be (by omega) (by omega)];omega
section
variable {α:Type} [ab α]
def gt(l:List α)(k:Nat):α:=l.getD k ab.zero
theorem fx{l:List α}{k:Nat}(h:k<l.length):gt l k=l[k]:=by simp[gt,List.getD,h]
theorem az{l:List α}{k:Nat}(h:k<l.length):idx l (k:Int)=some (gt l k):=by rw[agF,fx h];simp[h]
theorem fQ{l:List α}{j:Int}(h0:0≤j)(h:j<l.length):idx l j=some (gt l j.toNat):=by
 obtain⟨k,rfl⟩:=Int.eq_ofNat_of_zero_le h0
 rw[az (by omega)]
 simp
theorem cV{l:List α}{k:Nat}(h:k<l.length):gt l k∈l:=by rw[fx h];exact List.getElem_mem _
theorem kY{l:List α}{x:α}(h:x∈l):∃k,k<l.length∧gt l k=x:=by
 obtain⟨k,hk,e⟩:=List.getElem_of_mem h
 exact⟨k,hk,by rw[fx hk,e]⟩
theorem dz{l:List α}{i k:Nat}{x:α}(h:i<l.length):gt (l.set i x) k=if k=i then x else gt l k:=by
 unfold gt
 simp only[arL,List.getElem?_set]
 by_cases hk:i=k
 · subst hk;simp[h]
 · rw[if_neg hk,if_neg (fun e=>hk e.symm)]
theorem Gk{l m:List α}{k:Nat}(h:k<l.length):gt (l++m) k=gt l k:=by
 unfold gt;simp[arL,ark h]
theorem Gl{l:List α}{x:α}:gt (l++[x]) l.length=x:=by
 unfold gt;simp[arL]
theorem fp{l m:List α}(h:l.length=m.length)(he:∀k,k<l.length→gt l k=gt m k):l=m:=by
 apply List.ext_getElem h
 intro k h1 h2
 have:=he k h1
 rwa[fx h1,fx h2] at this
theorem iM{l:List α}{k:Nat}(h:k<l.length):l.take (k+1)=l.take k++[gt l k]:=by
 rw[List.take_add_one,List.getElem?_eq_getElem h,fx h];rfl
theorem sO{n k:Nat}{z:α}(h:k<n):gt (aqS n z) k=z:=by
 rw[fx (by simpa using h)];simp
theorem SB{l:List α}{x:α}:x∈l↔∃k,k<l.length∧gt l k=x:=
 ⟨kY,fun⟨_,hk,e⟩=>e▸cV hk⟩
theorem fV{n j:Nat}(f:Nat→α)(h:j<n):gt ((aqN n).map f) j=f j:=by
 rw[fx (by simpa using h)];simp
theorem mY{l:List α}{x:α}{k:Nat}(h:k<l.length+1):gt (l++[x]) k=if k<l.length then gt l k else x:=by
 by_cases hk:k<l.length
 · rw[if_pos hk,Gk hk]
 · rw[if_neg hk,show k=l.length from by omega,Gl]
end
theorem wT{α:Type}{l:List α}{j:Int}{x:α}(h0:0≤j)(h:j<l.length):cm l j x=some (l.set j.toNat x):=by
 unfold cm;rw[if_pos ⟨h0,h⟩]
theorem aZ(a:Int):sR a a=some ():=if_pos rfl
theorem SW{α:Type}(l:List α):len l=(l.length:Int):=rfl
theorem NC{n:Nat}{p:Nat→Bool}(h:∀k,k<n→p k=false):(aqN n).find? p=none:=by
 rw[arB]
 intro k hk
 rw[h k (aqV.1 hk)]
 simp
section
open Classical
theorem kB{σ ρ:Type}{step:σ→Option (σ⊕ρ)}(f:Nat→σ)(n:Nat)(P:Nat→Prop){r e:ρ}(next:∀k,k<n→¬P k→step (f k)=some (.inl (f (k+1))))(hit:∀k,k<n→P k→step (f k)=some (.inr r))(stop:step (f n)=some (.inr e))(hn:n≤1000000000000000000:=by first|omega|(simp only[Sm] at*;omega)):
  ay step (f 0)=some (if ∃k,k<n∧P k then r else e):=by
 rw[kZ (R:=fun _=>r) (e:=e) f n (fun k=>decide (P k)) (fun k hk h=>next k hk (by simpa using h)) (fun k hk h=>hit k hk (by simpa using h)) stop hn]
 by_cases h:∃k,k<n∧P k
 · rw[if_pos h]
   obtain⟨k,hk,hp⟩:=h
   cases hf:(aqN n).find? (fun k=>decide (P k)) with
   |some j=>rfl
   |none=>
    have:=arB.1 hf k (aqV.2 hk)
    simp[hp] at this
 · rw[if_neg h,NC (fun k hk=>by
    have:¬P k:=fun hp=>h ⟨k,hk,hp⟩
    simp[this])]
theorem Fo{σ ρ:Type}{step:σ→Option (σ⊕ρ)}(f:Nat→σ)(n:Nat)(P:Nat→Prop){r e:ρ}(next:∀k,k<n→¬P k→step (f k)=some (.inl (f (k+1))))(hit:∀k,k<n→P k→step (f k)=some (.inr r))(stop:step (f n)=some (.inr e))(hn:n≤1000000000000000000:=by first|omega|(simp only[Sm] at*;omega)):
  ay step (f 0)=some (cond (dB (∃k,k<n∧P k)) r e):=by
 rw[kB f n P next hit stop hn]
 by_cases h:∃k,k<n∧P k
 · rw[if_pos h,il h];rfl
 · rw[if_neg h,fq h];rfl
end
theorem aQ{α:Type}{l:List α}{k:Nat}(h:k<l.length):decide ((k:Int)<len l)=true:=dT (by unfold len;omega)
theorem bl{α:Type}{l:List α}:decide ((l.length:Int)<len l)=false:=dF (by unfold len;omega)
theorem cM{α:Type}{l:List α}(hl:Sm l){k:Nat}(h:k<l.length):k<1000000000000000000:=by unfold Sm at hl;omega
theorem Q9{α:Type}{l:List α}(hl:Sm l):l.length≤1000000000000000000:=by unfold Sm at hl;omega
end Rx
end Go.Proofs.YtncbfgppjfcijaaGreat
