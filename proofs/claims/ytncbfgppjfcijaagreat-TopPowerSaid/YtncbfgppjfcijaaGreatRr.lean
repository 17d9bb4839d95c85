import Derived.Test.YtncbfgppjfcijaaGreatRp
import Derived.ChangeArms
import Derived.DataReads
import Derived.DataElems
set_option linter.unusedVariables false
set_option linter.unusedSimpArgs false
set_option linter.unusedSectionVars false
open List renaming mem_singleton→aq1
namespace Go.Proofs.YtncbfgppjfcijaaGreat
open Go Go.RowKit Dp
namespace Rx
section
variable {D:Nat→Type} [∀n,ab (D n)]
variable {P:Program} {T:aV D}
def WfD:DV D→Prop
 |⟨.int k,n⟩=>(Lit.int k n).wf=true
 |⟨.bool,_⟩=>True
 |⟨.str,_⟩=>True
 |⟨.sl _,xs⟩=>xs.length≤maxLen
def C1(D:Nat→Type)[∀n,ab (D n)](P:Program)(t:TypeId)(ls:List Lf):Prop:=
 P.cellsOf t=ls.length∧∀{H:Type} (enc:TypeId×Value→H) (w:World) (base:Nat) (spare:Nat→Bool) (held:Bool) (gH:Nat) (cs:List Value) (x:DataW H×List MemPlace),DataW.trod enc P w base spare held gH t cs=some x→
   ∃ds:List (DV D),ds.map DV.l=ls∧bK (fun _=>True) w cs ds∧∀d∈ds,WfD d
theorem aeZ{t:TypeId}{k:IntKind}(ht:P.underlying t=some (.int k))(hc:P.cellsOf t=1):C1 D P t [.int k]:=by
 refine⟨hc,fun enc w base spare held gH cs x h=> ?_⟩
 obtain⟨n,rfl,_,hw⟩:=DataW.trod_int ht h
 exact⟨[⟨.int k,n⟩],rfl,⟨rfl,trivial⟩,fun d hd=>by rw[aq1.1 hd];exact hw⟩
theorem aeW{t e:TypeId}{n:Nat}(hR:bQ T)(ht:P.underlying t=some (.slice e))(hc:P.cellsOf t=1)(he:C1 D P e (T.lv n)):C1 D P t [.sl n]:=by
 refine⟨hc,fun enc w base spare held gH cs x h=> ?_⟩
 rcases DataW.trod_slice ht h with⟨rfl,_⟩|⟨a,len,cap,aqj,rest,m,_,rfl,_,hb,hl,hm,hlen,vf,_,_⟩
 · exact⟨[⟨.sl n,([]:List (D n))⟩],rfl,⟨wY _ _,trivial⟩,fun d hd=>by rw[aq1.1 hd];exact Nat.zero_le _⟩
 have dy:P.cellsOf e=ab.sz (D n):=by rw[he.1,hR.sz n]
 have each:∀i,i<len→∃(x:D n) (c:List Value),ab.rd (fun _=>True) w c x∧∀j u,c[j]? =some u→w.cell? (a.add (i*ab.sz (D n)+j))=some u:=fun i hi=>by
  have h1:=vf i hi
  rw[List.getElem?_eq_getElem (by omega),Option.bind_eq_some_iff] at h1
  obtain⟨c,eu,gG⟩:=h1
  obtain⟨_,cf,iW⟩:=World.cells?_some eu
  obtain⟨ds,d1,d2,_⟩:=he.2 enc w base spare held m c _ gG
  obtain⟨hh,hhe⟩:=Dv d1
  refine⟨T.uu n hh,c, ?_,fun j u hj=> ?_⟩
  · rw[hR.rd]
    show bK _ w c (ot (T.lv n) (T.xl n (T.uu n hh)))
    rw[hR.E_,KK hhe]
    exact d2
  · have bW:=(List.getElem?_eq_some_iff.1 hj).1
    have:=iW j (by omega)
    rw[hj,dy] at this
    rw[←Addr.add_add]
    exact this
 have all:∀k,k≤len→∃(xs:List (D n)) (aw:List (List Value)),xs.length=k∧bC (ab.rd (fun _=>True) w) aw xs∧gy w a aw.flatten:=by
  intro k
  induction k with
  |zero=>intro _;exact⟨[],[],rfl,trivial,fun j u hj=>by simp at hj⟩
  |succ k ih=>
   intro hk
   obtain⟨xs,aw,h1,h2,h3⟩:=ih (by omega)
   obtain⟨x,c,h4,h5⟩:=each k (by omega)
   refine⟨xs++[x],aw++[c],by simp[h1],h2.append ⟨h4,trivial⟩,fun j u hj=> ?_⟩
   have dG:=mb h2
   rw[List.flatten_append,show [c].flatten=c by simp] at hj
   by_cases bW:j<aw.flatten.length
   · rw[List.getElem?_append_left bW] at hj
     exact h3 j u hj
   · rw[List.getElem?_append_right (by omega)] at hj
     have:=h5 _ u hj
     rw[dG,h1] at this bW
     rwa[show k*ab.sz (D n)+(j-k*ab.sz (D n))=j by omega] at this
 obtain⟨xs,aw,h1,h2,h3⟩:=all len (Nat.le_refl _)
 refine⟨[⟨.sl n,xs⟩],rfl,⟨⟨[.slice (some a) len cap],rfl,some a,cap,by rw[h1],by omega,hm,.inr ⟨a,aw,rfl,trivial,h2,h3⟩⟩,trivial⟩,fun d hd=>by rw[aq1.1 hd];show xs.length≤maxLen;omega⟩
theorem abf{ds:List (DV D)}{w:World}{i:Nat}{d:DV D}{v:Value}(hl:ds.length≤800)(hd:ds[i]? =some d)(h:cq (fun _=>True) w v d):dR U0 (Am ds) w (.v d.l d.d (uD [0] d.l) (1100+i)) v:=by
 obtain⟨l,d⟩:=d
 refine⟨?_,adL hl hd,fun x hx=> ?_⟩
 · cases l with
   |sl n=>exact Rv.mono (fun b _ _=>⟨aq1.2 rfl,rfl⟩) h
   |int k=>exact h
   |bool=>exact h
   |str=>exact h
 · cases l with
   |sl n=>rw[aq1.1 hx];omega
   |int k=>cases hx
   |bool=>cases hx
   |str=>cases hx
theorem abe{ds:List (DV D)}{w:World}{i:Nat}{d:DV D}{v:Value}{a:A1 D}(hl:ds.length≤800)(hd:ds[i]? =some d)(h:bK (fun _=>True) w [v] [d])(e:a= .v d.l d.d (uD [0] d.l) (1100+i)):kl U0 (Am ds) w (.one a) v:=by
 subst e
 exact abf hl hd h.1
theorem akV{l:Lf}{ls:List Lf}{ds:List (DV D)}(h:ds.map DV.l=l::ls):∃(d:l.den D) (r:List (DV D)),ds=⟨l,d⟩::r∧r.map DV.l=ls:=by
 cases ds with
 |nil=>simp at h
 |cons d r=>
  obtain⟨l',d⟩:=d
  simp at h
  obtain⟨rfl,h⟩:=h
  exact⟨d,r,rfl,h⟩
theorem akU{ds:List (DV D)}(h:ds.map DV.l=[]):ds=[]:=by simpa using h
end
end Rx
end Go.Proofs.YtncbfgppjfcijaaGreat
