import Derived.Test.YtaneejpkncdodaaGreatRp
import Derived.ChangeArms
import Derived.DataReads
import Derived.DataElems
set_option linter.unusedVariables false
set_option linter.unusedSimpArgs false
set_option linter.unusedSectionVars false
namespace Go.Proofs.YtaneejpkncdodaaGreat
open Go Go.RowKit Dp
namespace Rx
section
variable {D:Nat→Type} [∀n,ad (D n)]
variable {P:Program} {T:aV D}
def WfD:DV D→Prop
 |⟨.int k,n⟩=>(Lit.int k n).wf=true
 |⟨.bool,_⟩=>True
 |⟨.str,_⟩=>True
 |⟨.sl _,xs⟩=>xs.length≤maxLen
def yN(D:Nat→Type)[∀n,ad (D n)](P:Program)(t:TypeId)(ls:List Lf):Prop:=
 P.cellsOf t=ls.length∧∀{H:Type} (enc:TypeId×Value→H) (w:World) (base:Nat) (spare:Nat→Bool) (held:Bool) (gz:Nat) (cs:List Value) (x:DataW H×List MemPlace),DataW.trod enc P w base spare held gz t cs=some x→
   ∃ds:List (DV D),ds.map DV.l=ls∧bE (fun _=>True) w cs ds∧∀d∈ds,WfD d
theorem QJ{t:TypeId}{k:IntKind}(ht:P.underlying t=some (.int k))(hc:P.cellsOf t=1):yN D P t [.int k]:=by
 refine⟨hc,fun enc w base spare held gz cs x h=> ?_⟩
 obtain⟨n,rfl,_,hw⟩:=DataW.trod_int ht h
 exact⟨[⟨.int k,n⟩],rfl,⟨rfl,trivial⟩,fun d hd=>by rw[List.mem_singleton.1 hd];exact hw⟩
theorem ab2{t e:TypeId}{n:Nat}(hR:bR T)(ht:P.underlying t=some (.slice e))(hc:P.cellsOf t=1)(he:yN D P e (T.lv n)):yN D P t [.sl n]:=by
 refine⟨hc,fun enc w base spare held gz cs x h=> ?_⟩
 rcases DataW.trod_slice ht h with⟨rfl,_⟩|⟨a,len,cap,ams,rest,m,_,rfl,_,hb,hl,hm,hlen,uL,_,_⟩
 · exact⟨[⟨.sl n,([]:List (D n))⟩],rfl,⟨wA _ _,trivial⟩,fun d hd=>by rw[List.mem_singleton.1 hd];exact Nat.zero_le _⟩
 have dy:P.cellsOf e=ad.sz (D n):=by rw[he.1,hR.sz n]
 have each:∀i,i<len→∃(x:D n) (c:List Value),ad.rd (fun _=>True) w c x∧∀j u,c[j]? =some u→w.cell? (a.add (i*ad.sz (D n)+j))=some u:=fun i hi=>by
  have h1:=uL i hi
  rw[List.getElem?_eq_getElem (by omega),Option.bind_eq_some_iff] at h1
  obtain⟨c,d_,gw⟩:=h1
  obtain⟨_,cg,jh⟩:=World.cells?_some d_
  obtain⟨ds,d1,d2,_⟩:=he.2 enc w base spare held m c _ gw
  obtain⟨hh,hhe⟩:=C6 d1
  refine⟨T.tS n hh,c, ?_,fun j u hj=> ?_⟩
  · rw[hR.rd]
    show bE _ w c (od (T.lv n) (T.wV n (T.tS n hh)))
    rw[hR.EE,JD hhe]
    exact d2
  · have bZ:=(List.getElem?_eq_some_iff.1 hj).1
    have:=jh j (by omega)
    rw[hj,dy] at this
    rw[←Addr.add_add]
    exact this
 have all:∀k,k≤len→∃(xs:List (D n)) (aw:List (List Value)),xs.length=k∧bz (ad.rd (fun _=>True) w) aw xs∧gm w a aw.flatten:=by
  intro k
  induction k with
  |zero=>intro _;exact⟨[],[],rfl,trivial,fun j u hj=>by simp at hj⟩
  |succ k ih=>
   intro hk
   obtain⟨xs,aw,h1,h2,h3⟩:=ih (by omega)
   obtain⟨x,c,h4,h5⟩:=each k (by omega)
   refine⟨xs++[x],aw++[c],by simp[h1],h2.append ⟨h4,trivial⟩,fun j u hj=> ?_⟩
   have dG:=ma h2
   rw[List.flatten_append,show [c].flatten=c by simp] at hj
   by_cases bZ:j<aw.flatten.length
   · rw[List.getElem?_append_left bZ] at hj
     exact h3 j u hj
   · rw[List.getElem?_append_right (by omega)] at hj
     have:=h5 _ u hj
     rw[dG,h1] at this bZ
     rwa[show k*ad.sz (D n)+(j-k*ad.sz (D n))=j by omega] at this
 obtain⟨xs,aw,h1,h2,h3⟩:=all len (Nat.le_refl _)
 refine⟨[⟨.sl n,xs⟩],rfl,⟨⟨[.slice (some a) len cap],rfl,some a,cap,by rw[h1],by omega,hm,.inr ⟨a,aw,rfl,trivial,h2,h3⟩⟩,trivial⟩,fun d hd=>by rw[List.mem_singleton.1 hd];show xs.length≤maxLen;omega⟩
theorem YI{ds:List (DV D)}{w:World}{i:Nat}{d:DV D}{v:Value}(hl:ds.length≤800)(hd:ds[i]? =some d)(h:cL (fun _=>True) w v d):dK U0 (zO ds) w (.v d.l d.d (ua [0] d.l) (1100+i)) v:=by
 obtain⟨l,d⟩:=d
 refine⟨?_,aaZ hl hd,fun x hx=> ?_⟩
 · cases l with
   |sl n=>exact Rv.mono (fun b _ _=>⟨List.mem_singleton.2 rfl,rfl⟩) h
   |int k=>exact h
   |bool=>exact h
   |str=>exact h
 · cases l with
   |sl n=>rw[List.mem_singleton.1 hx];omega
   |int k=>cases hx
   |bool=>cases hx
   |str=>cases hx
theorem Ir{ds:List (DV D)}{w:World}{i:Nat}{d:DV D}{v:Value}{a:A1 D}(hl:ds.length≤800)(hd:ds[i]? =some d)(h:bE (fun _=>True) w [v] [d])(e:a= .v d.l d.d (ua [0] d.l) (1100+i)):j6 U0 (zO ds) w (.one a) v:=by
 subst e
 exact YI hl hd h.1
theorem MJ{l:Lf}{ls:List Lf}{ds:List (DV D)}(h:ds.map DV.l=l::ls):∃(d:l.den D) (r:List (DV D)),ds=⟨l,d⟩::r∧r.map DV.l=ls:=by
 cases ds with
 |nil=>simp at h
 |cons d r=>
  obtain⟨l',d⟩:=d
  simp at h
  obtain⟨rfl,h⟩:=h
  exact⟨d,r,rfl,h⟩
theorem MI{ds:List (DV D)}(h:ds.map DV.l=[]):ds=[]:=by simpa using h
end
end Rx
end Go.Proofs.YtaneejpkncdodaaGreat
