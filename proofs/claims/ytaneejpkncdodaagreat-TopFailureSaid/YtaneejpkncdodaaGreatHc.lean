import Derived.Test.YtaneejpkncdodaaGreatRp
set_option linter.unusedVariables false
set_option linter.unusedSimpArgs false
set_option linter.unusedSectionVars false
namespace Go.Proofs.YtaneejpkncdodaaGreat
open Go Go.RowKit Dp
namespace Rx
section
variable {P:Program} {n:Nat} {Q:Exit→Act→World→Prop} {L:List (Nat×Value)} {w:World} {ops:Array Oper} {rest:List Oper}
theorem CW.sr [Rd]{id:Nat}{l:List Oper}{y:Code}(h:∀K:Act→World→Prop,(∀L' w',CW P n y Q L' w'→NK n K L' w')→WL P n l.toArray (Exit.then K Q) l L w):CW P n (.seq (.region id l.toArray false) y) Q L w:=
 CW.seq fun K hK=>CW.region (h K hK)
theorem WL.nx [Rd]{y:Code}{K:Act→World→Prop}{Q':Exit→Act→World→Prop}(hK:∀L' w',CW P n y Q' L' w'→NK n K L' w')(h:CW P n y Q' L w):WL P n ops (Exit.then K Q) [] L w:=WL.nil (hK _ _ h)
theorem WL.p [I:Rd]{d:Nat}{op:Op}{ty:TypeId}{pos:String}{af:Array Edge}(v:Value)(h:Dp.pv L op=some v)(hd:I.fp n d=true)(k:WL P n ops Q rest ((d,v)::L) w):WL P n ops Q (⟨some d,op,ty,pos,af,none⟩::rest) L w:=WL.v h hd k
variable {d:Option Nat} {ty:TypeId} {pos:String} {af:Array Edge} {g:Option (Nat×Bool)} {t e t2:TypeId}
theorem OW.isNil [Rd]{u:Operand}{a:Option Addr}{n c:Nat}(hu:P.underlying t=some (.slice e))(hx:ev L u=some (.slice a n c)):
  OW P Q L ⟨d,.binOp .eql t u (.const (.slice none 0 0)) t2,ty,pos,af,g⟩ w (fun v' w'=>v'= .bool a.isNone∧w'=w):=by
 refine OW.run fun b hb=>⟨_,w, ?_,rfl,rfl⟩
 have h1:=hb _ _ hx
 have h2:b.eval (.const (.slice none 0 0))= .slice none 0 0:=rfl
 have h3:(binOp .eql t (.slice a n c) (.slice none 0 0)).run P w= .ok (.bool a.isNone) w:=by
  have h4:∀d:Nat,(Op.equalIn (d+1) t (.slice a n c) (.slice none 0 0)).run P w= .ok a.isNone w:=fun d=>by
   cases a<;>simp[Op.equalIn,run_underlying hu]
  simp only[binOp]
  simp[Op.equal,Op.maxDepth,h4 9999]
 simp[execOp,h1,h2,eqGuard,h3]
theorem wB{α:Type}[ad α]{S:Nat→Prop}{v:Value}{xs:List α}(h:Rv S w v xs):∃a n c,v= .slice a n c∧(a=none→xs=[]):=by
 obtain⟨p,cap,h1,_,_,h2⟩:=n_ h
 refine⟨p,_,cap,h1,fun hp=> ?_⟩
 rcases h2 with h2|⟨a,aw,h2,_⟩
 · exact h2
 · rw[hp] at h2;cases h2
theorem yK{α:Type}{r:List α}(h:bD ([]:List α) []=some r):r=[]:=by
 have h2:bD ([]:List α) []=some []:=rfl
 rw[h2] at h
 exact(Option.some.inj h).symm
end
section
variable {D:Nat→Type} [∀n,ad (D n)]
variable {T:aV D}
def XZ(T:aV D)(c:au D)(γ:Gh D)(w:World)(r:HH D c.outs)(v:Value)(w':World):Prop:=
 ∃U' γ' rs gT,fP T (cM T c.outs r) some id 3000 c.ir=some rs∧gh T (cM T c.outs r) some id 3000 c.bI=some gT∧
  qd U' γ' w' rs v∧(∀p x,cz gT p=some x→OR U' γ' w' p x)∧(∀p,(p,p)∈stay c→γ'.g p=γ.g p)∧Frame0 γ w γ' w'
theorem nH{c:au D}{γ:Gh D}{w w':World}{rr:HH D c.outs}{v:Value}{n e q:Nat}{K M N:List Nat}{o':bF}{r:List (D n)}
  (h1:fP T (cM T c.outs rr) some id 3000 c.ir=some [.one (.own q)]) (h2:gh T (cM T c.outs rr) some id 3000 c.bI=some [(q,some (.sl n e r K 3000))]) (h3:stay c=[])
  (hM:∀x∈M,1000≤x) (hN:∀x∈N,1000≤x) (ev:ba M N γ.o w o' w') (gi:Ow e o' q K w' v r) (hK:cU K):XZ T c γ w rr v w':=by
 refine⟨fun _=>True,⟨o',fun _=>v,fun _=>⟨.sl n,r⟩⟩,_,_,h1,h2,⟨trivial,rfl,gi.one⟩,fun p x hx=> ?_,(fun p hp=>by rw[h3] at hp;cases hp),ev.os,ev.tape,ev.output,ev.size,fun b hb hc=>⟨ev.dO b hb,ev.jE b hb fun hm=> ?_⟩,fun b hb hc=> ?_⟩
 · have hb:aq [(q,some (AO.sl n e r K 3000))] p=some (some x):=by
    unfold cz at hx
    split at hx
    · rename_i y hy;rw[hy];cases hx;rfl
    · cases hx
   obtain⟨rfl,hy⟩:=jP hb
   cases hy
   exact⟨gi,hK,.inr ⟨trivial,rfl⟩⟩
 · have:=hM _ hm
   omega
 · have hc:o' b=0∨o' b=3:=hc
   by_cases aQ:b<w.heap.size
   · exact⟨aQ,(ev.dO b aQ).symm⟩
   · have:=hN _ (ev.new b (by omega) hb)
     omega
end
end Rx
end Go.Proofs.YtaneejpkncdodaaGreat
