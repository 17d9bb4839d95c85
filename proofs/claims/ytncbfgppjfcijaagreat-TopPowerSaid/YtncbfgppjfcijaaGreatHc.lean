import Derived.Test.YtncbfgppjfcijaaGreatRp
set_option linter.unusedVariables false
set_option linter.unusedSimpArgs false
set_option linter.unusedSectionVars false
open Option.some renaming inj→are
namespace Go.Proofs.YtncbfgppjfcijaaGreat
open Go Go.RowKit Dp
namespace Rx
section
variable {P:Program} {n:Nat} {Q:Exit→Act→World→Prop} {L:List (Nat×Value)} {w:World} {ops:Array Oper} {rest:List Oper}
theorem CW.sr [Rd]{id:Nat}{l:List Oper}{y:Code}(h:∀K:Act→World→Prop,(∀L' w',CW P n y Q L' w'→NK n K L' w')→WL P n l.toArray (Exit.then K Q) l L w):CW P n (.seq (.region id l.toArray false) y) Q L w:=
 CW.seq fun K hK=>CW.region (h K hK)
theorem WL.nx [Rd]{y:Code}{K:Act→World→Prop}{Q':Exit→Act→World→Prop}(hK:∀L' w',CW P n y Q' L' w'→NK n K L' w')(h:CW P n y Q' L w):WL P n ops (Exit.then K Q) [] L w:=WL.nil (hK _ _ h)
theorem WL.p [I:Rd]{d:Nat}{op:Op}{ty:TypeId}{pos:String}{af:Array Edge}(v:Value)(h:Dp.pv L op=some v)(hd:I.ft n d=true)(k:WL P n ops Q rest ((d,v)::L) w):WL P n ops Q (⟨some d,op,ty,pos,af,none⟩::rest) L w:=WL.v h hd k
variable {d:Option Nat} {ty:TypeId} {pos:String} {af:Array Edge} {g:Option (Nat×Bool)} {t e t2:TypeId}
theorem OW.isNil [Rd]{u:Operand}{a:Option Addr}{n c:Nat}(hu:P.underlying t=some (.slice e))(hx:ev L u=some (.slice a n c)):
  OW P Q L ⟨d,.binOp .eql t u (.const (.slice none 0 0)) t2,ty,pos,af,g⟩ w (fun v' w'=>v'= .bool a.isNone∧w'=w):=by
 refine OW.run fun b hb=>⟨_,w, ?_,rfl,rfl⟩
 have h1:=hb _ _ hx
 have h2:b.eval (.const (.slice none 0 0))= .slice none 0 0:=rfl
 have h3:(binOp .eql t (.slice a n c) (.slice none 0 0)).run P w= .ok (.bool a.isNone) w:=by
  have h4:∀d:Nat,(Op.equalIn (d+1) t (.slice a n c) (.slice none 0 0)).run P w= .ok a.isNone w:=fun d=>by
   cases a<;>simp[Op.equalIn,run_underlying hu]
  simp only[binOp]
  simp[Op.equal,Op.maxDepth,h4 9999]
 simp[execOp,h1,h2,eqGuard,h3]
theorem ui{α:Type}[ab α]{S:Nat→Prop}{v:Value}{xs:List α}(h:Rv S w v xs):∃a n c,v= .slice a n c∧(a=none→xs=[]):=by
 obtain⟨p,cap,h1,_,_,h2⟩:=om h
 refine⟨p,_,cap,h1,fun hp=> ?_⟩
 rcases h2 with h2|⟨a,aw,h2,_⟩
 · exact h2
 · rw[hp] at h2;cases h2
theorem vX{α:Type}{r:List α}(h:bq ([]:List α) []=some r):r=[]:=by
 have h2:bq ([]:List α) []=some []:=rfl
 rw[h2] at h
 exact(are h).symm
end
section
variable {D:Nat→Type} [∀n,ab (D n)]
variable {T:aV D}
def aaf(T:aV D)(c:ar D)(γ:Gh D)(w:World)(r:HH D c.outs)(v:Value)(w':World):Prop:=
 ∃U' γ' rs gW,fO T (cN T c.outs r) some id 3000 c.ie=some rs∧gj T (cN T c.outs r) some id 3000 c.bG=some gW∧
  qf U' γ' w' rs v∧(∀p x,cw gW p=some x→OR U' γ' w' p x)∧(∀p,(p,p)∈stay c→γ'.g p=γ.g p)∧Frame0 γ w γ' w'
theorem mc{c:ar D}{γ:Gh D}{w w':World}{rr:HH D c.outs}{v:Value}{n e q:Nat}{K M N:List Nat}{o':bL}{r:List (D n)}
  (h1:fO T (cN T c.outs rr) some id 3000 c.ie=some [.one (.own q)]) (h2:gj T (cN T c.outs rr) some id 3000 c.bG=some [(q,some (.sl n e r K 3000))]) (h3:stay c=[])
  (hM:∀x∈M,1000≤x) (hN:∀x∈N,1000≤x) (ev:ba M N γ.o w o' w') (gl:Ow e o' q K w' v r) (hK:cT K):aaf T c γ w rr v w':=by
 refine⟨fun _=>True,⟨o',fun _=>v,fun _=>⟨.sl n,r⟩⟩,_,_,h1,h2,⟨trivial,rfl,gl.one⟩,fun p x hx=> ?_,(fun p hp=>by rw[h3] at hp;cases hp),ev.os,ev.tape,ev.output,ev.size,fun b hb hc=>⟨ev.dW b hb,ev.jP b hb fun hm=> ?_⟩,fun b hb hc=> ?_⟩
 · have hb:au [(q,some (AO.sl n e r K 3000))] p=some (some x):=by
    unfold cw at hx
    split at hx
    · rename_i y hy;rw[hy];cases hx;rfl
    · cases hx
   obtain⟨rfl,hy⟩:=jZ hb
   cases hy
   exact⟨gl,hK,.inr ⟨trivial,rfl⟩⟩
 · have:=hM _ hm
   omega
 · have hc:o' b=0∨o' b=3:=hc
   by_cases aK:b<w.heap.size
   · exact⟨aK,(ev.dW b aK).symm⟩
   · have:=hN _ (ev.new b (by omega) hb)
     omega
end
end Rx
end Go.Proofs.YtncbfgppjfcijaaGreat
