/- TopFailure: the given function answers true, whatever it is given; its arguments read as they did. No condition. -/
import Derived.Test.YtaneejpkncdodaaGreatRows
import Derived.Test.YtaneejpkncdodaaGreatRr
import Derived.Test.YtaneejpkncdodaaGreatLawTopFailure
import Derived.ProofKit
import Derived.OpenShut
set_option linter.unusedVariables false
set_option linter.unusedSimpArgs false
namespace Go.Proofs.YtaneejpkncdodaaGreat
open Go Go.ChangeShapes Go.WideShapes Go.ChangeAt Go.RowKit Dp
namespace Rx
theorem ab6:yN D Tryz.prog 3 [.int .i64]:=QJ Tryz.underlying3 (of_decide_eq_true (by kernel_rfl))
theorem ab7:yN D Tryz.prog 22 [.sl 0]:=ab2 fD Tryz.underlying22 (of_decide_eq_true (by kernel_rfl)) ab6
theorem QK:yN D Tryz.prog 5 [.int .u8]:=QJ Tryz.underlying5 (of_decide_eq_true (by kernel_rfl))
end Rx
theorem alx:ownKnob Tryz.prog.godebug=none:=by kernel_rfl
theorem NY:laidOutB Tryz.prog=true:=by kernel_rfl
set_option maxHeartbeats 1600000 in
set_option maxRecDepth 100000 in
theorem aly(os:Os)(started:os.Started)(H:Type)(enc:TypeId×Value→H):
  ReturnsInHanded {} Tryz.checked os 3 .any (Rows.topFailureSpec.pre6 enc Tryz.prog Tryz.f3 Rows.topFailureRow.domain false) (Rows.topFailureSpec.post enc Tryz.prog Tryz.f3 false true false false):=by
 refine returnsInHanded_of_change (C:=Tryz.checked) alx started (by kernel_rfl) Tryz.func3
  (ChangeSpec.witness6 (enc:=enc) (C:=Tryz.checked) false ⟨#[], #[.slice none 0 0,.int .u8 0,.int .u8 0],[]⟩ 8 (by kernel_rfl) (by kernel_rfl) (by kernel_rfl) (by kernel_rfl)) ?_
 intro W base args ds gs before Sd hW _ _
 have E_:∀(j:Nat) t v,Tryz.f3.params[j]? =some t→args[j]? =some v→Value.okWide Tryz.prog W .any base t v:=Sd
 have LX:=hW
 obtain⟨p,q,hA0,hV,rfl,_,_⟩:=hW
 have hA:DataW.TrodAll enc Tryz.prog W 0 (fun _=>true) true Tryz.f3.params.toList args.toList ds p:=hA0
 rw[Tryz.params3] at hA E_
 obtain⟨v0,qn,d0,ds0,p0,q0,ea,rfl,rfl,h0,hA⟩:=trodAll_cons hA
 obtain⟨v1,Iq,d1,ds1,p1,q1,rfl,rfl,rfl,h1,hA⟩:=trodAll_cons hA
 obtain⟨v2,vs2,d2,ds2,p2,q2,rfl,rfl,rfl,h2,hA⟩:=trodAll_cons hA
 obtain⟨ev,rfl,rfl⟩:=trodAll_nil hA
 subst ev
 have ea:args= #[v0,v1,v2]:=by cases args;simp_all
 subst ea
 obtain⟨rfl,rfl⟩:=trodVars_none hV
 obtain⟨sa0,sl0,sc0,rfl⟩:=okWide_slice Tryz.underlying22 (E_ 0 22 v0 rfl rfl)
 have k0:=h0
 obtain⟨fu0,fG⟩:=h0
 obtain⟨e0,m0,l0,w0⟩:=Rx.ab7.2 enc W 0 _ true fu0 _ _ fG
 obtain⟨zj,amv,rfl,acF⟩:=Rx.MJ m0
 obtain rfl:=Rx.MI acF
 obtain⟨z1,rfl⟩:=okWide_int Tryz.underlying5 (E_ 1 5 v1 rfl rfl)
 have k1:=h1
 obtain⟨fu1,hf1⟩:=h1
 obtain⟨e1,m1,l1,w1⟩:=Rx.QK.2 enc W 0 _ true fu1 _ _ hf1
 obtain⟨zi,amu,rfl,acD⟩:=Rx.MJ m1
 obtain rfl:=Rx.MI acD
 obtain⟨z2,rfl⟩:=okWide_int Tryz.underlying5 (E_ 2 5 v2 rfl rfl)
 have k2:=h2
 obtain⟨fu2,hf2⟩:=h2
 obtain⟨e2,m2,l2,w2⟩:=Rx.QK.2 enc W 0 _ true fu2 _ _ hf2
 obtain⟨zh,amt,rfl,acC⟩:=Rx.MJ m2
 obtain rfl:=Rx.MI acC
 clear Sd
 simp only[List.append_nil] at LX
 have aQ:∀y∈p0++(p1++(p2)),y.block<W.heap.size:=fun y hy=>LX.lt y (by simpa using hy)
 have g0:∀W':World,Below W.heap.size W W'→DataW.Trod enc Tryz.prog W' 0 (fun b=>decide (b<W.heap.size)) true 22 _ d0 p0:=
  fun W' hn=>Below.trod NY (by kernel_rfl) (of_decide_eq_true (by kernel_rfl)) k0 hn (fun y hy=>aQ y (by simp[hy]))
 have g1:∀W':World,Below W.heap.size W W'→DataW.Trod enc Tryz.prog W' 0 (fun b=>decide (b<W.heap.size)) true 5 _ d1 p1:=
  fun W' hn=>Below.trod NY (by kernel_rfl) (of_decide_eq_true (by kernel_rfl)) k1 hn (fun y hy=>aQ y (by simp[hy]))
 have g2:∀W':World,Below W.heap.size W W'→DataW.Trod enc Tryz.prog W' 0 (fun b=>decide (b<W.heap.size)) true 5 _ d2 p2:=
  fun W' hn=>Below.trod NY (by kernel_rfl) (of_decide_eq_true (by kernel_rfl)) k2 hn (fun y hy=>aQ y (by simp[hy]))
 refine(Rx.adb Rx.aji (h:=(zj,zi,zh)) (r:=true) (Rx.ade _ _ _) (w:=W) (vs:=[.slice sa0 sl0 sc0,.int .u8 z1,.int .u8 z2]) (ac:=[.one (.v (.sl 0) zj [0] 1100),.one (.v (.int .u8) zi [] 1101),.one (.v (.int .u8) zh [] 1102)]) rfl rfl ⟨Rx.Ir (ds:=Rx.cM Rx.T Rx.c3.ins (zj,zi,zh)) (i:=0) (Nat.le_of_ble_eq_true rfl) rfl l0 rfl,Rx.Ir (ds:=Rx.cM Rx.T Rx.c3.ins (zj,zi,zh)) (i:=1) (Nat.le_of_ble_eq_true rfl) rfl l1 rfl,Rx.Ir (ds:=Rx.cM Rx.T Rx.c3.ins (zj,zi,zh)) (i:=2) (Nat.le_of_ble_eq_true rfl) rfl l2 rfl,trivial⟩).mono fun e W' he=> ?_
 obtain⟨v,rfl,⟨U',γ',rs,jw,hv⟩,hn⟩:=he
 obtain rfl:=Option.some.inj jw
 obtain⟨rfl,_⟩:=hv
 exact⟨_,rfl,_,_,_,[],_,[],LX,trodAll_mk1 (shut_bool Tryz.underlying4 true),trodAll_cons_mk (g0 _ hn) (trodAll_cons_mk (g1 _ hn) (trodAll_cons_mk (g2 _ hn) (rfl))),rfl,hn.frame _,fun h=>by cases h⟩
theorem TopFailure_holds:Rows.TopFailureSaid:=
 OpenClaim.holds_of_wide 3 Tryz.f3 rfl rfl rfl rfl rfl rfl rfl ⟨rfl,rfl,rfl,rfl,rfl⟩ rfl rfl rfl rfl rfl (by kernel_rfl) Tryz.func3 (by kernel_rfl)
  (of_decide_eq_true (by kernel_rfl)) (by unfold Func.isWrapper;first|(rw[if_pos (by decide+kernel)];kernel_rfl)|(rw[if_neg (by decide+kernel)];exact⟨rfl,rfl⟩))
  (fun os started H enc _=>aly os started H enc)
end Go.Proofs.YtaneejpkncdodaaGreat
