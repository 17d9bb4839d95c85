/- TopPower: the given function answers true, whatever it is given; its arguments read as they did. No condition. -/
import Derived.Test.YtncbfgppjfcijaaGreatRows
import Derived.Test.YtncbfgppjfcijaaGreatRr
import Derived.Test.YtncbfgppjfcijaaGreatLawTopPower
import Derived.ProofKit
import Derived.OpenShut
set_option linter.unusedVariables false
set_option linter.unusedSimpArgs false
open Option.some renaming inj→are
namespace Go.Proofs.YtncbfgppjfcijaaGreat
open Go Go.ChangeShapes Go.WideShapes Go.ChangeAt Go.RowKit Dp
namespace Rx
theorem ae1:C1 D Tryz.prog 3 [.int .i64]:=aeZ Tryz.underlying3 (of_decide_eq_true (by kernel_rfl))
theorem ae2:C1 D Tryz.prog 22 [.sl 0]:=aeW fD Tryz.underlying22 (of_decide_eq_true (by kernel_rfl)) ae1
end Rx
theorem apn:ownKnob Tryz.prog.godebug=none:=by kernel_rfl
theorem apq:laidOutB Tryz.prog=true:=by kernel_rfl
set_option maxHeartbeats 1600000 in
set_option maxRecDepth 100000 in
theorem apo(os:Os)(started:os.Started)(H:Type)(enc:TypeId×Value→H):
  ReturnsInHanded {} Tryz.checked os 3 .any (Rows.topPowerSpec.pre6 enc Tryz.prog Tryz.f3 Rows.topPowerRow.domain false) (Rows.topPowerSpec.post enc Tryz.prog Tryz.f3 false true false false):=by
 refine returnsInHanded_of_change (C:=Tryz.checked) apn started (by kernel_rfl) Tryz.func3
  (ChangeSpec.witness6 (enc:=enc) (C:=Tryz.checked) false ⟨#[], #[.slice none 0 0],[]⟩ 8 (by kernel_rfl) (by kernel_rfl) (by kernel_rfl) (by kernel_rfl)) ?_
 intro W base args ds gs before TM hW _ _
 have TN:∀(j:Nat) t v,Tryz.f3.params[j]? =some t→args[j]? =some v→Value.okWide Tryz.prog W .any base t v:=TM
 have Na:=hW
 obtain⟨p,q,hA0,hV,rfl,_,_⟩:=hW
 have hA:DataW.TrodAll enc Tryz.prog W 0 (fun _=>true) true Tryz.f3.params.toList args.toList ds p:=hA0
 rw[Tryz.params3] at hA TN
 obtain⟨v0,qt,d0,ds0,p0,q0,ea,rfl,rfl,h0,hA⟩:=trodAll_cons hA
 obtain⟨ev,rfl,rfl⟩:=trodAll_nil hA
 subst ev
 have ea:args= #[v0]:=by cases args;simp_all
 subst ea
 obtain⟨rfl,rfl⟩:=trodVars_none hV
 obtain⟨sa0,sl0,sc0,rfl⟩:=okWide_slice Tryz.underlying22 (TN 0 22 v0 rfl rfl)
 have k0:=h0
 obtain⟨fu0,fG⟩:=h0
 obtain⟨e0,m0,l0,w0⟩:=Rx.ae2.2 enc W 0 _ true fu0 _ _ fG
 obtain⟨I6,aqk,rfl,afA⟩:=Rx.akV m0
 obtain rfl:=Rx.akU afA
 clear TM
 simp only[List.append_nil] at Na
 have aK:∀y∈p0,y.block<W.heap.size:=fun y hy=>Na.lt y (by simpa using hy)
 have g0:∀W':World,Below W.heap.size W W'→DataW.Trod enc Tryz.prog W' 0 (fun b=>decide (b<W.heap.size)) true 22 _ d0 p0:=
  fun W' hn=>Below.trod apq (by kernel_rfl) (of_decide_eq_true (by kernel_rfl)) k0 hn (fun y hy=>aK y (by simp[hy]))
 refine(Rx.af4 Rx.ams (h:=I6) (r:=true) (Rx.af5 _) (w:=W) (vs:=[.slice sa0 sl0 sc0]) (ac:=[.one (.v (.sl 0) I6 [0] 1100)]) rfl rfl ⟨Rx.abe (ds:=Rx.cN Rx.T Rx.c3.ins I6) (i:=0) (Nat.le_of_ble_eq_true rfl) rfl l0 rfl,trivial⟩).mono fun e W' he=> ?_
 obtain⟨v,rfl,⟨U',γ',rs,jF,hv⟩,hn⟩:=he
 obtain rfl:=are jF
 obtain⟨rfl,_⟩:=hv
 exact⟨_,rfl,_,_,_,[],_,[],Na,trodAll_mk1 (shut_bool Tryz.underlying4 true),trodAll_cons_mk (g0 _ hn) (rfl),rfl,hn.frame _,fun h=>by cases h⟩
theorem TopPower_holds:Rows.TopPowerSaid:=
 OpenClaim.holds_of_wide 3 Tryz.f3 rfl rfl rfl rfl rfl rfl rfl ⟨rfl,rfl,rfl,rfl,rfl⟩ rfl rfl rfl rfl rfl (by kernel_rfl) Tryz.func3 (by kernel_rfl)
  (of_decide_eq_true (by kernel_rfl)) (by unfold Func.isWrapper;first|(rw[if_pos (by decide+kernel)];kernel_rfl)|(rw[if_neg (by decide+kernel)];exact⟨rfl,rfl⟩))
  (fun os started H enc _=>apo os started H enc)
end Go.Proofs.YtncbfgppjfcijaaGreat
