/- TopCommon: the given function answers true, whatever it is given; its arguments read as they did. No condition. -/
import Derived.Test.YtgaghlbepnjhiaaGreatRows
import Derived.Test.YtgaghlbepnjhiaaGreatRr
import Derived.Test.YtgaghlbepnjhiaaGreatLawTopCommon
import Derived.ProofKit
import Derived.OpenShut
set_option linter.all false
open Bool renaming false->ae,true->ab
open Option.some renaming inj->kb
namespace Go.Proofs.YtgaghlbepnjhiaaGreat
open Go Go.ChangeShapes Go.WideShapes Go.ChangeAt Go.RowKit Dp
namespace Rx
def arv:JR D Tryz.prog 3 [.int .i64]:=art Tryz.underlying3 (jJ (by kernel_rfl))
def arw:JR D Tryz.prog 22 [.sl 0]:=aro rk Tryz.underlying22 (jJ (by kernel_rfl)) arv
end Rx
def aD5:ownKnob Tryz.prog.godebug=none:=by kernel_rfl
def aD7:laidOutB Tryz.prog=ab:=by kernel_rfl
set_option maxHeartbeats 1600000 in
set_option maxRecDepth 100000 in
def aD6(os:Os)(started:os.Started)(H:Type)(enc:TypeId×Value->H):
  ReturnsInHanded {} Tryz.checked os 3 .any (Rows.topCommonSpec.pre6 enc Tryz.prog Tryz.f3 Rows.topCommonRow.domain ae) (Rows.topCommonSpec.post enc Tryz.prog Tryz.f3 ae ab ae ae):=by
 refine returnsInHanded_of_change (C:=Tryz.checked) aD5 started (by kernel_rfl) Tryz.func3
  (ChangeSpec.witness6 (enc:=enc) (C:=Tryz.checked) ae ⟨#[], #[.slice none 0 0],[]⟩ 8 (by kernel_rfl) (by kernel_rfl) (by kernel_rfl) (by kernel_rfl)) ?_
 intro W base args ds gs before adN hW _ _
 have adO:∀(j:Nat) t v,Tryz.f3.params[j]? =some t->args[j]? =some v->Value.okWide Tryz.prog W .any base t v:=adN
 have VF:=hW
 obtain⟨p,q,hA0,hV,rfl,_,_⟩:=hW
 have hA:DataW.TrodAll enc Tryz.prog W 0 (λ_=>ab) ab Tryz.f3.params.toList args.toList ds p:=hA0
 rw[Tryz.params3]at hA adO
 obtain⟨v0,wD,d0,ds0,p0,q0,ea,rfl,rfl,h0,hA⟩:=trodAll_cons hA
 obtain⟨ev,rfl,rfl⟩:=trodAll_nil hA
 subst ev
 have ea:args= #[v0]:=by cases args;simp_all
 subst ea
 obtain⟨rfl,rfl⟩:=trodVars_none hV
 obtain⟨sa0,sl0,sc0,rfl⟩:=okWide_slice Tryz.underlying22 (adO 0 22 v0 rfl rfl)
 have k0:=h0
 obtain⟨fu0,iD⟩:=h0
 obtain⟨e0,m0,l0,w0⟩:=Rx.arw.2 enc W 0 _ ab fu0 _ _ iD
 obtain⟨Ra,aE3,rfl,asq⟩:=Rx.ayT m0
 obtain rfl:=Rx.ayS asq
 clear adN
 simp only[List.append_nil]at VF
 have aS:∀y∈p0,y.block<W.heap.size:=λy hy=>VF.lt y (by simpa using hy)
 have g0:∀W':World,Below W.heap.size W W'->DataW.Trod enc Tryz.prog W' 0 (λb=>decide (b<W.heap.size)) ab 22 _ d0 p0:=
  λW' hn=>Below.trod aD7 (by kernel_rfl) (jJ (by kernel_rfl)) k0 hn (λy hy=>aS y (by simp[hy]))
 refine(Rx.as2 Rx.aAp (h:=Ra) (r:=ab) (Rx.as3 _) (w:=W) (vs:=[.slice sa0 sl0 sc0]) (ac:=[.one (.v (.sl 0) Ra [0] 1100)]) rfl rfl ⟨Rx.amR (ds:=Rx.dK Rx.T Rx.c3.ins Ra) (i:=0) (Nat.le_of_ble_eq_true rfl) rfl l0 rfl,trivial⟩).mono λe W' he=>?_
 obtain⟨v,rfl,⟨U',γ',rs,l8,hv⟩,hn⟩:=he
 obtain rfl:=kb l8
 obtain⟨rfl,_⟩:=hv
 exact⟨_,rfl,_,_,_,[],_,[],VF,trodAll_mk1 (shut_bool Tryz.underlying4 ab),trodAll_cons_mk (g0 _ hn) (rfl),rfl,hn.frame _,λh=>by cases h⟩
theorem TopCommon_holds:Rows.TopCommonSaid:=
 OpenClaim.holds_of_wide 3 Tryz.f3 rfl rfl rfl rfl rfl rfl rfl ⟨rfl,rfl,rfl,rfl,rfl⟩ rfl rfl rfl rfl rfl (by kernel_rfl) Tryz.func3 (by kernel_rfl)
  (jJ (by kernel_rfl)) (by unfold Func.isWrapper;first|(rw[aI (by decide+kernel)];kernel_rfl)|(rw[aK (by decide+kernel)];exact⟨rfl,rfl⟩))
  (λos started H enc _=>aD6 os started H enc)
end Go.Proofs.YtgaghlbepnjhiaaGreat
