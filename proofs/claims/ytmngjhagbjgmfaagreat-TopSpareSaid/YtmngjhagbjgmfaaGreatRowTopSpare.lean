/- TopSpare: the given function answers true, whatever it is given; its arguments read as they did. No condition. -/
import Derived.Test.YtmngjhagbjgmfaaGreatRows
import Derived.Test.YtmngjhagbjgmfaaGreatRr
import Derived.Test.YtmngjhagbjgmfaaGreatLawTopSpare
import Derived.ProofKit
import Derived.OpenShut
set_option linter.all false
open Bool renaming false->ai,true->ab
open Option.some renaming inj->jM
namespace Go.Proofs.YtmngjhagbjgmfaaGreat
open Go Go.ChangeShapes Go.WideShapes Go.ChangeAt Go.RowKit Dp
namespace Rx
def aqf:Jc D Tryz.prog 3 [.int .i64]:=aqd Tryz.underlying3 (jw (by kernel_rfl))
def aqg:Jc D Tryz.prog 22 [.sl 0]:=aqa pb Tryz.underlying22 (jw (by kernel_rfl)) aqf
end Rx
def aCz:ownKnob Tryz.prog.godebug=none:=by kernel_rfl
def aCB:laidOutB Tryz.prog=ab:=by kernel_rfl
set_option maxHeartbeats 1600000 in
set_option maxRecDepth 100000 in
def aCA(os:Os)(started:os.Started)(H:Type)(enc:TypeId×Value->H):
  ReturnsInHanded {} Tryz.checked os 3 .any (Rows.topSpareSpec.pre6 enc Tryz.prog Tryz.f3 Rows.topSpareRow.domain ai) (Rows.topSpareSpec.post enc Tryz.prog Tryz.f3 ai ab ai ai):=by
 refine returnsInHanded_of_change (C:=Tryz.checked) aCz started (by kernel_rfl) Tryz.func3
  (ChangeSpec.witness6 (enc:=enc) (C:=Tryz.checked) ai ⟨#[], #[.slice none 0 0],[]⟩ 8 (by kernel_rfl) (by kernel_rfl) (by kernel_rfl) (by kernel_rfl)) ?_
 intro W base args ds gs before acP hW _ _
 have acQ:∀(j:Nat) t v,Tryz.f3.params[j]? =some t->args[j]? =some v->Value.okWide Tryz.prog W .any base t v:=acP
 have UL:=hW
 obtain⟨p,q,hA0,hV,rfl,_,_⟩:=hW
 have hA:DataW.TrodAll enc Tryz.prog W 0 (λ_=>ab) ab Tryz.f3.params.toList args.toList ds p:=hA0
 rw[Tryz.params3]at hA acQ
 obtain⟨v0,wq,d0,ds0,p0,q0,ea,rfl,rfl,h0,hA⟩:=trodAll_cons hA
 obtain⟨ev,rfl,rfl⟩:=trodAll_nil hA
 subst ev
 have ea:args= #[v0]:=by cases args;simp_all
 subst ea
 obtain⟨rfl,rfl⟩:=trodVars_none hV
 obtain⟨sa0,sl0,sc0,rfl⟩:=okWide_slice Tryz.underlying22 (acQ 0 22 v0 rfl rfl)
 have k0:=h0
 obtain⟨fu0,ic⟩:=h0
 obtain⟨e0,m0,l0,w0⟩:=Rx.aqg.2 enc W 0 _ ab fu0 _ _ ic
 obtain⟨Qk,aDv,rfl,aq8⟩:=Rx.axB m0
 obtain rfl:=Rx.axA aq8
 clear acP
 simp only[List.append_nil]at UL
 have aU:∀y∈p0,y.block<W.heap.size:=λy hy=>UL.lt y (by simpa using hy)
 have g0:∀W':World,Below W.heap.size W W'->DataW.Trod enc Tryz.prog W' 0 (λb=>decide (b<W.heap.size)) ab 22 _ d0 p0:=
  λW' hn=>Below.trod aCB (by kernel_rfl) (jw (by kernel_rfl)) k0 hn (λy hy=>aU y (by simp[hy]))
 refine(Rx.arK Rx.ay3 (h:=Qk) (r:=ab) (Rx.arL _) (w:=W) (vs:=[.slice sa0 sl0 sc0]) (ac:=[.one (.v (.sl 0) Qk [0] 1100)]) rfl rfl ⟨Rx.alD (ds:=Rx.dE Rx.T Rx.c3.ins Qk) (i:=0) (Nat.le_of_ble_eq_true rfl) rfl l0 rfl,trivial⟩).mono λe W' he=>?_
 obtain⟨v,rfl,⟨U',γ',rs,kR,hv⟩,hn⟩:=he
 obtain rfl:=jM kR
 obtain⟨rfl,_⟩:=hv
 exact⟨_,rfl,_,_,_,[],_,[],UL,trodAll_mk1 (shut_bool Tryz.underlying4 ab),trodAll_cons_mk (g0 _ hn) (rfl),rfl,hn.frame _,λh=>by cases h⟩
theorem TopSpare_holds:Rows.TopSpareSaid:=
 OpenClaim.holds_of_wide 3 Tryz.f3 rfl rfl rfl rfl rfl rfl rfl ⟨rfl,rfl,rfl,rfl,rfl⟩ rfl rfl rfl rfl rfl (by kernel_rfl) Tryz.func3 (by kernel_rfl)
  (jw (by kernel_rfl)) (by unfold Func.isWrapper;first|(rw[aG (by decide+kernel)];kernel_rfl)|(rw[aK (by decide+kernel)];exact⟨rfl,rfl⟩))
  (λos started H enc _=>aCA os started H enc)
end Go.Proofs.YtmngjhagbjgmfaaGreat
