/- Walks. Written by a program (wip/gen). -/
import Derived.Test.YtdfkfohpgakihaaTf
import Derived.Test.YtdfkfohpgakihaaFn
set_option linter.unusedVariables false
set_option linter.unusedSimpArgs false
namespace Go.Proofs.Ytdfkfohpgakihaa
open Go Go.RowKit Dp

set_option maxRecDepth 100000

set_option maxHeartbeats 1000000 in
theorem dynposmake_Mod_ok {a0 : Int} {a1 : Int} {r : Int} (hF : dynposmake_Mod a0 a1 = some r) {w0 : World}  :
    Calls Try.prog 56 #[.int .i64 a0, .int .i64 a1] w0 (Ret fun v w' => ∃ (oc : Cls), En w0 (entM w0 [] []) oc w' ∧ v = .int .i64 r) := by
 obtain ⟨e0, he0⟩ : ∃ e0, e0 = entM w0 [] [] := ⟨_, rfl⟩
 have hE := En.refl w0 e0
 rw [dynposmake_Mod] at hF
 refine enter (l := [.int .i64 a0, .int .i64 a1]) Try.func56 rfl Try.ntmps56 rfl ?_
 refine CW.sub (L' := [(0, .int .i64 a0), (1, .int .i64 a1)]) ⟨rfl, rfl, trivial⟩ ?_
 refine CW.sr fun K1 hK1 => ?_
 refine WL.p (.int .i64 0) rfl rfl ?_
 refine WL.nx hK1 ?_
 refine CW.seq fun K2 hK2 => ?_
 refine CW.sr fun K3 hK3 => ?_
 refine WL.p (.int .i64 a1) rfl rfl ?_
 refine WL.p (.bool ((decide (a1 < 1)))) rfl rfl ?_
 refine WL.nx hK3 ?_
 refine CW.cond (b := (decide (a1 < 1))) rfl (fun hc4 => ?_) (fun hc4 => ?_)
 ·have hF := iteT hc4 hF
  refine CW.sr fun K5 hK5 => ?_
  refine WL.p (.int .i64 0) rfl rfl ?_
  refine WL.nx hK5 ?_
  obtain rfl := Option.some.inj hF
  exact CW.rets (vs := [.int .i64 0]) Try.results56 ⟨rfl, trivial⟩ ⟨_, rfl, _, (hE.rn he0 100 [] rfl rfl), rfl⟩ (fun _ _ h => h)
 ·have hF := iteF hc4 hF
  refine CW.skip ?_
  refine hK2 _ _ ?_
  refine CW.sr fun K6 hK6 => ?_
  refine WL.p (.int .i64 a0) rfl rfl ?_
  refine WL.p (.int .i64 a1) rfl rfl ?_
  obtain ⟨y7, q8, hF⟩ := bindE hF
  refine WL.stepE (OW.rem rfl rfl q8) rfl ?_
  refine WL.p (.int .i64 a1) rfl rfl ?_
  refine WL.p (.int .i64 ((W (y7 + a1)))) rfl rfl ?_
  refine WL.p (.int .i64 a1) rfl rfl ?_
  obtain ⟨y9, q10, hF⟩ := bindE hF
  refine WL.stepE (OW.rem rfl rfl q10) rfl ?_
  refine WL.p (.int .i64 y9) rfl rfl ?_
  refine WL.nx hK6 ?_
  obtain rfl := Option.some.inj hF
  exact CW.rets (vs := [.int .i64 y9]) Try.results56 ⟨rfl, trivial⟩ ⟨_, rfl, _, (hE.rn he0 100 [] rfl rfl), rfl⟩ (fun _ _ h => h)

set_option maxHeartbeats 1000000 in
theorem Src_N_raw_ok {a0 : Src} {a1 : Int} {r : (Int × Src)} (hF : Src_N_raw a0 a1 = some r) {w0 : World} {pa0 : Addr} {u0_0 : Value} (hb0 : BkI w0 pa0 [u0_0, .int .i64 a0.At]) {S0_0 : Nat → Prop} (g0_0 : Rv S0_0 w0 u0_0 a0.L) (n0_0 : ∀ b, b < w0.heap.size → S0_0 b → b ∉ [pa0.block]) (hmb : [pa0.block].Nodup) :
    Calls Try.prog 31 #[.pointer (some pa0), .int .i64 a1] w0 (Ret fun v w' => ∃ (oc : Cls), En w0 (entM w0 [pa0.block] [S0_0]) oc w' ∧ v = .int .i64 r.1 ∧ Bk oc 1 w' pa0 [u0_0, .int .i64 r.2.At]) := by
 obtain ⟨e0, he0⟩ : ∃ e0, e0 = entM w0 [pa0.block] [S0_0] := ⟨_, rfl⟩
 have hE := En.refl w0 e0
 have hb0 := hb0.inM he0 hmb 0 rfl
 have g0_0 := g0_0.argM he0 0 (K := [40]) rfl n0_0 rfl
 rw [Src_N_raw] at hF
 refine enter (l := [.pointer (some pa0), .int .i64 a1]) Try.func31 rfl Try.ntmps31 rfl ?_
 refine CW.sub (L' := [(0, .pointer (some pa0)), (1, .int .i64 a1)]) ⟨rfl, rfl, trivial⟩ ?_
 refine CW.sr fun K1 hK1 => ?_
 refine WL.p (.int .i64 0) rfl rfl ?_
 refine WL.nx hK1 ?_
 refine CW.seq fun K2 hK2 => ?_
 refine CW.seq fun K3 hK3 => ?_
 have ev_ := Evo.drew e0 w0
 refine CW.anyS (N := []) hmix [sBk none none [] 1 (vk pa0) (vk ([u0_0, .int .i64 a0.At]))] [⟨[], [], [], [], vk (.pointer (some pa0)), false⟩, ⟨[], [], [0], [], vk (.pointer (some pa0)), false⟩, ⟨[], [], [0, 1], [], vk (.pointer (some (pa0.add 1))), false⟩, ⟨[], [0], [0, 1, 2], [], vk (.int .i64 a0.At), false⟩, ⟨[], [], [], [], vk (.pointer (some pa0)), false⟩, ⟨[], [], [4], [], vk (.pointer (some pa0)), false⟩, ⟨[], [], [4, 5], [], vk (.pointer (some (pa0.add 0))), false⟩, ⟨[], [0], [4, 5, 6], [], vk u0_0, false⟩, ⟨[], [], rg 4 4, [], vk (.int .i64 (len a0.L)), false⟩, ⟨[], [], rg 0 9, [], vk (.bool ((decide (a0.At ≥ (len a0.L))))), false⟩] [] hE rfl (by kernel_rfl) (by kernel_rfl) ⟨hb0.evo ev_ rfl, trivial⟩ ⟨Ob.pv rfl rfl (fun _ => rfl) rfl (fun _ _ _ => trivial), ?_, ?_, ?_, Ob.pv rfl rfl (fun _ => rfl) rfl (fun _ _ _ => trivial), ?_, ?_, ?_, ?_, Ob.pv rfl rfl (fun _ => rfl) rfl (fun _ _ _ => trivial), trivial⟩ ?_
 ·intro vs4 o_ w_ hE 
  exact OW.q [(5, .pointer (some pa0))] ⟨rfl, trivial⟩ (OW.pv (v := .pointer (some pa0)) rfl) (er rfl trivial)
 ·intro vs4 o_ w_ hE 
  exact OW.q [(6, .pointer (some pa0))] ⟨rfl, trivial⟩ (OW.fldAddr (FldOk.at f69_1) rfl) (er rfl trivial)
 ·intro vs4 o_ w_ hE hb0
  have hb0 := tBk hb0
  exact OW.q [(7, .pointer (some (pa0.add 1)))] ⟨rfl, trivial⟩ (OW.loadK (off := 1) Int (.int .i64 a0.At) ty3 rfl hb0 rfl rfl) (er rfl trivial)
 ·intro vs4 o_ w_ hE 
  exact OW.q [(9, .pointer (some pa0))] ⟨rfl, trivial⟩ (OW.pv (v := .pointer (some pa0)) rfl) (er rfl trivial)
 ·intro vs4 o_ w_ hE 
  exact OW.q [(10, .pointer (some pa0))] ⟨rfl, trivial⟩ (OW.fldAddr (FldOk.at f69_0) rfl) (er rfl trivial)
 ·intro vs4 o_ w_ hE hb0
  have hb0 := tBk hb0
  exact OW.q [(11, .pointer (some (pa0.add 0)))] ⟨rfl, trivial⟩ (OW.loadK (off := 0) (List Int) (u0_0) ty22 rfl hb0 rfl rfl) (er rfl trivial)
 ·intro vs4 o_ w_ hE 
  have hE := hE.1
  exact OW.q [(12, u0_0)] ⟨rfl, trivial⟩ (OW.len Try.underlying22 rfl (g0_0.baseM hE rfl)) (er rfl trivial)
 ·intro vs4 o6 w5 hE hb0
  obtain ⟨hE, evT_⟩ := hE
  have hb0 : Bk o6 1 w5 pa0 [u0_0, .int .i64 a0.At] := hb0
  refine hK3 _ _ ?_
  refine CW.cond (b := (decide (a0.At ≥ (len a0.L)))) rfl (fun hc7 => ?_) (fun hc7 => ?_)
  ·have hF := iteT hc7 hF
   refine CW.sr fun K8 hK8 => ?_
   refine WL.p (.int .i64 0) rfl rfl ?_
   refine WL.nx hK8 ?_
   obtain rfl := Option.some.inj hF
   exact CW.rets (vs := [.int .i64 0]) Try.results31 ⟨rfl, trivial⟩ ⟨_, rfl, _, (hE.rn he0 102 [] rfl rfl), rfl, (hb0.rn (c' := 1) rfl)⟩ (fun _ _ h => h)
  ·have hF := iteF hc7 hF
   refine CW.skip ?_
   refine hK2 _ _ ?_
   refine CW.sr fun K9 hK9 => ?_
   refine WL.p (.pointer (some pa0)) rfl rfl ?_
   refine WL.stepE (OW.pv (v := .pointer (some pa0)) rfl) rfl ?_
   refine WL.stepE (OW.fldAddr (FldOk.at f69_1) rfl) rfl ?_
   refine WL.stepE (OW.loadK (off := 1) Int (.int .i64 a0.At) ty3 rfl hb0 rfl rfl) rfl ?_
   refine WL.p (.int .i64 ((W (a0.At + 1)))) rfl rfl ?_
   refine WL.stepE (OW.pv (v := .pointer (some pa0)) rfl) rfl ?_
   refine WL.stepE (OW.fldAddr (FldOk.at f69_1) rfl) rfl ?_
   refine WL.step0 (OW.storeK (off := 1) Int [u0_0, .int .i64 ((W (a0.At + 1)))] [.int .i64 ((W (a0.At + 1)))] ty3 rfl rfl hb0 rfl ⟨rfl, trivial⟩ rfl rfl rfl) ?_
   rintro _ w10 ⟨ev11, hb0⟩
   have hE := hE.evo ev11 rfl rfl
   refine WL.nx hK9 ?_
   refine CW.seq fun K12 hK12 => ?_
   obtain ⟨y13, q17, hF⟩ := bindE hF
   obtain ⟨y18, q19, hF⟩ := bindE hF
   have ev_ := Evo.drew o6 w10
   refine CW.anyS (N := [100]) hmix [sBk none none [] 1 (vk pa0) (vk ([u0_0, .int .i64 ((W (a0.At + 1)))])), sPt (some 9) none [9] [40] (vp 0) y13, sEp (some 9) none [9] (vk u0_0) 1 ((W (((W (a0.At + 1))) - 1))) (vp 0)] [⟨[], [], [], [], vk (.pointer (some pa0)), false⟩, ⟨[], [], [0], [], vk (.pointer (some pa0)), false⟩, ⟨[], [], [0, 1], [], vk (.pointer (some (pa0.add 0))), false⟩, ⟨[], [0], [0, 1, 2], [], vk u0_0, false⟩, ⟨[], [], [], [], vk (.pointer (some pa0)), false⟩, ⟨[], [], [4], [], vk (.pointer (some pa0)), false⟩, ⟨[], [], [4, 5], [], vk (.pointer (some (pa0.add 1))), false⟩, ⟨[], [0], [4, 5, 6], [], vk (.int .i64 ((W (a0.At + 1)))), false⟩, ⟨[], [], rg 4 4, [], vk (.int .i64 ((W (((W (a0.At + 1))) - 1)))), false⟩, ⟨[], [], rg 0 9, [9], vq 0, false⟩, ⟨[], [1], rg 0 10, [], vk (.int .i64 y13), false⟩, ⟨[], [], [], [], vk (.int .i64 a1), false⟩, ⟨[], [], rg 0 12, [], vk (.int .i64 y18), false⟩, ⟨[], [], rg 0 13, [], vk (.int .i64 y18), false⟩] [] hE rfl (by kernel_rfl) (by kernel_rfl) ⟨hb0.evo ev_ rfl, trivial⟩ ⟨Ob.pv rfl rfl (fun _ => rfl) rfl (fun _ _ _ => trivial), ?_, ?_, ?_, Ob.pv rfl rfl (fun _ => rfl) rfl (fun _ _ _ => trivial), ?_, ?_, ?_, Ob.pv rfl rfl (fun _ => rfl) rfl (fun _ _ _ => trivial), ?_, ?_, Ob.pv rfl rfl (fun _ => rfl) rfl (fun _ _ _ => trivial), ?_, Ob.pv rfl rfl (fun _ => rfl) rfl (fun _ _ _ => trivial), trivial⟩ ?_
   ·intro vs25 o_ w_ hE 
    exact OW.q [(22, .pointer (some pa0))] ⟨rfl, trivial⟩ (OW.pv (v := .pointer (some pa0)) rfl) (er rfl trivial)
   ·intro vs25 o_ w_ hE 
    exact OW.q [(23, .pointer (some pa0))] ⟨rfl, trivial⟩ (OW.fldAddr (FldOk.at f69_0) rfl) (er rfl trivial)
   ·intro vs25 o_ w_ hE hb0
    have hb0 := tBk hb0
    exact OW.q [(24, .pointer (some (pa0.add 0)))] ⟨rfl, trivial⟩ (OW.loadK (off := 0) (List Int) (u0_0) ty22 rfl hb0 rfl rfl) (er rfl trivial)
   ·intro vs25 o_ w_ hE 
    exact OW.q [(26, .pointer (some pa0))] ⟨rfl, trivial⟩ (OW.pv (v := .pointer (some pa0)) rfl) (er rfl trivial)
   ·intro vs25 o_ w_ hE 
    exact OW.q [(27, .pointer (some pa0))] ⟨rfl, trivial⟩ (OW.fldAddr (FldOk.at f69_1) rfl) (er rfl trivial)
   ·intro vs25 o_ w_ hE hb0
    have hb0 := tBk hb0
    exact OW.q [(28, .pointer (some (pa0.add 1)))] ⟨rfl, trivial⟩ (OW.loadK (off := 1) Int (.int .i64 ((W (a0.At + 1)))) ty3 rfl hb0 rfl rfl) (er rfl trivial)
   ·intro vs25 o_ w_ hE 
    have hE := hE.1
    refine OW.r [(25, u0_0), (30, .int .i64 ((W (((W (a0.At + 1))) - 1))))] ⟨rfl, rfl, trivial⟩ (OW.indexAddr Try.underlying22 ty3 rfl (g0_0.baseM hE rfl) rfl q17) ?_
    rintro _ _ ⟨rfl, ⟨pa14, hv_, hp15, he16⟩⟩
    subst hv_
    exact ⟨_, Evo.refl _ _ _ _, rfl, hp15, he16, trivial⟩
   ·intro vs25 o_ w_ hE hp15
    have hp15 := tPt hp15
    exact OW.q [(31, .pointer (some (pOf (vs25 9))))] ⟨rfl, trivial⟩ (OW.loadI ty3 rfl hp15) (er rfl trivial)
   ·intro vs25 o_ w_ hE 
    refine OW.r [(32, .int .i64 y13), (33, .int .i64 a1)] ⟨rfl, rfl, trivial⟩ (OW.call Try.call56 rfl (dynposmake_Mod_ok q19)) ?_
    rintro _ w20 ⟨o24, hn_, rfl⟩
    obtain ⟨o21, ev22, hA23⟩ := adopt (o := o_) (ks := []) (Ks := []) 100 ([]) [100] hn_ MbOk.nil rfl rfl rfl rfl
    exact ⟨o21, ev22.sub rfl rfl, rfl, trivial⟩
   ·intro vs25 o27 w26 hE hb0 hp15 he16
    obtain ⟨hE, evT_⟩ := hE
    have hb0 : Bk o27 1 w26 pa0 [u0_0, .int .i64 ((W (a0.At + 1)))] := hb0
    have hp15 : PtrAt (In o27 [40]) w26 (pOf (vs25 9)) y13 := hp15
    have he16 : EPtr u0_0 1 ((W (((W (a0.At + 1))) - 1))) (pOf (vs25 9)) := he16
    refine hK12 _ _ ?_
    obtain rfl := Option.some.inj hF
    exact CW.rets (vs := [.int .i64 y18]) Try.results31 ⟨rfl, trivial⟩ ⟨_, rfl, _, (hE.rn he0 102 [] rfl rfl), rfl, (hb0.rn (c' := 1) rfl)⟩ (fun _ _ h => h)

end Go.Proofs.Ytdfkfohpgakihaa
