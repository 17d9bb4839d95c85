/- Walks. Written by a program (wip/gen). -/
import Derived.Test.YtdfkfohpgakihaaHw
set_option linter.unusedVariables false
set_option linter.unusedSimpArgs false
namespace Go.Proofs.Ytdfkfohpgakihaa
open Go Go.RowKit Dp

set_option maxRecDepth 100000

set_option maxHeartbeats 1000000 in
theorem slices_IndexFunc_Island_Island_ok {a0 : (List Island)} {f1 : (Island → Option Bool)} {r : Int} (hF : slices_IndexFunc_Island_Island a0 f1 = some r) {w0 : World} {p0 : Value} {S0 : Nat → Prop} (g0 : Rv S0 w0 p0 a0) {q1 : FuncId} {z1 : Array Value} (m1 : Fn1 Try.prog q1 z1 (fun w => Bts [] w0 w) f1) :
    Calls Try.prog 93 #[p0, .func (.func q1) #[] z1] w0 (Ret fun v w' => ∃ (oc : Cls), En w0 (entM w0 [] [S0]) oc w' ∧ v = .int .i64 r) := by
 obtain ⟨e0, he0⟩ : ∃ e0, e0 = entM w0 [] [S0] := ⟨_, rfl⟩
 have hE := En.refl w0 e0
 have g0 := g0.argM he0 0 (K := [40]) rfl (nosep rfl) rfl
 rw [slices_IndexFunc_Island_Island] at hF
 refine enter (l := [p0, .func (.func q1) #[] z1]) Try.func93 rfl Try.ntmps93 rfl ?_
 refine CW.sub (L' := [(0, p0), (1, .func (.func q1) #[] z1)]) ⟨rfl, rfl, trivial⟩ ?_
 refine CW.sr fun K1 hK1 => ?_
 refine WL.p (.int .i64 0) rfl rfl ?_
 refine WL.nx hK1 ?_
 refine CW.seq fun K2 hK2 => ?_
 refine CW.sr fun K3 hK3 => ?_
 refine WL.p p0 rfl rfl ?_
 refine WL.stepE (OW.len Try.underlying41 rfl (g0.baseM hE rfl)) rfl ?_
 refine WL.p (.int .i64 0) rfl rfl ?_
 refine WL.nx hK3 ?_
 refine CW.block ?_
 obtain ⟨r6, hl5, hF⟩ := bindE hF
 have hJ9 : ∀ (w7 : World) (o8 : Cls), .inl () = r6 → En w0 e0 o8 w7 → NK 19 K2 [] w7 := by
  intro  w7 o8  e_ hE
  subst e_
  have hF := elimL hF
  try dsimp only at hF
  refine hK2 _ _ ?_
  refine CW.sr fun K10 hK10 => ?_
  refine WL.p (.int .i64 (-1)) rfl rfl ?_
  refine WL.nx hK10 ?_
  obtain rfl := Option.some.inj hF
  exact CW.rets (vs := [.int .i64 (-1)]) Try.results93 ⟨rfl, trivial⟩ ⟨_, rfl, _, (hE.rn he0 100 [] rfl rfl), rfl⟩ (fun _ _ h => h)
 refine CW.sub (L' := [(0, p0), (1, .func (.func q1) #[] z1), (7, .int .i64 (len a0)), (8, .int .i64 0)]) ⟨rfl, rfl, rfl, rfl, trivial⟩ ?_
 refine CW.loop (slices_IndexFunc_Island_Island_L1 a0 f1) (fun s_ L_ w11 => ∃ (o12 : Cls) (x4 : Int), x4 = s_ ∧ L_ = [(0, p0), (1, .func (.func q1) #[] z1), (7, .int .i64 (len a0)), (8, .int .i64 x4)] ∧ En w0 e0 o12 w11) hl5 ?_ ?_
 ·exact ⟨e0, 0, rfl, rfl, hE⟩
 intro K13 s_ L_ w11 hi_ x14 hx15 hr16 hk17
 obtain ⟨o12, x4, rfl, rfl, hE⟩ := hi_
 rw [slices_IndexFunc_Island_Island_L1] at hx15
 refine CW.sr fun K18 hK18 => ?_
 refine WL.p (.bool ((decide (x4 < (len a0))))) rfl rfl ?_
 refine WL.nx hK18 ?_
 refine CW.seq fun K19 hK19 => ?_
 refine CW.cond (b := (decide (x4 < (len a0)))) rfl (fun hc20 => ?_) (fun hc20 => ?_)
 ·have hx15 := iteT hc20 hx15
  refine CW.skip ?_
  refine hK19 _ _ ?_
  refine CW.seq fun K21 hK21 => ?_
  refine CW.block ?_
  refine CW.sr fun K22 hK22 => ?_
  refine WL.p (.int .i64 x4) rfl rfl ?_
  refine WL.p (.int .i64 x4) rfl rfl ?_
  refine WL.nx hK22 ?_
  refine CW.sr fun K23 hK23 => ?_
  refine WL.p (.func (.func q1) #[] z1) rfl rfl ?_
  refine WL.p p0 rfl rfl ?_
  refine WL.p (.int .i64 x4) rfl rfl ?_
  obtain ⟨y24, q28, hx15⟩ := bindE hx15
  refine WL.stepP (OW.indexAddr Try.underlying41 ty44 rfl (g0.baseM hE rfl) rfl q28) rfl fun _ ⟨pa25, hv_, hp26, he27⟩ => ?_
  subst hv_
  refine WL.stepP (OW.load ty44 rfl hp26) rfl fun v29 h30 => ?_
  obtain ⟨u31, u32, u33, rfl, h34, h35, h36⟩ := op44 h30
  obtain ⟨y37, q38, hx15⟩ := bindE hx15
  refine WL.step (OW.callV m1.1 rfl rfl (m1.2 _ (hE.bts he0 rfl) _ _ q38 _ _ (mk44 (x := y24) h34 h35 h36))) rfl ?_
  rintro v45 w39 ⟨hb43, h44⟩
  obtain rfl := rv_bool.1 h44
  obtain ⟨o40, ev41, hn42⟩ := fresh_new (o := o12) 100 hb43
  have hE := hE.evo ev41 rfl rfl
  have h34 := h34.evo ev41 rfl
  have h35 := h35.evo ev41 rfl
  have h36 := h36.evo ev41 rfl
  refine WL.nx hK23 ?_
  refine CW.cond (b := y37) rfl (fun hc46 => ?_) (fun hc46 => ?_)
  ·have hx15 := iteT hc46 hx15
   refine CW.sr fun K47 hK47 => ?_
   refine WL.p (.int .i64 x4) rfl rfl ?_
   refine WL.p (.int .i64 x4) rfl rfl ?_
   refine WL.nx hK47 ?_
   have e_ := hr16 _ (Option.some.inj hx15).symm
   subst e_
   have hF := elimR hF
   obtain rfl := Option.some.inj hF
   exact CW.rets (vs := [.int .i64 x4]) Try.results93 ⟨rfl, trivial⟩ ⟨_, rfl, _, (hE.rn he0 100 [] rfl rfl), rfl⟩ (fun _ _ h => h)
  ·have hx15 := iteF hc46 hx15
   refine CW.skip ?_
   refine hK21 _ _ ?_
   refine CW.region ?_
   refine WL.p (.int .i64 ((W (x4 + 1)))) rfl rfl ?_
   refine WL.p (.int .i64 ((W (x4 + 1)))) rfl rfl ?_
   refine WL.nil ?_
   exact NK.sb (hk17 _ _ _ (Option.some.inj hx15).symm ⟨o40, (W (x4 + 1)), rfl, rfl, hE⟩) ⟨rfl, rfl, rfl, rfl, trivial⟩
 ·have hx15 := iteF hc20 hx15
  refine CW.exit ?_
  exact NK.sb (hJ9 w11 o12 (hr16 _ (Option.some.inj hx15).symm) hE) trivial

set_option maxHeartbeats 1000000 in
theorem slices_DeleteFunc_Island_Island_ok {a0 : (List Island)} {f1 : (Island → Option Bool)} {r : (List Island)} (hF : slices_DeleteFunc_Island_Island a0 f1 = some r) {w0 : World} {d0_0 : Nat} {p0 : Value} {S0 : Nat → Prop} (g0 : OwG 44 d0_0 S0 w0 p0 a0) (n0 : ∀ b, b < w0.heap.size → S0 b → b ∉ [d0_0]) {q1 : FuncId} {z1 : Array Value} (m1 : Fn1 Try.prog q1 z1 (fun w => Bts [d0_0] w0 w) f1) (hmb : [d0_0].Nodup) :
    Calls Try.prog 72 #[p0, .func (.func q1) #[] z1] w0 (Ret fun v w' => ∃ (oc : Cls), En w0 (entM w0 [d0_0] [S0]) oc w' ∧ Ow 44 oc 1 [40] w' v r) := by
 obtain ⟨e0, he0⟩ : ∃ e0, e0 = entM w0 [d0_0] [S0] := ⟨_, rfl⟩
 have hE := En.refl w0 e0
 have g0 := g0.inM he0 hmb 0 rfl 0 (K := [40]) rfl n0 rfl
 rw [slices_DeleteFunc_Island_Island] at hF
 refine enter (l := [p0, .func (.func q1) #[] z1]) Try.func72 rfl Try.ntmps72 rfl ?_
 refine CW.sub (L' := [(0, p0), (1, .func (.func q1) #[] z1)]) ⟨rfl, rfl, trivial⟩ ?_
 refine CW.sr fun K1 hK1 => ?_
 have h2 := Ow.nil (α := Island) 44 e0 100 [] w0
 refine WL.p (.slice none 0 0) rfl rfl ?_
 refine WL.nx hK1 ?_
 refine CW.sr fun K3 hK3 => ?_
 refine WL.p p0 rfl rfl ?_
 refine WL.p (.func (.func q1) #[] z1) rfl rfl ?_
 obtain ⟨y4, q5, hF⟩ := bindE hF
 refine WL.step (OW.call Try.call93 rfl (slices_IndexFunc_Island_Island_ok q5 g0.rv (m1.mono fun _ h_ => hE.on he0 rfl MbOk.nil rfl h_))) rfl ?_
 rintro _ w6 ⟨o10, hn_, rfl⟩
 obtain ⟨o7, ev8, hA9⟩ := adopt (o := e0) (ks := []) (Ks := [[1, 40]]) 101 ([]) [101] hn_ MbOk.nil rfl rfl rfl rfl
 have hE := hE.evo ev8 rfl rfl
 have g0 := g0.evo ev8 rfl
 refine WL.p (.int .i64 y4) rfl rfl ?_
 refine WL.nx hK3 ?_
 refine CW.seq fun K11 hK11 => ?_
 refine CW.sr fun K12 hK12 => ?_
 refine WL.p (.int .i64 y4) rfl rfl ?_
 refine WL.p (.bool (((y4 == (-1))))) rfl rfl ?_
 refine WL.nx hK12 ?_
 refine CW.cond (b := ((y4 == (-1)))) rfl (fun hc13 => ?_) (fun hc13 => ?_)
 ·have hF := iteT hc13 hF
  refine CW.sr fun K14 hK14 => ?_
  refine WL.p p0 rfl rfl ?_
  refine WL.p p0 rfl rfl ?_
  refine WL.nx hK14 ?_
  obtain rfl := Option.some.inj hF
  exact CW.rets (vs := [p0]) Try.results72 ⟨rfl, trivial⟩ ⟨_, rfl, _, (hE.rn he0 101 [] rfl rfl), (g0.rn (c' := 1) (K' := [40]) rfl rfl)⟩ (fun _ _ h => h)
 ·have hF := iteF hc13 hF
  refine CW.skip ?_
  refine hK11 _ _ ?_
  refine CW.seq fun K15 hK15 => ?_
  refine CW.sr fun K16 hK16 => ?_
  refine WL.p (.int .i64 y4) rfl rfl ?_
  refine WL.p (.int .i64 ((W (y4 + 1)))) rfl rfl ?_
  refine WL.p (.int .i64 ((W (y4 + 1)))) rfl rfl ?_
  refine WL.nx hK16 ?_
  refine CW.block ?_
  obtain ⟨r27, hl26, hF⟩ := bindE hF
  have hJ30 : ∀ (x22 : (List Island)) (x25 : Int) (w28 : World) (o29 : Cls), (x22, x25) = r27 → En w0 e0 o29 w28 → Ow 44 o29 1 [40] w28 p0 x22 → NK 42 K15 [(0, p0), (5, .int .i64 x25)] w28 := by
   intro x22 x25 w28 o29  e_ hE h24
   subst e_
   try dsimp only at hF
   refine hK15 _ _ ?_
   refine CW.sr fun K31 hK31 => ?_
   refine WL.p p0 rfl rfl ?_
   refine WL.p (.int .i64 x25) rfl rfl ?_
   obtain ⟨y32, q35, hF⟩ := bindE hF
   refine WL.stepP (OW.sliceTail Try.underlying41 ty44 rfl h24 rfl q35) rfl fun v33 ⟨h34, hx36⟩ => ?_
   refine WL.step0 (OW.clearTail Try.underlying41 ty44 rfl h24 hx36 rfl) ?_
   rintro _ w37 ⟨ev38, h39⟩
   have hE := hE.evo ev38 rfl rfl
   refine WL.nx hK31 ?_
   refine CW.sr fun K40 hK40 => ?_
   refine WL.p p0 rfl rfl ?_
   refine WL.p (.int .i64 x25) rfl rfl ?_
   obtain ⟨y41, q44, hF⟩ := bindE hF
   refine WL.stepP (OW.slicePre Try.underlying41 ty44 rfl h39 (.inr ⟨_, rfl, rfl⟩) q44) rfl fun v42 ⟨h43, hx45, _⟩ => ?_
   refine WL.p v42 rfl rfl ?_
   refine WL.nx hK40 ?_
   have h46 := Ow.preS h39 hx45 q44
   obtain rfl := Option.some.inj hF
   exact CW.rets (vs := [v42]) Try.results72 ⟨rfl, trivial⟩ ⟨_, rfl, _, (hE.rn he0 101 [] rfl rfl), (h46.rn (c' := 1) (K' := [40]) rfl rfl)⟩ (fun _ _ h => h)
  refine CW.sub (L' := [(0, p0), (1, .func (.func q1) #[] z1), (5, .int .i64 y4), (6, .int .i64 ((W (y4 + 1))))]) ⟨rfl, rfl, rfl, rfl, trivial⟩ ?_
  refine CW.loop (slices_DeleteFunc_Island_Island_L1 f1) (fun s_ L_ w47 => ∃ (o48 : Cls) (x17 : (List Island)) (x20 : Int) (x21 : Int), (x17, x20, x21) = s_ ∧ L_ = [(0, p0), (1, .func (.func q1) #[] z1), (5, .int .i64 x20), (6, .int .i64 x21)] ∧ En w0 e0 o48 w47 ∧ Ow 44 o48 1 [40] w47 p0 x17) hl26 ?_ ?_
  ·exact ⟨o7, a0, y4, (W (y4 + 1)), rfl, rfl, hE, g0⟩
  intro K49 s_ L_ w47 hi_ x50 hx51 hr52 hk53
  obtain ⟨o48, x17, x20, x21, rfl, rfl, hE, h19⟩ := hi_
  rw [slices_DeleteFunc_Island_Island_L1] at hx51
  refine CW.seq fun K54 hK54 => ?_
  refine CW.sr fun K55 hK55 => ?_
  refine WL.p (.int .i64 x21) rfl rfl ?_
  refine WL.p p0 rfl rfl ?_
  refine WL.stepE (OW.len Try.underlying41 rfl h19.rv) rfl ?_
  refine WL.p (.bool ((decide (x21 < (len x17))))) rfl rfl ?_
  refine WL.nx hK55 ?_
  refine CW.cond (b := (decide (x21 < (len x17)))) rfl (fun hc56 => ?_) (fun hc56 => ?_)
  ·have hx51 := iteT hc56 hx51
   refine CW.skip ?_
   refine hK54 _ _ ?_
   refine CW.seq fun K57 hK57 => ?_
   refine CW.block ?_
   refine CW.sr fun K58 hK58 => ?_
   refine WL.p p0 rfl rfl ?_
   refine WL.p (.int .i64 x21) rfl rfl ?_
   obtain ⟨y59, q63, hx51⟩ := bindE hx51
   refine WL.stepP (OW.indexAddrO Try.underlying41 ty44 rfl h19 rfl q63) rfl fun _ ⟨pa60, hv_, hp61, he62⟩ => ?_
   subst hv_
   refine WL.stepP (OW.loadO ty44 rfl hp61) rfl fun v64 h65 => ?_
   obtain ⟨u66, u67, u68, rfl, h69, h70, h71⟩ := op44 h65
   refine WL.step (OW.allocK (o := o48) Island 102 [.slice none 0 0, .slice none 0 0, .slice none 0 0] ty44 rfl) rfl ?_
   rintro _ w74 ⟨pa72, o73, rfl, ev75, hb76⟩
   have hE := hE.evo ev75 rfl rfl
   have h19 := h19.evo ev75 rfl
   have h69 := h69.evo ev75 rfl
   have h70 := h70.evo ev75 rfl
   have h71 := h71.evo ev75 rfl
   have h77 := Ow.nil (α := Int) 3 o73 103 [] w74
   have h78 := Ow.nil (α := Int) 3 o73 104 [] w74
   have h79 := Ow.nil (α := Int) 3 o73 105 [] w74
   refine WL.step0 (OW.storeK0 Island [u66, u67, u68] [u66, u67, u68] ty44 rfl rfl hb76 rfl ⟨(h69.one rfl), (h70.one rfl), (h71.one rfl), trivial⟩ rfl rfl rfl) ?_
   rintro _ w80 ⟨ev81, hb76⟩
   have hE := hE.evo ev81 rfl rfl
   have h19 := h19.evo ev81 rfl
   have h69 := h69.evo ev81 rfl
   have h70 := h70.evo ev81 rfl
   have h71 := h71.evo ev81 rfl
   refine WL.nx hK58 ?_
   refine CW.sr fun K82 hK82 => ?_
   refine WL.p (.func (.func q1) #[] z1) rfl rfl ?_
   refine WL.stepE (OW.loadK0 Island (.agg #[u66, u67, u68]) ty44 rfl hb76 rfl rfl) rfl ?_
   obtain ⟨y83, q84, hx51⟩ := bindE hx51
   refine WL.step (OW.callV m1.1 rfl rfl (m1.2 _ (hE.bts he0 rfl) _ _ q84 _ _ (mk44 (x := y59) h69 h70 h71))) rfl ?_
   rintro v91 w85 ⟨hb89, h90⟩
   obtain rfl := rv_bool.1 h90
   obtain ⟨o86, ev87, hn88⟩ := fresh_new (o := o73) 106 hb89
   have hE := hE.evo ev87 rfl rfl
   have h19 := h19.evo ev87 rfl
   have h69 := h69.evo ev87 rfl
   have h70 := h70.evo ev87 rfl
   have h71 := h71.evo ev87 rfl
   have hb76 := hb76.evo ev87 rfl
   refine WL.p (.bool (!y83)) rfl rfl ?_
   refine WL.nx hK82 ?_
   obtain ⟨z_, q96, hx51⟩ := bindE hx51
   obtain ⟨x92, x95⟩ := z_
   try dsimp only at hx51
   have hJ99 : ∀ (w97 : World) (o98 : Cls), En w0 e0 o98 w97 → Ow 44 o98 1 [40] w97 p0 x92 → NK 42 K57 [(0, p0), (1, .func (.func q1) #[] z1), (5, .int .i64 x95), (6, .int .i64 x21)] w97 := by
    intro w97 o98  hE h94
    refine hK57 _ _ ?_
    refine CW.region ?_
    refine WL.p (.int .i64 x21) rfl rfl ?_
    refine WL.p (.int .i64 ((W (x21 + 1)))) rfl rfl ?_
    refine WL.p (.int .i64 ((W (x21 + 1)))) rfl rfl ?_
    refine WL.nil ?_
    exact NK.sb (hk53 _ _ _ (Option.some.inj hx51).symm ⟨o98, x92, x95, (W (x21 + 1)), rfl, rfl, hE, h94⟩) ⟨rfl, rfl, rfl, rfl, trivial⟩
   refine CW.cond (b := (!y83)) rfl (fun hc100 => ?_) (fun hc100 => ?_)
   ·have q96 := iteT hc100 q96
    refine CW.sr fun K101 hK101 => ?_
    refine WL.p p0 rfl rfl ?_
    refine WL.p (.int .i64 x20) rfl rfl ?_
    refine WL.stepE (OW.loadK0 Island (.agg #[u66, u67, u68]) ty44 rfl hb76 rfl rfl) rfl ?_
    obtain ⟨y102, q106, q96⟩ := bindE q96
    refine WL.stepP (OW.indexAddrO Try.underlying41 ty44 rfl h19 rfl q106) rfl fun _ ⟨pa103, hv_, hp104, he105⟩ => ?_
    subst hv_
    obtain ⟨y107, q110, q96⟩ := bindE q96
    refine WL.step0 (OW.storeElem ty44 rfl he105 h19 rfl ((mk44 (x := y59) h69 h70 h71).sub rfl) q110 rfl) ?_
    rintro _ w108 ⟨ev109, h111⟩
    have hE := hE.evo ev109 rfl rfl
    have h69 := h69.evo ev109 rfl
    have h70 := h70.evo ev109 rfl
    have h71 := h71.evo ev109 rfl
    refine WL.nx hK101 ?_
    refine CW.region ?_
    refine WL.p (.int .i64 x20) rfl rfl ?_
    refine WL.p (.int .i64 ((W (x20 + 1)))) rfl rfl ?_
    refine WL.p (.int .i64 ((W (x20 + 1)))) rfl rfl ?_
    refine WL.nil ?_
    have e112 := Option.some.inj q96
    obtain ⟨e113, e114⟩ := Prod.mk.inj e112
    subst e113 e114
    exact NK.sb (hJ99 w108 o86 hE h111) ⟨rfl, rfl, rfl, rfl, trivial⟩
   ·have q96 := iteF hc100 q96
    refine CW.skip ?_
    have e115 := Option.some.inj q96
    obtain ⟨e116, e117⟩ := Prod.mk.inj e115
    subst e116 e117
    exact NK.sb (hJ99 w85 o86 hE h19) ⟨rfl, rfl, rfl, rfl, trivial⟩
  ·have hx51 := iteF hc56 hx51
   refine CW.exit ?_
   exact NK.sb (hJ30 x17 x20 w47 o48 (hr52 _ (Option.some.inj hx51).symm) hE h19) ⟨rfl, rfl, trivial⟩

set_option maxHeartbeats 1000000 in
theorem board_Islands_1_ok {a0 : Island} {r : Bool} (hF : board_Islands_1 a0 = some r) {w0 : World} {p0 : Value} {S0 : Nat → Prop} (g0 : Rv S0 w0 p0 a0) :
    Calls Try.prog 73 #[p0] w0 (Ret fun v w' => ∃ (oc : Cls), En w0 (entM w0 [] [S0]) oc w' ∧ v = .bool r) := by
 obtain ⟨e0, he0⟩ : ∃ e0, e0 = entM w0 [] [S0] := ⟨_, rfl⟩
 have hE := En.refl w0 e0
 have g0 := g0.argM he0 0 (K := [40]) rfl (nosep rfl) rfl
 obtain ⟨u1, u2, u3, rfl, h4, h5, h6⟩ := op44 g0
 rw [board_Islands_1] at hF
 refine enter (l := [.agg #[u1, u2, u3]]) Try.func73 rfl Try.ntmps73 rfl ?_
 refine CW.sub (L' := [(0, .agg #[u1, u2, u3])]) ⟨rfl, trivial⟩ ?_
 refine CW.sr fun K7 hK7 => ?_
 refine WL.step (OW.boxK (o := e0) 100 [u1, u2, u3] rfl rfl) rfl ?_
 rintro _ w10 ⟨pa8, o9, rfl, ev11, hb12⟩
 have hE := hE.evo ev11 rfl rfl
 refine WL.p (.bool false) rfl rfl ?_
 refine WL.nx hK7 ?_
 refine CW.sr fun K13 hK13 => ?_
 refine WL.stepE (OW.fldAddr (FldOk.at f44_0) rfl) rfl ?_
 refine WL.stepE (OW.loadK (off := 0) (List Int) (u1) ty22 rfl hb12 rfl rfl) rfl ?_
 refine WL.stepE (OW.len Try.underlying22 rfl (h4.baseM hE rfl)) rfl ?_
 refine WL.p (.bool ((((len a0.Buses) == 0)))) rfl rfl ?_
 refine WL.p (.bool ((((len a0.Buses) == 0)))) rfl rfl ?_
 refine WL.nx hK13 ?_
 obtain rfl := Option.some.inj hF
 exact CW.rets (vs := [.bool ((((len a0.Buses) == 0)))]) Try.results73 ⟨rfl, trivial⟩ ⟨_, rfl, _, (hE.rn he0 100 [] rfl rfl), rfl⟩ (fun _ _ h => h)

end Go.Proofs.Ytdfkfohpgakihaa
