/- Walks. Written by a program (wip/gen). -/
import Derived.Test.YtnpghnnlcakbfaaHw
import Derived.Test.YtnpghnnlcakbfaaWk10
import Derived.Test.YtnpghnnlcakbfaaWk13
import Derived.Test.YtnpghnnlcakbfaaWk14
set_option linter.unusedVariables false
set_option linter.unusedSimpArgs false
namespace Go.Proofs.Ytnpghnnlcakbfaa
open Go Go.RowKit Dp

set_option maxRecDepth 100000

set_option maxHeartbeats 16000000 in
theorem dynposlaw15_sane_ok {r : Bool} (hF : dynposlaw15_sane  = some r) {w0 : World}  :
    Calls Try.prog 20 #[] w0 (Ret fun v w' => ∃ (oc : Cls), En w0 (entM w0 [] []) oc w' ∧ v = .bool r) := by
 obtain ⟨e0, he0⟩ : ∃ e0, e0 = entM w0 [] [] := ⟨_, rfl⟩
 have hE := En.refl w0 e0
 rw [dynposlaw15_sane] at hF
 refine enter (l := []) Try.func20 rfl Try.ntmps20 rfl ?_
 refine CW.sr fun K1 hK1 => ?_
 refine WL.p (.bool false) rfl rfl ?_
 refine WL.nx hK1 ?_
 refine CW.sr fun K2 hK2 => ?_
 refine WL.step (OW.buildSlice (o := e0) (k := 100) (K := []) (xs := ([false, true, true, true] : List Bool)) Try.underlying41 ty4 rfl ⟨(rv_bool.2 rfl), (rv_bool.2 rfl), (rv_bool.2 rfl), (rv_bool.2 rfl), trivial⟩ rfl rfl) rfl ?_
 rintro v3 w4 ⟨o5, ev6, h7⟩
 have hE := hE.evo ev6 rfl rfl
 refine WL.stepE (OW.buildK Running [(0, [.int .i64 2]), (2, [.int .i64 5000])] [.int .i64 2, .int .i64 0, .int .i64 5000, .int .i64 0] st64 ty64 rfl ⟨rfl, rfl, rfl, rfl, trivial⟩ rfl) rfl ?_
 refine WL.stepE (OW.buildK Running [(0, [.int .i64 2]), (2, [.int .i64 5000])] [.int .i64 2, .int .i64 0, .int .i64 5000, .int .i64 0] st64 ty64 rfl ⟨rfl, rfl, rfl, rfl, trivial⟩ rfl) rfl ?_
 refine WL.step (OW.buildSlice (o := o5) (k := 101) (K := []) (xs := ([(⟨2, 0, 5000, 0⟩ : Running), (⟨2, 0, 5000, 0⟩ : Running)] : List Running)) Try.underlying42 ty64 rfl ⟨(mk64 (x := (⟨2, 0, 5000, 0⟩ : Running))), (mk64 (x := (⟨2, 0, 5000, 0⟩ : Running))), trivial⟩ rfl rfl) rfl ?_
 rintro v8 w9 ⟨o10, ev11, h12⟩
 have hE := hE.evo ev11 rfl rfl
 have h7 := h7.evo ev11 rfl
 refine WL.step (OW.buildSlice (o := o10) (k := 102) (K := []) (xs := ([60] : List Int)) Try.underlying22 ty3 rfl ⟨(rv_int.2 rfl), trivial⟩ rfl rfl) rfl ?_
 rintro v13 w14 ⟨o15, ev16, h17⟩
 have hE := hE.evo ev16 rfl rfl
 have h12 := h12.evo ev16 rfl
 have h7 := h7.evo ev16 rfl
 refine WL.stepE (OW.buildK Power [(0, [v3]), (1, [v8]), (2, [v13])] [v3, v8, v13, .slice none 0 0] st45 ty45 rfl ⟨rfl, (cells_one (h7.one)), rfl, (cells_one (h12.one)), rfl, (cells_one (h17.one)), trivial⟩ rfl) rfl ?_
 have h18 := Ow.nil (α := Part) 66 o15 103 [] w14
 refine WL.step (OW.allocK (o := o15) Power 104 [.slice none 0 0, .slice none 0 0, .slice none 0 0, .slice none 0 0] ty45 rfl) rfl ?_
 rintro _ w21 ⟨pa19, o20, rfl, ev22, hb23⟩
 have hE := hE.evo ev22 rfl rfl
 have h12 := h12.evo ev22 rfl
 have h17 := h17.evo ev22 rfl
 have h18 := h18.evo ev22 rfl
 have h7 := h7.evo ev22 rfl
 have h24 := Ow.nil (α := Bool) 4 o20 105 [] w21
 have h25 := Ow.nil (α := Running) 64 o20 106 [] w21
 have h26 := Ow.nil (α := Int) 3 o20 107 [] w21
 have h27 := Ow.nil (α := Part) 66 o20 108 [] w21
 refine WL.step0 (OW.storeK0 Power [v3, v8, v13, (.slice none 0 0)] [v3, v8, v13, (.slice none 0 0)] ty45 rfl rfl hb23 rfl ⟨(h7.one), (h12.one), (h17.one), rfl, trivial⟩ rfl rfl rfl) ?_
 rintro _ w28 ⟨ev29, hb23⟩
 have hE := hE.evo ev29 rfl rfl
 have h12 := h12.evo ev29 rfl
 have h17 := h17.evo ev29 rfl
 have h18 := h18.evo ev29 rfl
 have h7 := h7.evo ev29 rfl
 refine WL.nx hK2 ?_
 refine CW.seq fun K30 hK30 => ?_
 obtain ⟨y31, q32, hF⟩ := bindE hF
 obtain ⟨y44, q45, hF⟩ := bindE hF
 have ev_ := Evo.drew o20 w28
 refine CW.anyS (N := [109, 110, 111, 112, 113, 114]) hmix [sOw none none [] 64 101 [] (vk v8) (([(⟨2, 0, 5000, 0⟩ : Running), (⟨2, 0, 5000, 0⟩ : Running)] : List Running)), sOw none none [] 3 102 [] (vk v13) ([60] : List Int), sOw none none [] 66 103 [] (vk (.slice none 0 0)) ([] : List Part), sOw none none [] 4 100 [] (vk v3) ([false, true, true, true] : List Bool), sBk none none [] 104 (vk pa19) (vk ([v3, v8, v13, (.slice none 0 0)])), sOw (some 0) none [0] 48 110 [] (fun x_ => (cOf 1 (x_.getD 0 undef))) y31.Breakers, sOw (some 0) none [0] 83 111 [] (fun x_ => (cOf 2 (x_.getD 0 undef))) y31.Sources, sOw (some 0) none [0] 85 112 [109] (fun x_ => (cOf 3 (x_.getD 0 undef))) y31.Consumers, sOw (some 2) none [2] 53 114 [113] (vn 0) y44] [⟨[], [], [], [0], fun x_ => .agg #[.int .i64 y31.Buses, (cOf 1 (x_.getD 0 undef)), (cOf 2 (x_.getD 0 undef)), (cOf 3 (x_.getD 0 undef)), .int .i64 y31.Phase, .int .i64 y31.Frequency], false⟩, ⟨[], [4], [], [], vk (.agg #[v3, v8, v13, (.slice none 0 0)]), false⟩, ⟨[], [0, 1, 2, 3, 5, 6, 7], [0, 1], [2], vn 0, false⟩, ⟨[], [], [0, 1, 2], [2], vn 0, false⟩] [] hE rfl (by kernel_rfl) (by kernel_rfl) ⟨h12.evo ev_ rfl, h17.evo ev_ rfl, h18.evo ev_ rfl, h7.evo ev_ rfl, hb23.evo ev_ rfl, trivial⟩ ⟨?_, ?_, ?_, Ob.pv rfl rfl (fun _ => rfl) rfl (fun _ _ _ => trivial), trivial⟩ ?_
 ·intro vs53 o_ w_ hE 
  refine OW.r [] trivial (OW.call Try.call56 rfl (dynposlaw15_two_ok q32)) ?_
  rintro _ w33 ⟨o37, u39, u41, u43, hn_, rfl, h38, h40, h42⟩
  obtain ⟨o34, ev35, hA36⟩ := adopt (o := o_) (ks := []) (Ks := []) 109 ([(101, 110), (102, 111), (103, 112)]) [109, 110, 111, 112] hn_ MbOk.nil rfl rfl rfl rfl
  have h38 := h38.ad (c' := 110) (K' := []) hA36 rfl rfl
  have h40 := h40.ad (c' := 111) (K' := []) hA36 rfl rfl
  have h42 := h42.ad (c' := 112) (K' := [109]) hA36 rfl rfl
  exact ⟨o34, ev35.sub rfl rfl, rfl, h38, h40, h42, trivial⟩
 ·intro vs53 o_ w_ hE hb23
  have hb23 := tBk hb23
  exact OW.q [(1, .pointer (some pa19))] ⟨rfl, trivial⟩ (OW.loadK0 Power (.agg #[v3, v8, v13, (.slice none 0 0)]) ty45 rfl hb23 rfl rfl) (er rfl trivial)
 ·intro vs53 o_ w_ hE h12 h17 h18 h7 h38 h40 h42
  have h12 := tOw h12
  have h17 := tOw h17
  have h18 := tOw h18
  have h7 := tOw h7
  have h38 := tOw h38
  have h40 := tOw h40
  have h42 := tOw h42
  refine OW.r [(11, .agg #[.int .i64 y31.Buses, (cOf 1 (vs53 0)), (cOf 2 (vs53 0)), (cOf 3 (vs53 0)), .int .i64 y31.Phase, .int .i64 y31.Frequency]), (12, .agg #[v3, v8, v13, (.slice none 0 0)])] ⟨rfl, rfl, trivial⟩ (OW.call Try.call19 rfl (board_Islands_ok q45 (mk39 (x := y31) (h38.rv.sub (K' := [109, 110, 111, 112]) rfl) (h40.rv.sub (K' := [109, 110, 111, 112]) rfl) (h42.rv.sub (K' := [109, 110, 111, 112]) rfl)) (mk45 (x := (⟨([false, true, true, true] : List Bool), ([(⟨2, 0, 5000, 0⟩ : Running), (⟨2, 0, 5000, 0⟩ : Running)] : List Running), ([60] : List Int), ([] : List Part)⟩ : Power)) (h7.rv.sub (K' := [100, 101, 102, 103]) rfl) (h12.rv.sub (K' := [100, 101, 102, 103]) rfl) (h17.rv.sub (K' := [100, 101, 102, 103]) rfl) (h18.rv.sub (K' := [100, 101, 102, 103]) rfl)))) ?_
  rintro v52 w46 ⟨o50, hn_, h51⟩
  obtain ⟨o47, ev48, hA49⟩ := adopt (o := o_) (ks := []) (Ks := [[109, 110, 111, 112], [100, 101, 102, 103]]) 113 ([(100, 114)]) [113, 114] hn_ MbOk.nil rfl rfl rfl rfl
  have h51 := h51.ad (c' := 114) (K' := [113]) hA49 rfl rfl
  exact ⟨o47, ev48.sub rfl rfl, rfl, h51, trivial⟩
 ·intro vs53 o55 w54 hE h12 h17 h18 h7 hb23 h38 h40 h42 h51
  obtain ⟨hE, evT_⟩ := hE
  have h12 : Ow 64 o55 101 [] w54 v8 (([(⟨2, 0, 5000, 0⟩ : Running), (⟨2, 0, 5000, 0⟩ : Running)] : List Running)) := h12
  have h17 : Ow 3 o55 102 [] w54 v13 ([60] : List Int) := h17
  have h18 : Ow 66 o55 103 [] w54 (.slice none 0 0) ([] : List Part) := h18
  have h7 : Ow 4 o55 100 [] w54 v3 ([false, true, true, true] : List Bool) := h7
  have hb23 : Bk o55 104 w54 pa19 [v3, v8, v13, (.slice none 0 0)] := hb23
  have h38 : Ow 48 o55 110 [] w54 (cOf 1 (vs53 0)) y31.Breakers := h38
  have h40 : Ow 83 o55 111 [] w54 (cOf 2 (vs53 0)) y31.Sources := h40
  have h42 : Ow 85 o55 112 [109] w54 (cOf 3 (vs53 0)) y31.Consumers := h42
  have h51 : Ow 53 o55 114 [113] w54 (vs53 2) y44 := h51
  refine hK30 _ _ ?_
  refine CW.seq fun K56 hK56 => ?_
  obtain ⟨y57, q58, hF⟩ := bindE hF
  obtain ⟨⟨y70, y71⟩, q72, hF⟩ := bindE hF
  dsimp only at hF
  have ev_ := Evo.drew o55 w54
  refine CW.anyS (N := [115, 116, 117, 118, 119]) hmix [sOw none none [] 64 101 [] (vk v8) (([(⟨2, 0, 5000, 0⟩ : Running), (⟨2, 0, 5000, 0⟩ : Running)] : List Running)), sOw none none [] 3 102 [] (vk v13) ([60] : List Int), sOw none none [] 66 103 [] (vk (.slice none 0 0)) ([] : List Part), sOw none none [] 4 100 [] (vk v3) ([false, true, true, true] : List Bool), sBk none none [] 104 (vk pa19) (vk ([v3, v8, v13, (.slice none 0 0)])), sOw (some 0) none [0] 48 116 [] (fun x_ => (cOf 1 (x_.getD 0 undef))) y57.Breakers, sOw (some 0) none [0] 83 117 [] (fun x_ => (cOf 2 (x_.getD 0 undef))) y57.Sources, sOw (some 0) none [0] 85 118 [115] (fun x_ => (cOf 3 (x_.getD 0 undef))) y57.Consumers] [⟨[], [], [], [0], fun x_ => .agg #[.int .i64 y57.Buses, (cOf 1 (x_.getD 0 undef)), (cOf 2 (x_.getD 0 undef)), (cOf 3 (x_.getD 0 undef)), .int .i64 y57.Phase, .int .i64 y57.Frequency], false⟩, ⟨[], [4], [], [], vk (.agg #[v3, v8, v13, (.slice none 0 0)]), false⟩, ⟨[], [0, 1, 2, 3, 5, 6, 7], [0, 1], [], vk (.tuple #[.int .i64 y70, .bool y71]), false⟩, ⟨[], [], [0, 1, 2], [], vk (.tuple #[.int .i64 y70, .bool y71]), false⟩, ⟨[], [], rg 0 4, [], vk (.int .i64 y70), false⟩, ⟨[], [], rg 0 4, [], vk (.bool y71), false⟩, ⟨[], [], rg 0 5, [], vk (.int .i64 y70), false⟩, ⟨[], [], rg 0 7, [], vk (.bool y71), false⟩] [] hE rfl (by kernel_rfl) (by kernel_rfl) ⟨h12.evo ev_ rfl, h17.evo ev_ rfl, h18.evo ev_ rfl, h7.evo ev_ rfl, hb23.evo ev_ rfl, trivial⟩ ⟨?_, ?_, ?_, Ob.pv rfl rfl (fun _ => rfl) rfl (fun _ _ _ => trivial), Ob.pv rfl rfl (fun _ => rfl) rfl (fun _ _ _ => trivial), Ob.pv rfl rfl (fun _ => rfl) rfl (fun _ _ _ => trivial), Ob.pv rfl rfl (fun _ => rfl) rfl (fun _ _ _ => trivial), Ob.pv rfl rfl (fun _ => rfl) rfl (fun _ _ _ => trivial), trivial⟩ ?_
  ·intro vs78 o_ w_ hE 
   refine OW.r [] trivial (OW.call Try.call56 rfl (dynposlaw15_two_ok q58)) ?_
   rintro _ w59 ⟨o63, u65, u67, u69, hn_, rfl, h64, h66, h68⟩
   obtain ⟨o60, ev61, hA62⟩ := adopt (o := o_) (ks := []) (Ks := []) 115 ([(101, 116), (102, 117), (103, 118)]) [115, 116, 117, 118] hn_ MbOk.nil rfl rfl rfl rfl
   have h64 := h64.ad (c' := 116) (K' := []) hA62 rfl rfl
   have h66 := h66.ad (c' := 117) (K' := []) hA62 rfl rfl
   have h68 := h68.ad (c' := 118) (K' := [115]) hA62 rfl rfl
   exact ⟨o60, ev61.sub rfl rfl, rfl, h64, h66, h68, trivial⟩
  ·intro vs78 o_ w_ hE hb23
   have hb23 := tBk hb23
   exact OW.q [(1, .pointer (some pa19))] ⟨rfl, trivial⟩ (OW.loadK0 Power (.agg #[v3, v8, v13, (.slice none 0 0)]) ty45 rfl hb23 rfl rfl) (er rfl trivial)
  ·intro vs78 o_ w_ hE h12 h17 h18 h7 h64 h66 h68
   have h12 := tOw h12
   have h17 := tOw h17
   have h18 := tOw h18
   have h7 := tOw h7
   have h64 := tOw h64
   have h66 := tOw h66
   have h68 := tOw h68
   refine OW.r [(15, .agg #[.int .i64 y57.Buses, (cOf 1 (vs78 0)), (cOf 2 (vs78 0)), (cOf 3 (vs78 0)), .int .i64 y57.Phase, .int .i64 y57.Frequency]), (16, .agg #[v3, v8, v13, (.slice none 0 0)])] ⟨rfl, rfl, trivial⟩ (OW.call Try.call26 rfl (board_Fed_ok q72 (mk39 (x := y57) (h64.rv.sub (K' := [115, 116, 117, 118]) rfl) (h66.rv.sub (K' := [115, 116, 117, 118]) rfl) (h68.rv.sub (K' := [115, 116, 117, 118]) rfl)) (mk45 (x := (⟨([false, true, true, true] : List Bool), ([(⟨2, 0, 5000, 0⟩ : Running), (⟨2, 0, 5000, 0⟩ : Running)] : List Running), ([60] : List Int), ([] : List Part)⟩ : Power)) (h7.rv.sub (K' := [100, 101, 102, 103]) rfl) (h12.rv.sub (K' := [100, 101, 102, 103]) rfl) (h17.rv.sub (K' := [100, 101, 102, 103]) rfl) (h18.rv.sub (K' := [100, 101, 102, 103]) rfl)))) ?_
   rintro _ w73 ⟨o77, hn_, rfl⟩
   obtain ⟨o74, ev75, hA76⟩ := adopt (o := o_) (ks := []) (Ks := [[115, 116, 117, 118], [100, 101, 102, 103]]) 119 ([]) [119] hn_ MbOk.nil rfl rfl rfl rfl
   exact ⟨o74, ev75.sub rfl rfl, rfl, trivial⟩
  ·intro vs78 o80 w79 hE h12 h17 h18 h7 hb23 h64 h66 h68
   obtain ⟨hE, evT_⟩ := hE
   have h12 : Ow 64 o80 101 [] w79 v8 (([(⟨2, 0, 5000, 0⟩ : Running), (⟨2, 0, 5000, 0⟩ : Running)] : List Running)) := h12
   have h17 : Ow 3 o80 102 [] w79 v13 ([60] : List Int) := h17
   have h18 : Ow 66 o80 103 [] w79 (.slice none 0 0) ([] : List Part) := h18
   have h7 : Ow 4 o80 100 [] w79 v3 ([false, true, true, true] : List Bool) := h7
   have hb23 : Bk o80 104 w79 pa19 [v3, v8, v13, (.slice none 0 0)] := hb23
   have h64 : Ow 48 o80 116 [] w79 (cOf 1 (vs78 0)) y57.Breakers := h64
   have h66 : Ow 83 o80 117 [] w79 (cOf 2 (vs78 0)) y57.Sources := h66
   have h68 : Ow 85 o80 118 [115] w79 (cOf 3 (vs78 0)) y57.Consumers := h68
   have h51 := h51.evo evT_ rfl
   refine hK56 _ _ ?_
   refine CW.seq fun K81 hK81 => ?_
   obtain ⟨y82, q83, hF⟩ := bindE hF
   obtain ⟨y95, q96, hF⟩ := bindE hF
   obtain ⟨x102, q103, hF⟩ := bindE hF
   have hJ106 : ∀ (w104 : World) (o105 : Cls), En w0 e0 o105 w104 → NK 57 K81 [(0, .bool x102)] w104 := by
    intro w104 o105  hE
    refine hK81 _ _ ?_
    obtain rfl := Option.some.inj hF
    exact CW.rets (vs := [.bool x102]) Try.results20 ⟨rfl, trivial⟩ ⟨_, rfl, _, (hE.rn he0 100 [] rfl rfl), rfl⟩ (fun _ _ h => h)
   rcases Bool.eq_false_or_eq_true (((y95 == 0))) with hc107 | hc107
   ·have q103 := iteT hc107 q103
    obtain ⟨x108, q109, q103⟩ := bindE q103
    have hJ112 : ∀ (w110 : World) (o111 : Cls), En w0 e0 o111 w110 → NK 57 K81 [(0, .bool x108)] w110 := by
     intro w110 o111  hE
     have e113 := Option.some.inj q103
     subst e113
     exact NK.sb (hJ106 w110 o111 hE) ⟨rfl, trivial⟩
    rcases Bool.eq_false_or_eq_true ((((len y44) == 2))) with hc114 | hc114
    ·have q109 := iteT hc114 q109
     obtain ⟨y115, q119, q109⟩ := bindE q109
     obtain ⟨y143, q144, q109⟩ := bindE q109
     obtain ⟨x150, q151, q109⟩ := bindE q109
     have hJ154 : ∀ (w152 : World) (o153 : Cls), En w0 e0 o153 w152 → NK 57 K81 [(0, .bool x150)] w152 := by
      intro w152 o153  hE
      have e155 := Option.some.inj q109
      subst e155
      exact NK.sb (hJ112 w152 o153 hE) ⟨rfl, trivial⟩
     rcases Bool.eq_false_or_eq_true y143 with hc156 | hc156
     ·have q151 := iteT hc156 q151
      obtain ⟨x157, q158, q151⟩ := bindE q151
      have hJ161 : ∀ (w159 : World) (o160 : Cls), En w0 e0 o160 w159 → NK 57 K81 [(0, .bool x157)] w159 := by
       intro w159 o160  hE
       have e162 := Option.some.inj q151
       subst e162
       exact NK.sb (hJ154 w159 o160 hE) ⟨rfl, trivial⟩
      rcases Bool.eq_false_or_eq_true y71 with hc163 | hc163
      ·have q158 := iteT hc163 q158
       obtain ⟨x164, q165, q158⟩ := bindE q158
       have hJ168 : ∀ (w166 : World) (o167 : Cls), En w0 e0 o167 w166 → NK 57 K81 [(0, .bool x164)] w166 := by
        intro w166 o167  hE
        have e169 := Option.some.inj q158
        subst e169
        exact NK.sb (hJ161 w166 o167 hE) ⟨rfl, trivial⟩
       rcases Bool.eq_false_or_eq_true (((y70 == 0))) with hc170 | hc170
       ·have q165 := iteT hc170 q165
        obtain ⟨y171, q172, q165⟩ := bindE q165
        obtain ⟨y184, q185, q165⟩ := bindE q165
        obtain ⟨x191, q192, q165⟩ := bindE q165
        have hJ195 : ∀ (w193 : World) (o194 : Cls), En w0 e0 o194 w193 → NK 57 K81 [(0, .bool x191)] w193 := by
         intro w193 o194  hE
         have e196 := Option.some.inj q165
         subst e196
         exact NK.sb (hJ168 w193 o194 hE) ⟨rfl, trivial⟩
        rcases Bool.eq_false_or_eq_true y184 with hc197 | hc197
        ·have q192 := iteT hc197 q192
         obtain ⟨y198, q199, q192⟩ := bindE q192
         obtain ⟨y211, q212, q192⟩ := bindE q192
         obtain ⟨y225, q226, q192⟩ := bindE q192
         have ev_ := Evo.drew o80 w79
         refine CW.anyS (N := [120, 121, 122, 123, 124, 125, 126, 127, 128, 129, 130, 131, 132, 133, 134, 135, 136, 137, 138, 139, 140, 141]) hmix [sOw none none [] 64 101 [] (vk v8) (([(⟨2, 0, 5000, 0⟩ : Running), (⟨2, 0, 5000, 0⟩ : Running)] : List Running)), sOw none none [] 3 102 [] (vk v13) ([60] : List Int), sOw none none [] 66 103 [] (vk (.slice none 0 0)) ([] : List Part), sOw none none [] 53 114 [113] (vk (vs53 2)) y44, sOw none none [] 4 100 [] (vk v3) ([false, true, true, true] : List Bool), sBk none none [] 104 (vk pa19) (vk ([v3, v8, v13, (.slice none 0 0)])), sOw (some 0) none [0] 48 121 [] (fun x_ => (cOf 1 (x_.getD 0 undef))) y82.Breakers, sOw (some 0) none [0] 83 122 [] (fun x_ => (cOf 2 (x_.getD 0 undef))) y82.Sources, sOw (some 0) none [0] 85 123 [120] (fun x_ => (cOf 3 (x_.getD 0 undef))) y82.Consumers, sPo (some 11) none [11] 114 [113] (vp 0) y115, sEp (some 11) none [11] (vk (vs53 2)) 3 0 (vp 0), sRv (some 12) none [12] [113] (fun x_ => (cOf 0 (x_.getD 0 undef))) y115.Buses, sRv (some 12) none [12] [113] (fun x_ => (cOf 1 (x_.getD 0 undef))) y115.Sources, sRv (some 12) none [12] [113] (fun x_ => (cOf 2 (x_.getD 0 undef))) y115.Consumers, sOw (some 13) none [13] 3 125 [] (vn 0) ([0] : List Int), sOw (some 14) none [14] 3 126 [] (vn 0) ([0] : List Int), sOw (some 15) none [15] 3 127 [] (vn 0) ([0] : List Int), sOw (some 27) none [27] 48 130 [] (fun x_ => (cOf 1 (x_.getD 0 undef))) y171.Breakers, sOw (some 27) none [27] 83 131 [] (fun x_ => (cOf 2 (x_.getD 0 undef))) y171.Sources, sOw (some 27) none [27] 85 132 [129] (fun x_ => (cOf 3 (x_.getD 0 undef))) y171.Consumers, sOw (some 32) none [32] 48 135 [] (fun x_ => (cOf 1 (x_.getD 0 undef))) y198.Breakers, sOw (some 32) none [32] 83 136 [] (fun x_ => (cOf 2 (x_.getD 0 undef))) y198.Sources, sOw (some 32) none [32] 85 137 [134] (fun x_ => (cOf 3 (x_.getD 0 undef))) y198.Consumers, sOw (some 33) none [33] 3 139 [] (vn 0) y211, sOw (some 34) none [34] 3 140 [] (vn 0) ([2] : List Int)] [⟨[], [], [], [0], fun x_ => .agg #[.int .i64 y82.Buses, (cOf 1 (x_.getD 0 undef)), (cOf 2 (x_.getD 0 undef)), (cOf 3 (x_.getD 0 undef)), .int .i64 y82.Phase, .int .i64 y82.Frequency], false⟩, ⟨[], [5], [], [], vk (.agg #[v3, v8, v13, (.slice none 0 0)]), false⟩, ⟨[], [0, 1, 2, 4, 6, 7, 8], [0, 1], [], vk (.int .i64 y95), false⟩, ⟨[], [], [0, 1, 2], [], vk (.bool (((y95 == 0)))), false⟩, ⟨[], [], rg 0 4, [], vk (.bool (((y95 == 0)))), false⟩, ⟨[], [], rg 0 5, [], vk (vs53 2), false⟩, ⟨[], [3], rg 0 6, [], vk (.int .i64 (len y44)), false⟩, ⟨[], [], rg 0 7, [], vk (.bool ((((len y44) == 2)))), false⟩, ⟨[], [], rg 0 8, [], vk (.bool ((((len y44) == 2)))), false⟩, ⟨[], [], rg 0 9, [], vk (.bool ((((len y44) == 2)))), false⟩, ⟨[], [], rg 0 10, [], vk (vs53 2), false⟩, ⟨[], [3], rg 0 11, [11], vq 0, false⟩, ⟨[], [9], rg 0 12, [12], fun x_ => .agg #[(cOf 0 (x_.getD 0 undef)), (cOf 1 (x_.getD 0 undef)), (cOf 2 (x_.getD 0 undef))], false⟩, ⟨[], [], rg 0 10, [13], vn 0, false⟩, ⟨[], [], rg 0 10, [14], vn 0, false⟩, ⟨[], [], rg 0 10, [15], vn 0, false⟩, ⟨[], [14, 15, 16], [0, 1, 2, 3, 4, 5, 6, 7, 8, 9, 13, 14, 15], [13, 14, 15], fun x_ => .agg #[(x_.getD 0 undef), (x_.getD 1 undef), (x_.getD 2 undef)], false⟩, ⟨[], [11, 12, 13, 14, 15, 16], rg 0 17, [], vk (.bool y143), false⟩, ⟨[], [], rg 0 18, [], vk (.bool y143), false⟩, ⟨[], [], rg 0 19, [], vk (.bool y143), false⟩, ⟨[], [], rg 0 20, [], vk (.bool y71), false⟩, ⟨[], [], rg 0 21, [], vk (.bool y71), false⟩, ⟨[], [], rg 0 22, [], vk (.bool y71), false⟩, ⟨[], [], rg 0 23, [], vk (.int .i64 y70), false⟩, ⟨[], [], rg 0 24, [], vk (.bool (((y70 == 0)))), false⟩, ⟨[], [], rg 0 25, [], vk (.bool (((y70 == 0)))), false⟩, ⟨[], [], rg 0 26, [], vk (.bool (((y70 == 0)))), false⟩, ⟨[], [], rg 0 27, [27], fun x_ => .agg #[.int .i64 y171.Buses, (cOf 1 (x_.getD 0 undef)), (cOf 2 (x_.getD 0 undef)), (cOf 3 (x_.getD 0 undef)), .int .i64 y171.Phase, .int .i64 y171.Frequency], false⟩, ⟨[], [5], rg 0 27, [], vk (.agg #[v3, v8, v13, (.slice none 0 0)]), false⟩, ⟨[], [0, 1, 2, 4, 17, 18, 19], rg 0 29, [], vk (.bool y184), false⟩, ⟨[], [], rg 0 30, [], vk (.bool y184), false⟩, ⟨[], [], rg 0 31, [], vk (.bool y184), false⟩, ⟨[], [], rg 0 32, [32], fun x_ => .agg #[.int .i64 y198.Buses, (cOf 1 (x_.getD 0 undef)), (cOf 2 (x_.getD 0 undef)), (cOf 3 (x_.getD 0 undef)), .int .i64 y198.Phase, .int .i64 y198.Frequency], false⟩, ⟨[], [20, 21, 22], rg 0 33, [33], vn 0, false⟩, ⟨[], [], rg 0 32, [34], vn 0, false⟩, ⟨[], [23, 24], rg 0 35, [], vk (.bool y225), false⟩, ⟨[], [], rg 0 36, [], vk (.bool y225), false⟩, ⟨[], [], rg 0 37, [], vk (.bool y225), false⟩] [] hE rfl (by kernel_rfl) (by kernel_rfl) ⟨h12.evo ev_ rfl, h17.evo ev_ rfl, h18.evo ev_ rfl, h51.evo ev_ rfl, h7.evo ev_ rfl, hb23.evo ev_ rfl, trivial⟩ ⟨?_, ?_, ?_, Ob.pv rfl rfl (fun _ => rfl) rfl (fun _ _ _ => trivial), Ob.pv rfl rfl (fun _ => rfl) rfl (fun _ _ _ => trivial), ?_, ?_, ?_, ?_, Ob.pv rfl rfl (fun _ => rfl) rfl (fun _ _ _ => trivial), ?_, ?_, ?_, ?_, ?_, ?_, ?_, ?_, ?_, Ob.pv rfl rfl (fun _ => rfl) rfl (fun _ _ _ => trivial), ?_, ?_, Ob.pv rfl rfl (fun _ => rfl) rfl (fun _ _ _ => trivial), ?_, ?_, ?_, Ob.pv rfl rfl (fun _ => rfl) rfl (fun _ _ _ => trivial), ?_, ?_, ?_, ?_, Ob.pv rfl rfl (fun _ => rfl) rfl (fun _ _ _ => trivial), ?_, ?_, ?_, ?_, ?_, Ob.pv rfl rfl (fun _ => rfl) rfl (fun _ _ _ => trivial), trivial⟩ ?_
         ·intro vs232 o_ w_ hE 
          refine OW.r [] trivial (OW.call Try.call56 rfl (dynposlaw15_two_ok q83)) ?_
          rintro _ w84 ⟨o88, u90, u92, u94, hn_, rfl, h89, h91, h93⟩
          obtain ⟨o85, ev86, hA87⟩ := adopt (o := o_) (ks := []) (Ks := []) 120 ([(101, 121), (102, 122), (103, 123)]) [120, 121, 122, 123] hn_ MbOk.nil rfl rfl rfl rfl
          have h89 := h89.ad (c' := 121) (K' := []) hA87 rfl rfl
          have h91 := h91.ad (c' := 122) (K' := []) hA87 rfl rfl
          have h93 := h93.ad (c' := 123) (K' := [120]) hA87 rfl rfl
          exact ⟨o85, ev86.sub rfl rfl, rfl, h89, h91, h93, trivial⟩
         ·intro vs232 o_ w_ hE hb23
          have hb23 := tBk hb23
          exact OW.q [(1, .pointer (some pa19))] ⟨rfl, trivial⟩ (OW.loadK0 Power (.agg #[v3, v8, v13, (.slice none 0 0)]) ty45 rfl hb23 rfl rfl) (er rfl trivial)
         ·intro vs232 o_ w_ hE h12 h17 h18 h7 h89 h91 h93
          have h12 := tOw h12
          have h17 := tOw h17
          have h18 := tOw h18
          have h7 := tOw h7
          have h89 := tOw h89
          have h91 := tOw h91
          have h93 := tOw h93
          refine OW.r [(20, .agg #[.int .i64 y82.Buses, (cOf 1 (vs232 0)), (cOf 2 (vs232 0)), (cOf 3 (vs232 0)), .int .i64 y82.Phase, .int .i64 y82.Frequency]), (21, .agg #[v3, v8, v13, (.slice none 0 0)])] ⟨rfl, rfl, trivial⟩ (OW.call Try.call36 rfl (board_State_ok q96 (mk39 (x := y82) (h89.rv.sub (K' := [120, 121, 122, 123]) rfl) (h91.rv.sub (K' := [120, 121, 122, 123]) rfl) (h93.rv.sub (K' := [120, 121, 122, 123]) rfl)) (mk45 (x := (⟨([false, true, true, true] : List Bool), ([(⟨2, 0, 5000, 0⟩ : Running), (⟨2, 0, 5000, 0⟩ : Running)] : List Running), ([60] : List Int), ([] : List Part)⟩ : Power)) (h7.rv.sub (K' := [100, 101, 102, 103]) rfl) (h12.rv.sub (K' := [100, 101, 102, 103]) rfl) (h17.rv.sub (K' := [100, 101, 102, 103]) rfl) (h18.rv.sub (K' := [100, 101, 102, 103]) rfl)))) ?_
          rintro _ w97 ⟨o101, hn_, rfl⟩
          obtain ⟨o98, ev99, hA100⟩ := adopt (o := o_) (ks := []) (Ks := [[120, 121, 122, 123], [100, 101, 102, 103]]) 124 ([]) [124] hn_ MbOk.nil rfl rfl rfl rfl
          exact ⟨o98, ev99.sub rfl rfl, rfl, trivial⟩
         ·intro vs232 o_ w_ hE 
          refine ⟨⟨_, rfl, congrArg (fun b => some (Value.bool b)) hc107⟩, ?_⟩
          exact OW.q [(2, (vs53 2))] ⟨rfl, trivial⟩ (OW.pv (v := (vs53 2)) rfl) (er rfl trivial)
         ·intro vs232 o_ w_ hE h51
          have h51 := tOw h51
          refine ⟨⟨_, rfl, congrArg (fun b => some (Value.bool b)) hc107⟩, ?_⟩
          exact OW.q [(25, (vs53 2))] ⟨rfl, trivial⟩ (OW.len Try.underlying49 rfl h51.rv) (er rfl trivial)
         ·intro vs232 o_ w_ hE 
          refine ⟨⟨_, rfl, congrArg (fun b => some (Value.bool b)) hc107⟩, ?_⟩
          exact OW.q [(26, .int .i64 (len y44))] ⟨rfl, trivial⟩ (OW.pv (v := (.bool ((((len y44) == 2))))) rfl) (er rfl trivial)
         ·intro vs232 o_ w_ hE 
          exact OW.q [(24, .bool (((y95 == 0)))), (27, .bool ((((len y44) == 2))))] ⟨rfl, rfl, trivial⟩ (OW.pickT rfl hc107 rfl) (er rfl trivial)
         ·intro vs232 o_ w_ hE 
          refine ⟨⟨_, rfl, congrArg (fun b => some (Value.bool b)) hc114⟩, ?_⟩
          exact OW.q [(2, (vs53 2))] ⟨rfl, trivial⟩ (OW.pv (v := (vs53 2)) rfl) (er rfl trivial)
         ·intro vs232 o_ w_ hE h51
          have h51 := tOw h51
          refine ⟨⟨_, rfl, congrArg (fun b => some (Value.bool b)) hc114⟩, ?_⟩
          refine OW.r [(30, (vs53 2))] ⟨rfl, trivial⟩ (OW.indexAddrO Try.underlying49 ty53 rfl h51 rfl q119) ?_
          rintro _ _ ⟨rfl, ⟨pa116, hv_, hp117, he118⟩⟩
          subst hv_
          exact ⟨_, Evo.refl _ _ _ _, rfl, hp117, he118, trivial⟩
         ·intro vs232 o_ w_ hE hp117
          have hp117 := tPo hp117
          refine ⟨⟨_, rfl, congrArg (fun b => some (Value.bool b)) hc114⟩, ?_⟩
          refine OW.r [(31, .pointer (some (pOf (vs232 11))))] ⟨rfl, trivial⟩ (OW.loadO ty53 rfl hp117) ?_
          rintro v120 _ ⟨rfl, h121⟩
          obtain ⟨u122, u123, u124, rfl, h125, h126, h127⟩ := op53 h121
          exact ⟨_, Evo.refl _ _ _ _, rfl, h125, h126, h127, trivial⟩
         ·intro vs232 o_ w_ hE 
          refine ⟨⟨_, rfl, congrArg (fun b => some (Value.bool b)) hc114⟩, ?_⟩
          refine OW.r [] trivial (OW.buildSlice (o := o_) (k := 125) (K := []) (xs := ([0] : List Int)) Try.underlying22 ty3 rfl ⟨(rv_int.2 rfl), trivial⟩ rfl rfl) ?_
          rintro v128 w129 ⟨o130, ev131, h132⟩
          exact ⟨o130, ev131.sub rfl rfl, rfl, h132, trivial⟩
         ·intro vs232 o_ w_ hE 
          refine ⟨⟨_, rfl, congrArg (fun b => some (Value.bool b)) hc114⟩, ?_⟩
          refine OW.r [] trivial (OW.buildSlice (o := o_) (k := 126) (K := []) (xs := ([0] : List Int)) Try.underlying22 ty3 rfl ⟨(rv_int.2 rfl), trivial⟩ rfl rfl) ?_
          rintro v133 w134 ⟨o135, ev136, h137⟩
          exact ⟨o135, ev136.sub rfl rfl, rfl, h137, trivial⟩
         ·intro vs232 o_ w_ hE 
          refine ⟨⟨_, rfl, congrArg (fun b => some (Value.bool b)) hc114⟩, ?_⟩
          refine OW.r [] trivial (OW.buildSlice (o := o_) (k := 127) (K := []) (xs := ([0] : List Int)) Try.underlying22 ty3 rfl ⟨(rv_int.2 rfl), trivial⟩ rfl rfl) ?_
          rintro v138 w139 ⟨o140, ev141, h142⟩
          exact ⟨o140, ev141.sub rfl rfl, rfl, h142, trivial⟩
         ·intro vs232 o_ w_ hE h132 h137 h142
          have h132 := tOw h132
          have h137 := tOw h137
          have h142 := tOw h142
          refine ⟨⟨_, rfl, congrArg (fun b => some (Value.bool b)) hc114⟩, ?_⟩
          exact OW.q [(33, (vs232 13)), (34, (vs232 14)), (35, (vs232 15))] ⟨rfl, rfl, rfl, trivial⟩ (OW.buildK Island [(0, [(vs232 13)]), (1, [(vs232 14)]), (2, [(vs232 15)])] [(vs232 13), (vs232 14), (vs232 15)] st53 ty53 rfl ⟨rfl, (cells_one (h132.one)), rfl, (cells_one (h137.one)), rfl, (cells_one (h142.one)), trivial⟩ rfl) (er rfl trivial)
         ·intro vs232 o_ w_ hE h125 h126 h127 h132 h137 h142
          have h125 := tRv h125
          have h126 := tRv h126
          have h127 := tRv h127
          have h132 := tOw h132
          have h137 := tOw h137
          have h142 := tOw h142
          refine ⟨⟨_, rfl, congrArg (fun b => some (Value.bool b)) hc114⟩, ?_⟩
          refine OW.r [(32, .agg #[(cOf 0 (vs232 12)), (cOf 1 (vs232 12)), (cOf 2 (vs232 12))]), (36, .agg #[(vs232 13), (vs232 14), (vs232 15)])] ⟨rfl, rfl, trivial⟩ (OW.call Try.call24 rfl (dynposref15_Island_ok q144 (mk53 (x := y115) h125 h126 h127) (mk53 (x := (⟨([0] : List Int), ([0] : List Int), ([0] : List Int)⟩ : Island)) (h132.rv.sub (K' := [125, 126, 127]) rfl) (h137.rv.sub (K' := [125, 126, 127]) rfl) (h142.rv.sub (K' := [125, 126, 127]) rfl)))) ?_
          rintro _ w145 ⟨o149, hn_, rfl⟩
          obtain ⟨o146, ev147, hA148⟩ := adopt (o := o_) (ks := []) (Ks := [[113], [125, 126, 127]]) 128 ([]) [128] hn_ MbOk.nil rfl rfl rfl rfl
          exact ⟨o146, ev147.sub rfl rfl, rfl, trivial⟩
         ·intro vs232 o_ w_ hE 
          exact OW.q [(29, .bool ((((len y44) == 2)))), (37, .bool y143)] ⟨rfl, rfl, trivial⟩ (OW.pickT rfl hc114 rfl) (er rfl trivial)
         ·intro vs232 o_ w_ hE 
          refine ⟨⟨_, rfl, congrArg (fun b => some (Value.bool b)) hc156⟩, ?_⟩
          exact OW.q [(4, .bool y71)] ⟨rfl, trivial⟩ (OW.pv (v := (.bool y71)) rfl) (er rfl trivial)
         ·intro vs232 o_ w_ hE 
          exact OW.q [(39, .bool y143), (40, .bool y71)] ⟨rfl, rfl, trivial⟩ (OW.pickT rfl hc156 rfl) (er rfl trivial)
         ·intro vs232 o_ w_ hE 
          refine ⟨⟨_, rfl, congrArg (fun b => some (Value.bool b)) hc163⟩, ?_⟩
          exact OW.q [(3, .int .i64 y70)] ⟨rfl, trivial⟩ (OW.pv (v := (.int .i64 y70)) rfl) (er rfl trivial)
         ·intro vs232 o_ w_ hE 
          refine ⟨⟨_, rfl, congrArg (fun b => some (Value.bool b)) hc163⟩, ?_⟩
          exact OW.q [(43, .int .i64 y70)] ⟨rfl, trivial⟩ (OW.pv (v := (.bool (((y70 == 0))))) rfl) (er rfl trivial)
         ·intro vs232 o_ w_ hE 
          exact OW.q [(42, .bool y71), (44, .bool (((y70 == 0))))] ⟨rfl, rfl, trivial⟩ (OW.pickT rfl hc163 rfl) (er rfl trivial)
         ·intro vs232 o_ w_ hE 
          refine ⟨⟨_, rfl, congrArg (fun b => some (Value.bool b)) hc170⟩, ?_⟩
          refine OW.r [] trivial (OW.call Try.call56 rfl (dynposlaw15_two_ok q172)) ?_
          rintro _ w173 ⟨o177, u179, u181, u183, hn_, rfl, h178, h180, h182⟩
          obtain ⟨o174, ev175, hA176⟩ := adopt (o := o_) (ks := []) (Ks := []) 129 ([(101, 130), (102, 131), (103, 132)]) [129, 130, 131, 132] hn_ MbOk.nil rfl rfl rfl rfl
          have h178 := h178.ad (c' := 130) (K' := []) hA176 rfl rfl
          have h180 := h180.ad (c' := 131) (K' := []) hA176 rfl rfl
          have h182 := h182.ad (c' := 132) (K' := [129]) hA176 rfl rfl
          exact ⟨o174, ev175.sub rfl rfl, rfl, h178, h180, h182, trivial⟩
         ·intro vs232 o_ w_ hE hb23
          have hb23 := tBk hb23
          refine ⟨⟨_, rfl, congrArg (fun b => some (Value.bool b)) hc170⟩, ?_⟩
          exact OW.q [(1, .pointer (some pa19))] ⟨rfl, trivial⟩ (OW.loadK0 Power (.agg #[v3, v8, v13, (.slice none 0 0)]) ty45 rfl hb23 rfl rfl) (er rfl trivial)
         ·intro vs232 o_ w_ hE h12 h17 h18 h7 h178 h180 h182
          have h12 := tOw h12
          have h17 := tOw h17
          have h18 := tOw h18
          have h7 := tOw h7
          have h178 := tOw h178
          have h180 := tOw h180
          have h182 := tOw h182
          refine ⟨⟨_, rfl, congrArg (fun b => some (Value.bool b)) hc170⟩, ?_⟩
          refine OW.r [(47, .agg #[.int .i64 y171.Buses, (cOf 1 (vs232 27)), (cOf 2 (vs232 27)), (cOf 3 (vs232 27)), .int .i64 y171.Phase, .int .i64 y171.Frequency]), (48, .agg #[v3, v8, v13, (.slice none 0 0)])] ⟨rfl, rfl, trivial⟩ (OW.call Try.call27 rfl (board_Live_ok q185 (mk39 (x := y171) (h178.rv.sub (K' := [129, 130, 131, 132]) rfl) (h180.rv.sub (K' := [129, 130, 131, 132]) rfl) (h182.rv.sub (K' := [129, 130, 131, 132]) rfl)) (mk45 (x := (⟨([false, true, true, true] : List Bool), ([(⟨2, 0, 5000, 0⟩ : Running), (⟨2, 0, 5000, 0⟩ : Running)] : List Running), ([60] : List Int), ([] : List Part)⟩ : Power)) (h7.rv.sub (K' := [100, 101, 102, 103]) rfl) (h12.rv.sub (K' := [100, 101, 102, 103]) rfl) (h17.rv.sub (K' := [100, 101, 102, 103]) rfl) (h18.rv.sub (K' := [100, 101, 102, 103]) rfl)))) ?_
          rintro _ w186 ⟨o190, hn_, rfl⟩
          obtain ⟨o187, ev188, hA189⟩ := adopt (o := o_) (ks := []) (Ks := [[129, 130, 131, 132], [100, 101, 102, 103]]) 133 ([]) [133] hn_ MbOk.nil rfl rfl rfl rfl
          exact ⟨o187, ev188.sub rfl rfl, rfl, trivial⟩
         ·intro vs232 o_ w_ hE 
          exact OW.q [(46, .bool (((y70 == 0)))), (49, .bool y184)] ⟨rfl, rfl, trivial⟩ (OW.pickT rfl hc170 rfl) (er rfl trivial)
         ·intro vs232 o_ w_ hE 
          refine ⟨⟨_, rfl, congrArg (fun b => some (Value.bool b)) hc197⟩, ?_⟩
          refine OW.r [] trivial (OW.call Try.call56 rfl (dynposlaw15_two_ok q199)) ?_
          rintro _ w200 ⟨o204, u206, u208, u210, hn_, rfl, h205, h207, h209⟩
          obtain ⟨o201, ev202, hA203⟩ := adopt (o := o_) (ks := []) (Ks := []) 134 ([(101, 135), (102, 136), (103, 137)]) [134, 135, 136, 137] hn_ MbOk.nil rfl rfl rfl rfl
          have h205 := h205.ad (c' := 135) (K' := []) hA203 rfl rfl
          have h207 := h207.ad (c' := 136) (K' := []) hA203 rfl rfl
          have h209 := h209.ad (c' := 137) (K' := [134]) hA203 rfl rfl
          exact ⟨o201, ev202.sub rfl rfl, rfl, h205, h207, h209, trivial⟩
         ·intro vs232 o_ w_ hE h205 h207 h209
          have h205 := tOw h205
          have h207 := tOw h207
          have h209 := tOw h209
          refine ⟨⟨_, rfl, congrArg (fun b => some (Value.bool b)) hc197⟩, ?_⟩
          refine OW.r [(52, .agg #[.int .i64 y198.Buses, (cOf 1 (vs232 32)), (cOf 2 (vs232 32)), (cOf 3 (vs232 32)), .int .i64 y198.Phase, .int .i64 y198.Frequency])] ⟨rfl, trivial⟩ (OW.call Try.call28 rfl (board_Find_ok q212 (mk39 (x := y198) (h205.rv.sub (K' := [134, 135, 136, 137]) rfl) (h207.rv.sub (K' := [134, 135, 136, 137]) rfl) (h209.rv.sub (K' := [134, 135, 136, 137]) rfl)))) ?_
          rintro v219 w213 ⟨o217, hn_, h218⟩
          obtain ⟨o214, ev215, hA216⟩ := adopt (o := o_) (ks := []) (Ks := [[134, 135, 136, 137]]) 138 ([(100, 139)]) [138, 139] hn_ MbOk.nil rfl rfl rfl rfl
          have h218 := h218.ad (c' := 139) (K' := []) hA216 rfl rfl
          exact ⟨o214, ev215.sub rfl rfl, rfl, h218, trivial⟩
         ·intro vs232 o_ w_ hE 
          refine ⟨⟨_, rfl, congrArg (fun b => some (Value.bool b)) hc197⟩, ?_⟩
          refine OW.r [] trivial (OW.buildSlice (o := o_) (k := 140) (K := []) (xs := ([2] : List Int)) Try.underlying22 ty3 rfl ⟨(rv_int.2 rfl), trivial⟩ rfl rfl) ?_
          rintro v220 w221 ⟨o222, ev223, h224⟩
          exact ⟨o222, ev223.sub rfl rfl, rfl, h224, trivial⟩
         ·intro vs232 o_ w_ hE h218 h224
          have h218 := tOw h218
          have h224 := tOw h224
          refine ⟨⟨_, rfl, congrArg (fun b => some (Value.bool b)) hc197⟩, ?_⟩
          refine OW.r [(53, (vs232 33)), (54, (vs232 34))] ⟨rfl, rfl, trivial⟩ (OW.call Try.call15 rfl (dynposref01_Ints_ok q226 h218.rv h224.rv)) ?_
          rintro _ w227 ⟨o231, hn_, rfl⟩
          obtain ⟨o228, ev229, hA230⟩ := adopt (o := o_) (ks := []) (Ks := [[139], [140]]) 141 ([]) [141] hn_ MbOk.nil rfl rfl rfl rfl
          exact ⟨o228, ev229.sub rfl rfl, rfl, trivial⟩
         ·intro vs232 o_ w_ hE 
          exact OW.q [(51, .bool y184), (55, .bool y225)] ⟨rfl, rfl, trivial⟩ (OW.pickT rfl hc197 rfl) (er rfl trivial)
         ·intro vs232 o234 w233 hE h12 h17 h18 h51 h7 hb23 h89 h91 h93 hp117 he118 h125 h126 h127 h132 h137 h142 h178 h180 h182 h205 h207 h209 h218 h224
          obtain ⟨hE, evT_⟩ := hE
          have h12 : Ow 64 o234 101 [] w233 v8 (([(⟨2, 0, 5000, 0⟩ : Running), (⟨2, 0, 5000, 0⟩ : Running)] : List Running)) := h12
          have h17 : Ow 3 o234 102 [] w233 v13 ([60] : List Int) := h17
          have h18 : Ow 66 o234 103 [] w233 (.slice none 0 0) ([] : List Part) := h18
          have h51 : Ow 53 o234 114 [113] w233 (vs53 2) y44 := h51
          have h7 : Ow 4 o234 100 [] w233 v3 ([false, true, true, true] : List Bool) := h7
          have hb23 : Bk o234 104 w233 pa19 [v3, v8, v13, (.slice none 0 0)] := hb23
          have h89 : Ow 48 o234 121 [] w233 (cOf 1 (vs232 0)) y82.Breakers := h89
          have h91 : Ow 83 o234 122 [] w233 (cOf 2 (vs232 0)) y82.Sources := h91
          have h93 : Ow 85 o234 123 [120] w233 (cOf 3 (vs232 0)) y82.Consumers := h93
          have hp117 : PtrO o234 114 [113] w233 (pOf (vs232 11)) y115 := hp117
          have he118 : EPtr (vs53 2) 3 0 (pOf (vs232 11)) := he118
          have h125 : Rv (In o234 [113]) w233 (cOf 0 (vs232 12)) y115.Buses := h125
          have h126 : Rv (In o234 [113]) w233 (cOf 1 (vs232 12)) y115.Sources := h126
          have h127 : Rv (In o234 [113]) w233 (cOf 2 (vs232 12)) y115.Consumers := h127
          have h132 : Ow 3 o234 125 [] w233 (vs232 13) ([0] : List Int) := h132
          have h137 : Ow 3 o234 126 [] w233 (vs232 14) ([0] : List Int) := h137
          have h142 : Ow 3 o234 127 [] w233 (vs232 15) ([0] : List Int) := h142
          have h178 : Ow 48 o234 130 [] w233 (cOf 1 (vs232 27)) y171.Breakers := h178
          have h180 : Ow 83 o234 131 [] w233 (cOf 2 (vs232 27)) y171.Sources := h180
          have h182 : Ow 85 o234 132 [129] w233 (cOf 3 (vs232 27)) y171.Consumers := h182
          have h205 : Ow 48 o234 135 [] w233 (cOf 1 (vs232 32)) y198.Breakers := h205
          have h207 : Ow 83 o234 136 [] w233 (cOf 2 (vs232 32)) y198.Sources := h207
          have h209 : Ow 85 o234 137 [134] w233 (cOf 3 (vs232 32)) y198.Consumers := h209
          have h218 : Ow 3 o234 139 [] w233 (vs232 33) y211 := h218
          have h224 : Ow 3 o234 140 [] w233 (vs232 34) ([2] : List Int) := h224
          have e235 := Option.some.inj q192
          subst e235
          exact NK.sb (hJ195 w233 o234 hE) ⟨rfl, trivial⟩
        ·have q192 := iteF hc197 q192
         have ev_ := Evo.drew o80 w79
         refine CW.anyS (N := [120, 121, 122, 123, 124, 125, 126, 127, 128, 129, 130, 131, 132, 133]) hmix [sOw none none [] 64 101 [] (vk v8) (([(⟨2, 0, 5000, 0⟩ : Running), (⟨2, 0, 5000, 0⟩ : Running)] : List Running)), sOw none none [] 3 102 [] (vk v13) ([60] : List Int), sOw none none [] 66 103 [] (vk (.slice none 0 0)) ([] : List Part), sOw none none [] 53 114 [113] (vk (vs53 2)) y44, sOw none none [] 4 100 [] (vk v3) ([false, true, true, true] : List Bool), sBk none none [] 104 (vk pa19) (vk ([v3, v8, v13, (.slice none 0 0)])), sOw (some 0) none [0] 48 121 [] (fun x_ => (cOf 1 (x_.getD 0 undef))) y82.Breakers, sOw (some 0) none [0] 83 122 [] (fun x_ => (cOf 2 (x_.getD 0 undef))) y82.Sources, sOw (some 0) none [0] 85 123 [120] (fun x_ => (cOf 3 (x_.getD 0 undef))) y82.Consumers, sPo (some 11) none [11] 114 [113] (vp 0) y115, sEp (some 11) none [11] (vk (vs53 2)) 3 0 (vp 0), sRv (some 12) none [12] [113] (fun x_ => (cOf 0 (x_.getD 0 undef))) y115.Buses, sRv (some 12) none [12] [113] (fun x_ => (cOf 1 (x_.getD 0 undef))) y115.Sources, sRv (some 12) none [12] [113] (fun x_ => (cOf 2 (x_.getD 0 undef))) y115.Consumers, sOw (some 13) none [13] 3 125 [] (vn 0) ([0] : List Int), sOw (some 14) none [14] 3 126 [] (vn 0) ([0] : List Int), sOw (some 15) none [15] 3 127 [] (vn 0) ([0] : List Int), sOw (some 27) none [27] 48 130 [] (fun x_ => (cOf 1 (x_.getD 0 undef))) y171.Breakers, sOw (some 27) none [27] 83 131 [] (fun x_ => (cOf 2 (x_.getD 0 undef))) y171.Sources, sOw (some 27) none [27] 85 132 [129] (fun x_ => (cOf 3 (x_.getD 0 undef))) y171.Consumers] [⟨[], [], [], [0], fun x_ => .agg #[.int .i64 y82.Buses, (cOf 1 (x_.getD 0 undef)), (cOf 2 (x_.getD 0 undef)), (cOf 3 (x_.getD 0 undef)), .int .i64 y82.Phase, .int .i64 y82.Frequency], false⟩, ⟨[], [5], [], [], vk (.agg #[v3, v8, v13, (.slice none 0 0)]), false⟩, ⟨[], [0, 1, 2, 4, 6, 7, 8], [0, 1], [], vk (.int .i64 y95), false⟩, ⟨[], [], [0, 1, 2], [], vk (.bool (((y95 == 0)))), false⟩, ⟨[], [], rg 0 4, [], vk (.bool (((y95 == 0)))), false⟩, ⟨[], [], rg 0 5, [], vk (vs53 2), false⟩, ⟨[], [3], rg 0 6, [], vk (.int .i64 (len y44)), false⟩, ⟨[], [], rg 0 7, [], vk (.bool ((((len y44) == 2)))), false⟩, ⟨[], [], rg 0 8, [], vk (.bool ((((len y44) == 2)))), false⟩, ⟨[], [], rg 0 9, [], vk (.bool ((((len y44) == 2)))), false⟩, ⟨[], [], rg 0 10, [], vk (vs53 2), false⟩, ⟨[], [3], rg 0 11, [11], vq 0, false⟩, ⟨[], [9], rg 0 12, [12], fun x_ => .agg #[(cOf 0 (x_.getD 0 undef)), (cOf 1 (x_.getD 0 undef)), (cOf 2 (x_.getD 0 undef))], false⟩, ⟨[], [], rg 0 10, [13], vn 0, false⟩, ⟨[], [], rg 0 10, [14], vn 0, false⟩, ⟨[], [], rg 0 10, [15], vn 0, false⟩, ⟨[], [14, 15, 16], [0, 1, 2, 3, 4, 5, 6, 7, 8, 9, 13, 14, 15], [13, 14, 15], fun x_ => .agg #[(x_.getD 0 undef), (x_.getD 1 undef), (x_.getD 2 undef)], false⟩, ⟨[], [11, 12, 13, 14, 15, 16], rg 0 17, [], vk (.bool y143), false⟩, ⟨[], [], rg 0 18, [], vk (.bool y143), false⟩, ⟨[], [], rg 0 19, [], vk (.bool y143), false⟩, ⟨[], [], rg 0 20, [], vk (.bool y71), false⟩, ⟨[], [], rg 0 21, [], vk (.bool y71), false⟩, ⟨[], [], rg 0 22, [], vk (.bool y71), false⟩, ⟨[], [], rg 0 23, [], vk (.int .i64 y70), false⟩, ⟨[], [], rg 0 24, [], vk (.bool (((y70 == 0)))), false⟩, ⟨[], [], rg 0 25, [], vk (.bool (((y70 == 0)))), false⟩, ⟨[], [], rg 0 26, [], vk (.bool (((y70 == 0)))), false⟩, ⟨[], [], rg 0 27, [27], fun x_ => .agg #[.int .i64 y171.Buses, (cOf 1 (x_.getD 0 undef)), (cOf 2 (x_.getD 0 undef)), (cOf 3 (x_.getD 0 undef)), .int .i64 y171.Phase, .int .i64 y171.Frequency], false⟩, ⟨[], [5], rg 0 27, [], vk (.agg #[v3, v8, v13, (.slice none 0 0)]), false⟩, ⟨[], [0, 1, 2, 4, 17, 18, 19], rg 0 29, [], vk (.bool y184), false⟩, ⟨[], [], rg 0 30, [], vk (.bool y184), false⟩, ⟨[], [], rg 0 31, [], vk (.bool y184), false⟩, ⟨[], [], rg 0 32, [], vk undef, true⟩, ⟨[], [], rg 0 33, [], vk undef, true⟩, ⟨[], [], rg 0 32, [], vk undef, true⟩, ⟨[], [], rg 0 35, [], vk undef, true⟩, ⟨[], [], rg 0 36, [], vk (.bool false), false⟩, ⟨[], [], rg 0 37, [], vk (.bool false), false⟩] [] hE rfl (by kernel_rfl) (by kernel_rfl) ⟨h12.evo ev_ rfl, h17.evo ev_ rfl, h18.evo ev_ rfl, h51.evo ev_ rfl, h7.evo ev_ rfl, hb23.evo ev_ rfl, trivial⟩ ⟨?_, ?_, ?_, Ob.pv rfl rfl (fun _ => rfl) rfl (fun _ _ _ => trivial), Ob.pv rfl rfl (fun _ => rfl) rfl (fun _ _ _ => trivial), ?_, ?_, ?_, ?_, Ob.pv rfl rfl (fun _ => rfl) rfl (fun _ _ _ => trivial), ?_, ?_, ?_, ?_, ?_, ?_, ?_, ?_, ?_, Ob.pv rfl rfl (fun _ => rfl) rfl (fun _ _ _ => trivial), ?_, ?_, Ob.pv rfl rfl (fun _ => rfl) rfl (fun _ _ _ => trivial), ?_, ?_, ?_, Ob.pv rfl rfl (fun _ => rfl) rfl (fun _ _ _ => trivial), ?_, ?_, ?_, ?_, Ob.pv rfl rfl (fun _ => rfl) rfl (fun _ _ _ => trivial), ?_, ?_, ?_, ?_, ?_, Ob.pv rfl rfl (fun _ => rfl) rfl (fun _ _ _ => trivial), trivial⟩ ?_
         ·intro vs236 o_ w_ hE 
          refine OW.r [] trivial (OW.call Try.call56 rfl (dynposlaw15_two_ok q83)) ?_
          rintro _ w84 ⟨o88, u90, u92, u94, hn_, rfl, h89, h91, h93⟩
          obtain ⟨o85, ev86, hA87⟩ := adopt (o := o_) (ks := []) (Ks := []) 120 ([(101, 121), (102, 122), (103, 123)]) [120, 121, 122, 123] hn_ MbOk.nil rfl rfl rfl rfl
          have h89 := h89.ad (c' := 121) (K' := []) hA87 rfl rfl
          have h91 := h91.ad (c' := 122) (K' := []) hA87 rfl rfl
          have h93 := h93.ad (c' := 123) (K' := [120]) hA87 rfl rfl
          exact ⟨o85, ev86.sub rfl rfl, rfl, h89, h91, h93, trivial⟩
         ·intro vs236 o_ w_ hE hb23
          have hb23 := tBk hb23
          exact OW.q [(1, .pointer (some pa19))] ⟨rfl, trivial⟩ (OW.loadK0 Power (.agg #[v3, v8, v13, (.slice none 0 0)]) ty45 rfl hb23 rfl rfl) (er rfl trivial)
         ·intro vs236 o_ w_ hE h12 h17 h18 h7 h89 h91 h93
          have h12 := tOw h12
          have h17 := tOw h17
          have h18 := tOw h18
          have h7 := tOw h7
          have h89 := tOw h89
          have h91 := tOw h91
          have h93 := tOw h93
          refine OW.r [(20, .agg #[.int .i64 y82.Buses, (cOf 1 (vs236 0)), (cOf 2 (vs236 0)), (cOf 3 (vs236 0)), .int .i64 y82.Phase, .int .i64 y82.Frequency]), (21, .agg #[v3, v8, v13, (.slice none 0 0)])] ⟨rfl, rfl, trivial⟩ (OW.call Try.call36 rfl (board_State_ok q96 (mk39 (x := y82) (h89.rv.sub (K' := [120, 121, 122, 123]) rfl) (h91.rv.sub (K' := [120, 121, 122, 123]) rfl) (h93.rv.sub (K' := [120, 121, 122, 123]) rfl)) (mk45 (x := (⟨([false, true, true, true] : List Bool), ([(⟨2, 0, 5000, 0⟩ : Running), (⟨2, 0, 5000, 0⟩ : Running)] : List Running), ([60] : List Int), ([] : List Part)⟩ : Power)) (h7.rv.sub (K' := [100, 101, 102, 103]) rfl) (h12.rv.sub (K' := [100, 101, 102, 103]) rfl) (h17.rv.sub (K' := [100, 101, 102, 103]) rfl) (h18.rv.sub (K' := [100, 101, 102, 103]) rfl)))) ?_
          rintro _ w97 ⟨o101, hn_, rfl⟩
          obtain ⟨o98, ev99, hA100⟩ := adopt (o := o_) (ks := []) (Ks := [[120, 121, 122, 123], [100, 101, 102, 103]]) 124 ([]) [124] hn_ MbOk.nil rfl rfl rfl rfl
          exact ⟨o98, ev99.sub rfl rfl, rfl, trivial⟩
         ·intro vs236 o_ w_ hE 
          refine ⟨⟨_, rfl, congrArg (fun b => some (Value.bool b)) hc107⟩, ?_⟩
          exact OW.q [(2, (vs53 2))] ⟨rfl, trivial⟩ (OW.pv (v := (vs53 2)) rfl) (er rfl trivial)
         ·intro vs236 o_ w_ hE h51
          have h51 := tOw h51
          refine ⟨⟨_, rfl, congrArg (fun b => some (Value.bool b)) hc107⟩, ?_⟩
          exact OW.q [(25, (vs53 2))] ⟨rfl, trivial⟩ (OW.len Try.underlying49 rfl h51.rv) (er rfl trivial)
         ·intro vs236 o_ w_ hE 
          refine ⟨⟨_, rfl, congrArg (fun b => some (Value.bool b)) hc107⟩, ?_⟩
          exact OW.q [(26, .int .i64 (len y44))] ⟨rfl, trivial⟩ (OW.pv (v := (.bool ((((len y44) == 2))))) rfl) (er rfl trivial)
         ·intro vs236 o_ w_ hE 
          exact OW.q [(24, .bool (((y95 == 0)))), (27, .bool ((((len y44) == 2))))] ⟨rfl, rfl, trivial⟩ (OW.pickT rfl hc107 rfl) (er rfl trivial)
         ·intro vs236 o_ w_ hE 
          refine ⟨⟨_, rfl, congrArg (fun b => some (Value.bool b)) hc114⟩, ?_⟩
          exact OW.q [(2, (vs53 2))] ⟨rfl, trivial⟩ (OW.pv (v := (vs53 2)) rfl) (er rfl trivial)
         ·intro vs236 o_ w_ hE h51
          have h51 := tOw h51
          refine ⟨⟨_, rfl, congrArg (fun b => some (Value.bool b)) hc114⟩, ?_⟩
          refine OW.r [(30, (vs53 2))] ⟨rfl, trivial⟩ (OW.indexAddrO Try.underlying49 ty53 rfl h51 rfl q119) ?_
          rintro _ _ ⟨rfl, ⟨pa116, hv_, hp117, he118⟩⟩
          subst hv_
          exact ⟨_, Evo.refl _ _ _ _, rfl, hp117, he118, trivial⟩
         ·intro vs236 o_ w_ hE hp117
          have hp117 := tPo hp117
          refine ⟨⟨_, rfl, congrArg (fun b => some (Value.bool b)) hc114⟩, ?_⟩
          refine OW.r [(31, .pointer (some (pOf (vs236 11))))] ⟨rfl, trivial⟩ (OW.loadO ty53 rfl hp117) ?_
          rintro v120 _ ⟨rfl, h121⟩
          obtain ⟨u122, u123, u124, rfl, h125, h126, h127⟩ := op53 h121
          exact ⟨_, Evo.refl _ _ _ _, rfl, h125, h126, h127, trivial⟩
         ·intro vs236 o_ w_ hE 
          refine ⟨⟨_, rfl, congrArg (fun b => some (Value.bool b)) hc114⟩, ?_⟩
          refine OW.r [] trivial (OW.buildSlice (o := o_) (k := 125) (K := []) (xs := ([0] : List Int)) Try.underlying22 ty3 rfl ⟨(rv_int.2 rfl), trivial⟩ rfl rfl) ?_
          rintro v128 w129 ⟨o130, ev131, h132⟩
          exact ⟨o130, ev131.sub rfl rfl, rfl, h132, trivial⟩
         ·intro vs236 o_ w_ hE 
          refine ⟨⟨_, rfl, congrArg (fun b => some (Value.bool b)) hc114⟩, ?_⟩
          refine OW.r [] trivial (OW.buildSlice (o := o_) (k := 126) (K := []) (xs := ([0] : List Int)) Try.underlying22 ty3 rfl ⟨(rv_int.2 rfl), trivial⟩ rfl rfl) ?_
          rintro v133 w134 ⟨o135, ev136, h137⟩
          exact ⟨o135, ev136.sub rfl rfl, rfl, h137, trivial⟩
         ·intro vs236 o_ w_ hE 
          refine ⟨⟨_, rfl, congrArg (fun b => some (Value.bool b)) hc114⟩, ?_⟩
          refine OW.r [] trivial (OW.buildSlice (o := o_) (k := 127) (K := []) (xs := ([0] : List Int)) Try.underlying22 ty3 rfl ⟨(rv_int.2 rfl), trivial⟩ rfl rfl) ?_
          rintro v138 w139 ⟨o140, ev141, h142⟩
          exact ⟨o140, ev141.sub rfl rfl, rfl, h142, trivial⟩
         ·intro vs236 o_ w_ hE h132 h137 h142
          have h132 := tOw h132
          have h137 := tOw h137
          have h142 := tOw h142
          refine ⟨⟨_, rfl, congrArg (fun b => some (Value.bool b)) hc114⟩, ?_⟩
          exact OW.q [(33, (vs236 13)), (34, (vs236 14)), (35, (vs236 15))] ⟨rfl, rfl, rfl, trivial⟩ (OW.buildK Island [(0, [(vs236 13)]), (1, [(vs236 14)]), (2, [(vs236 15)])] [(vs236 13), (vs236 14), (vs236 15)] st53 ty53 rfl ⟨rfl, (cells_one (h132.one)), rfl, (cells_one (h137.one)), rfl, (cells_one (h142.one)), trivial⟩ rfl) (er rfl trivial)
         ·intro vs236 o_ w_ hE h125 h126 h127 h132 h137 h142
          have h125 := tRv h125
          have h126 := tRv h126
          have h127 := tRv h127
          have h132 := tOw h132
          have h137 := tOw h137
          have h142 := tOw h142
          refine ⟨⟨_, rfl, congrArg (fun b => some (Value.bool b)) hc114⟩, ?_⟩
          refine OW.r [(32, .agg #[(cOf 0 (vs236 12)), (cOf 1 (vs236 12)), (cOf 2 (vs236 12))]), (36, .agg #[(vs236 13), (vs236 14), (vs236 15)])] ⟨rfl, rfl, trivial⟩ (OW.call Try.call24 rfl (dynposref15_Island_ok q144 (mk53 (x := y115) h125 h126 h127) (mk53 (x := (⟨([0] : List Int), ([0] : List Int), ([0] : List Int)⟩ : Island)) (h132.rv.sub (K' := [125, 126, 127]) rfl) (h137.rv.sub (K' := [125, 126, 127]) rfl) (h142.rv.sub (K' := [125, 126, 127]) rfl)))) ?_
          rintro _ w145 ⟨o149, hn_, rfl⟩
          obtain ⟨o146, ev147, hA148⟩ := adopt (o := o_) (ks := []) (Ks := [[113], [125, 126, 127]]) 128 ([]) [128] hn_ MbOk.nil rfl rfl rfl rfl
          exact ⟨o146, ev147.sub rfl rfl, rfl, trivial⟩
         ·intro vs236 o_ w_ hE 
          exact OW.q [(29, .bool ((((len y44) == 2)))), (37, .bool y143)] ⟨rfl, rfl, trivial⟩ (OW.pickT rfl hc114 rfl) (er rfl trivial)
         ·intro vs236 o_ w_ hE 
          refine ⟨⟨_, rfl, congrArg (fun b => some (Value.bool b)) hc156⟩, ?_⟩
          exact OW.q [(4, .bool y71)] ⟨rfl, trivial⟩ (OW.pv (v := (.bool y71)) rfl) (er rfl trivial)
         ·intro vs236 o_ w_ hE 
          exact OW.q [(39, .bool y143), (40, .bool y71)] ⟨rfl, rfl, trivial⟩ (OW.pickT rfl hc156 rfl) (er rfl trivial)
         ·intro vs236 o_ w_ hE 
          refine ⟨⟨_, rfl, congrArg (fun b => some (Value.bool b)) hc163⟩, ?_⟩
          exact OW.q [(3, .int .i64 y70)] ⟨rfl, trivial⟩ (OW.pv (v := (.int .i64 y70)) rfl) (er rfl trivial)
         ·intro vs236 o_ w_ hE 
          refine ⟨⟨_, rfl, congrArg (fun b => some (Value.bool b)) hc163⟩, ?_⟩
          exact OW.q [(43, .int .i64 y70)] ⟨rfl, trivial⟩ (OW.pv (v := (.bool (((y70 == 0))))) rfl) (er rfl trivial)
         ·intro vs236 o_ w_ hE 
          exact OW.q [(42, .bool y71), (44, .bool (((y70 == 0))))] ⟨rfl, rfl, trivial⟩ (OW.pickT rfl hc163 rfl) (er rfl trivial)
         ·intro vs236 o_ w_ hE 
          refine ⟨⟨_, rfl, congrArg (fun b => some (Value.bool b)) hc170⟩, ?_⟩
          refine OW.r [] trivial (OW.call Try.call56 rfl (dynposlaw15_two_ok q172)) ?_
          rintro _ w173 ⟨o177, u179, u181, u183, hn_, rfl, h178, h180, h182⟩
          obtain ⟨o174, ev175, hA176⟩ := adopt (o := o_) (ks := []) (Ks := []) 129 ([(101, 130), (102, 131), (103, 132)]) [129, 130, 131, 132] hn_ MbOk.nil rfl rfl rfl rfl
          have h178 := h178.ad (c' := 130) (K' := []) hA176 rfl rfl
          have h180 := h180.ad (c' := 131) (K' := []) hA176 rfl rfl
          have h182 := h182.ad (c' := 132) (K' := [129]) hA176 rfl rfl
          exact ⟨o174, ev175.sub rfl rfl, rfl, h178, h180, h182, trivial⟩
         ·intro vs236 o_ w_ hE hb23
          have hb23 := tBk hb23
          refine ⟨⟨_, rfl, congrArg (fun b => some (Value.bool b)) hc170⟩, ?_⟩
          exact OW.q [(1, .pointer (some pa19))] ⟨rfl, trivial⟩ (OW.loadK0 Power (.agg #[v3, v8, v13, (.slice none 0 0)]) ty45 rfl hb23 rfl rfl) (er rfl trivial)
         ·intro vs236 o_ w_ hE h12 h17 h18 h7 h178 h180 h182
          have h12 := tOw h12
          have h17 := tOw h17
          have h18 := tOw h18
          have h7 := tOw h7
          have h178 := tOw h178
          have h180 := tOw h180
          have h182 := tOw h182
          refine ⟨⟨_, rfl, congrArg (fun b => some (Value.bool b)) hc170⟩, ?_⟩
          refine OW.r [(47, .agg #[.int .i64 y171.Buses, (cOf 1 (vs236 27)), (cOf 2 (vs236 27)), (cOf 3 (vs236 27)), .int .i64 y171.Phase, .int .i64 y171.Frequency]), (48, .agg #[v3, v8, v13, (.slice none 0 0)])] ⟨rfl, rfl, trivial⟩ (OW.call Try.call27 rfl (board_Live_ok q185 (mk39 (x := y171) (h178.rv.sub (K' := [129, 130, 131, 132]) rfl) (h180.rv.sub (K' := [129, 130, 131, 132]) rfl) (h182.rv.sub (K' := [129, 130, 131, 132]) rfl)) (mk45 (x := (⟨([false, true, true, true] : List Bool), ([(⟨2, 0, 5000, 0⟩ : Running), (⟨2, 0, 5000, 0⟩ : Running)] : List Running), ([60] : List Int), ([] : List Part)⟩ : Power)) (h7.rv.sub (K' := [100, 101, 102, 103]) rfl) (h12.rv.sub (K' := [100, 101, 102, 103]) rfl) (h17.rv.sub (K' := [100, 101, 102, 103]) rfl) (h18.rv.sub (K' := [100, 101, 102, 103]) rfl)))) ?_
          rintro _ w186 ⟨o190, hn_, rfl⟩
          obtain ⟨o187, ev188, hA189⟩ := adopt (o := o_) (ks := []) (Ks := [[129, 130, 131, 132], [100, 101, 102, 103]]) 133 ([]) [133] hn_ MbOk.nil rfl rfl rfl rfl
          exact ⟨o187, ev188.sub rfl rfl, rfl, trivial⟩
         ·intro vs236 o_ w_ hE 
          exact OW.q [(46, .bool (((y70 == 0)))), (49, .bool y184)] ⟨rfl, rfl, trivial⟩ (OW.pickT rfl hc170 rfl) (er rfl trivial)
         ·intro vs236 o_ w_ hE 
          exact ⟨⟨_, rfl, .inl (congrArg (fun b => some (Value.bool b)) hc197)⟩, rfl, trivial⟩
         ·intro vs236 o_ w_ hE 
          exact ⟨⟨_, rfl, .inl (congrArg (fun b => some (Value.bool b)) hc197)⟩, rfl, trivial⟩
         ·intro vs236 o_ w_ hE 
          exact ⟨⟨_, rfl, .inl (congrArg (fun b => some (Value.bool b)) hc197)⟩, rfl, trivial⟩
         ·intro vs236 o_ w_ hE 
          exact ⟨⟨_, rfl, .inl (congrArg (fun b => some (Value.bool b)) hc197)⟩, rfl, trivial⟩
         ·intro vs236 o_ w_ hE 
          exact OW.q [(51, .bool y184), (55, undef)] ⟨rfl, rfl, trivial⟩ (OW.pickF rfl hc197 rfl) (er rfl trivial)
         ·intro vs236 o238 w237 hE h12 h17 h18 h51 h7 hb23 h89 h91 h93 hp117 he118 h125 h126 h127 h132 h137 h142 h178 h180 h182
          obtain ⟨hE, evT_⟩ := hE
          have h12 : Ow 64 o238 101 [] w237 v8 (([(⟨2, 0, 5000, 0⟩ : Running), (⟨2, 0, 5000, 0⟩ : Running)] : List Running)) := h12
          have h17 : Ow 3 o238 102 [] w237 v13 ([60] : List Int) := h17
          have h18 : Ow 66 o238 103 [] w237 (.slice none 0 0) ([] : List Part) := h18
          have h51 : Ow 53 o238 114 [113] w237 (vs53 2) y44 := h51
          have h7 : Ow 4 o238 100 [] w237 v3 ([false, true, true, true] : List Bool) := h7
          have hb23 : Bk o238 104 w237 pa19 [v3, v8, v13, (.slice none 0 0)] := hb23
          have h89 : Ow 48 o238 121 [] w237 (cOf 1 (vs236 0)) y82.Breakers := h89
          have h91 : Ow 83 o238 122 [] w237 (cOf 2 (vs236 0)) y82.Sources := h91
          have h93 : Ow 85 o238 123 [120] w237 (cOf 3 (vs236 0)) y82.Consumers := h93
          have hp117 : PtrO o238 114 [113] w237 (pOf (vs236 11)) y115 := hp117
          have he118 : EPtr (vs53 2) 3 0 (pOf (vs236 11)) := he118
          have h125 : Rv (In o238 [113]) w237 (cOf 0 (vs236 12)) y115.Buses := h125
          have h126 : Rv (In o238 [113]) w237 (cOf 1 (vs236 12)) y115.Sources := h126
          have h127 : Rv (In o238 [113]) w237 (cOf 2 (vs236 12)) y115.Consumers := h127
          have h132 : Ow 3 o238 125 [] w237 (vs236 13) ([0] : List Int) := h132
          have h137 : Ow 3 o238 126 [] w237 (vs236 14) ([0] : List Int) := h137
          have h142 : Ow 3 o238 127 [] w237 (vs236 15) ([0] : List Int) := h142
          have h178 : Ow 48 o238 130 [] w237 (cOf 1 (vs236 27)) y171.Breakers := h178
          have h180 : Ow 83 o238 131 [] w237 (cOf 2 (vs236 27)) y171.Sources := h180
          have h182 : Ow 85 o238 132 [129] w237 (cOf 3 (vs236 27)) y171.Consumers := h182
          have e239 := Option.some.inj q192
          subst e239
          exact NK.sb (hJ195 w237 o238 hE) ⟨rfl, trivial⟩
       ·have q165 := iteF hc170 q165
        have ev_ := Evo.drew o80 w79
        refine CW.anyS (N := [120, 121, 122, 123, 124, 125, 126, 127, 128]) hmix [sOw none none [] 64 101 [] (vk v8) (([(⟨2, 0, 5000, 0⟩ : Running), (⟨2, 0, 5000, 0⟩ : Running)] : List Running)), sOw none none [] 3 102 [] (vk v13) ([60] : List Int), sOw none none [] 66 103 [] (vk (.slice none 0 0)) ([] : List Part), sOw none none [] 53 114 [113] (vk (vs53 2)) y44, sOw none none [] 4 100 [] (vk v3) ([false, true, true, true] : List Bool), sBk none none [] 104 (vk pa19) (vk ([v3, v8, v13, (.slice none 0 0)])), sOw (some 0) none [0] 48 121 [] (fun x_ => (cOf 1 (x_.getD 0 undef))) y82.Breakers, sOw (some 0) none [0] 83 122 [] (fun x_ => (cOf 2 (x_.getD 0 undef))) y82.Sources, sOw (some 0) none [0] 85 123 [120] (fun x_ => (cOf 3 (x_.getD 0 undef))) y82.Consumers, sPo (some 11) none [11] 114 [113] (vp 0) y115, sEp (some 11) none [11] (vk (vs53 2)) 3 0 (vp 0), sRv (some 12) none [12] [113] (fun x_ => (cOf 0 (x_.getD 0 undef))) y115.Buses, sRv (some 12) none [12] [113] (fun x_ => (cOf 1 (x_.getD 0 undef))) y115.Sources, sRv (some 12) none [12] [113] (fun x_ => (cOf 2 (x_.getD 0 undef))) y115.Consumers, sOw (some 13) none [13] 3 125 [] (vn 0) ([0] : List Int), sOw (some 14) none [14] 3 126 [] (vn 0) ([0] : List Int), sOw (some 15) none [15] 3 127 [] (vn 0) ([0] : List Int)] [⟨[], [], [], [0], fun x_ => .agg #[.int .i64 y82.Buses, (cOf 1 (x_.getD 0 undef)), (cOf 2 (x_.getD 0 undef)), (cOf 3 (x_.getD 0 undef)), .int .i64 y82.Phase, .int .i64 y82.Frequency], false⟩, ⟨[], [5], [], [], vk (.agg #[v3, v8, v13, (.slice none 0 0)]), false⟩, ⟨[], [0, 1, 2, 4, 6, 7, 8], [0, 1], [], vk (.int .i64 y95), false⟩, ⟨[], [], [0, 1, 2], [], vk (.bool (((y95 == 0)))), false⟩, ⟨[], [], rg 0 4, [], vk (.bool (((y95 == 0)))), false⟩, ⟨[], [], rg 0 5, [], vk (vs53 2), false⟩, ⟨[], [3], rg 0 6, [], vk (.int .i64 (len y44)), false⟩, ⟨[], [], rg 0 7, [], vk (.bool ((((len y44) == 2)))), false⟩, ⟨[], [], rg 0 8, [], vk (.bool ((((len y44) == 2)))), false⟩, ⟨[], [], rg 0 9, [], vk (.bool ((((len y44) == 2)))), false⟩, ⟨[], [], rg 0 10, [], vk (vs53 2), false⟩, ⟨[], [3], rg 0 11, [11], vq 0, false⟩, ⟨[], [9], rg 0 12, [12], fun x_ => .agg #[(cOf 0 (x_.getD 0 undef)), (cOf 1 (x_.getD 0 undef)), (cOf 2 (x_.getD 0 undef))], false⟩, ⟨[], [], rg 0 10, [13], vn 0, false⟩, ⟨[], [], rg 0 10, [14], vn 0, false⟩, ⟨[], [], rg 0 10, [15], vn 0, false⟩, ⟨[], [14, 15, 16], [0, 1, 2, 3, 4, 5, 6, 7, 8, 9, 13, 14, 15], [13, 14, 15], fun x_ => .agg #[(x_.getD 0 undef), (x_.getD 1 undef), (x_.getD 2 undef)], false⟩, ⟨[], [11, 12, 13, 14, 15, 16], rg 0 17, [], vk (.bool y143), false⟩, ⟨[], [], rg 0 18, [], vk (.bool y143), false⟩, ⟨[], [], rg 0 19, [], vk (.bool y143), false⟩, ⟨[], [], rg 0 20, [], vk (.bool y71), false⟩, ⟨[], [], rg 0 21, [], vk (.bool y71), false⟩, ⟨[], [], rg 0 22, [], vk (.bool y71), false⟩, ⟨[], [], rg 0 23, [], vk (.int .i64 y70), false⟩, ⟨[], [], rg 0 24, [], vk (.bool (((y70 == 0)))), false⟩, ⟨[], [], rg 0 25, [], vk (.bool (((y70 == 0)))), false⟩, ⟨[], [], rg 0 26, [], vk (.bool (((y70 == 0)))), false⟩, ⟨[], [], rg 0 27, [], vk undef, true⟩, ⟨[], [], rg 0 27, [], vk undef, true⟩, ⟨[], [], rg 0 29, [], vk undef, true⟩, ⟨[], [], rg 0 30, [], vk (.bool false), false⟩, ⟨[], [], rg 0 31, [], vk (.bool false), false⟩, ⟨[], [], rg 0 32, [], vk undef, true⟩, ⟨[], [], rg 0 33, [], vk undef, true⟩, ⟨[], [], rg 0 32, [], vk undef, true⟩, ⟨[], [], rg 0 35, [], vk undef, true⟩, ⟨[], [], rg 0 36, [], vk (.bool false), false⟩, ⟨[], [], rg 0 37, [], vk (.bool false), false⟩] [] hE rfl (by kernel_rfl) (by kernel_rfl) ⟨h12.evo ev_ rfl, h17.evo ev_ rfl, h18.evo ev_ rfl, h51.evo ev_ rfl, h7.evo ev_ rfl, hb23.evo ev_ rfl, trivial⟩ ⟨?_, ?_, ?_, Ob.pv rfl rfl (fun _ => rfl) rfl (fun _ _ _ => trivial), Ob.pv rfl rfl (fun _ => rfl) rfl (fun _ _ _ => trivial), ?_, ?_, ?_, ?_, Ob.pv rfl rfl (fun _ => rfl) rfl (fun _ _ _ => trivial), ?_, ?_, ?_, ?_, ?_, ?_, ?_, ?_, ?_, Ob.pv rfl rfl (fun _ => rfl) rfl (fun _ _ _ => trivial), ?_, ?_, Ob.pv rfl rfl (fun _ => rfl) rfl (fun _ _ _ => trivial), ?_, ?_, ?_, Ob.pv rfl rfl (fun _ => rfl) rfl (fun _ _ _ => trivial), ?_, ?_, ?_, ?_, Ob.pv rfl rfl (fun _ => rfl) rfl (fun _ _ _ => trivial), ?_, ?_, ?_, ?_, ?_, Ob.pv rfl rfl (fun _ => rfl) rfl (fun _ _ _ => trivial), trivial⟩ ?_
        ·intro vs240 o_ w_ hE 
         refine OW.r [] trivial (OW.call Try.call56 rfl (dynposlaw15_two_ok q83)) ?_
         rintro _ w84 ⟨o88, u90, u92, u94, hn_, rfl, h89, h91, h93⟩
         obtain ⟨o85, ev86, hA87⟩ := adopt (o := o_) (ks := []) (Ks := []) 120 ([(101, 121), (102, 122), (103, 123)]) [120, 121, 122, 123] hn_ MbOk.nil rfl rfl rfl rfl
         have h89 := h89.ad (c' := 121) (K' := []) hA87 rfl rfl
         have h91 := h91.ad (c' := 122) (K' := []) hA87 rfl rfl
         have h93 := h93.ad (c' := 123) (K' := [120]) hA87 rfl rfl
         exact ⟨o85, ev86.sub rfl rfl, rfl, h89, h91, h93, trivial⟩
        ·intro vs240 o_ w_ hE hb23
         have hb23 := tBk hb23
         exact OW.q [(1, .pointer (some pa19))] ⟨rfl, trivial⟩ (OW.loadK0 Power (.agg #[v3, v8, v13, (.slice none 0 0)]) ty45 rfl hb23 rfl rfl) (er rfl trivial)
        ·intro vs240 o_ w_ hE h12 h17 h18 h7 h89 h91 h93
         have h12 := tOw h12
         have h17 := tOw h17
         have h18 := tOw h18
         have h7 := tOw h7
         have h89 := tOw h89
         have h91 := tOw h91
         have h93 := tOw h93
         refine OW.r [(20, .agg #[.int .i64 y82.Buses, (cOf 1 (vs240 0)), (cOf 2 (vs240 0)), (cOf 3 (vs240 0)), .int .i64 y82.Phase, .int .i64 y82.Frequency]), (21, .agg #[v3, v8, v13, (.slice none 0 0)])] ⟨rfl, rfl, trivial⟩ (OW.call Try.call36 rfl (board_State_ok q96 (mk39 (x := y82) (h89.rv.sub (K' := [120, 121, 122, 123]) rfl) (h91.rv.sub (K' := [120, 121, 122, 123]) rfl) (h93.rv.sub (K' := [120, 121, 122, 123]) rfl)) (mk45 (x := (⟨([false, true, true, true] : List Bool), ([(⟨2, 0, 5000, 0⟩ : Running), (⟨2, 0, 5000, 0⟩ : Running)] : List Running), ([60] : List Int), ([] : List Part)⟩ : Power)) (h7.rv.sub (K' := [100, 101, 102, 103]) rfl) (h12.rv.sub (K' := [100, 101, 102, 103]) rfl) (h17.rv.sub (K' := [100, 101, 102, 103]) rfl) (h18.rv.sub (K' := [100, 101, 102, 103]) rfl)))) ?_
         rintro _ w97 ⟨o101, hn_, rfl⟩
         obtain ⟨o98, ev99, hA100⟩ := adopt (o := o_) (ks := []) (Ks := [[120, 121, 122, 123], [100, 101, 102, 103]]) 124 ([]) [124] hn_ MbOk.nil rfl rfl rfl rfl
         exact ⟨o98, ev99.sub rfl rfl, rfl, trivial⟩
        ·intro vs240 o_ w_ hE 
         refine ⟨⟨_, rfl, congrArg (fun b => some (Value.bool b)) hc107⟩, ?_⟩
         exact OW.q [(2, (vs53 2))] ⟨rfl, trivial⟩ (OW.pv (v := (vs53 2)) rfl) (er rfl trivial)
        ·intro vs240 o_ w_ hE h51
         have h51 := tOw h51
         refine ⟨⟨_, rfl, congrArg (fun b => some (Value.bool b)) hc107⟩, ?_⟩
         exact OW.q [(25, (vs53 2))] ⟨rfl, trivial⟩ (OW.len Try.underlying49 rfl h51.rv) (er rfl trivial)
        ·intro vs240 o_ w_ hE 
         refine ⟨⟨_, rfl, congrArg (fun b => some (Value.bool b)) hc107⟩, ?_⟩
         exact OW.q [(26, .int .i64 (len y44))] ⟨rfl, trivial⟩ (OW.pv (v := (.bool ((((len y44) == 2))))) rfl) (er rfl trivial)
        ·intro vs240 o_ w_ hE 
         exact OW.q [(24, .bool (((y95 == 0)))), (27, .bool ((((len y44) == 2))))] ⟨rfl, rfl, trivial⟩ (OW.pickT rfl hc107 rfl) (er rfl trivial)
        ·intro vs240 o_ w_ hE 
         refine ⟨⟨_, rfl, congrArg (fun b => some (Value.bool b)) hc114⟩, ?_⟩
         exact OW.q [(2, (vs53 2))] ⟨rfl, trivial⟩ (OW.pv (v := (vs53 2)) rfl) (er rfl trivial)
        ·intro vs240 o_ w_ hE h51
         have h51 := tOw h51
         refine ⟨⟨_, rfl, congrArg (fun b => some (Value.bool b)) hc114⟩, ?_⟩
         refine OW.r [(30, (vs53 2))] ⟨rfl, trivial⟩ (OW.indexAddrO Try.underlying49 ty53 rfl h51 rfl q119) ?_
         rintro _ _ ⟨rfl, ⟨pa116, hv_, hp117, he118⟩⟩
         subst hv_
         exact ⟨_, Evo.refl _ _ _ _, rfl, hp117, he118, trivial⟩
        ·intro vs240 o_ w_ hE hp117
         have hp117 := tPo hp117
         refine ⟨⟨_, rfl, congrArg (fun b => some (Value.bool b)) hc114⟩, ?_⟩
         refine OW.r [(31, .pointer (some (pOf (vs240 11))))] ⟨rfl, trivial⟩ (OW.loadO ty53 rfl hp117) ?_
         rintro v120 _ ⟨rfl, h121⟩
         obtain ⟨u122, u123, u124, rfl, h125, h126, h127⟩ := op53 h121
         exact ⟨_, Evo.refl _ _ _ _, rfl, h125, h126, h127, trivial⟩
        ·intro vs240 o_ w_ hE 
         refine ⟨⟨_, rfl, congrArg (fun b => some (Value.bool b)) hc114⟩, ?_⟩
         refine OW.r [] trivial (OW.buildSlice (o := o_) (k := 125) (K := []) (xs := ([0] : List Int)) Try.underlying22 ty3 rfl ⟨(rv_int.2 rfl), trivial⟩ rfl rfl) ?_
         rintro v128 w129 ⟨o130, ev131, h132⟩
         exact ⟨o130, ev131.sub rfl rfl, rfl, h132, trivial⟩
        ·intro vs240 o_ w_ hE 
         refine ⟨⟨_, rfl, congrArg (fun b => some (Value.bool b)) hc114⟩, ?_⟩
         refine OW.r [] trivial (OW.buildSlice (o := o_) (k := 126) (K := []) (xs := ([0] : List Int)) Try.underlying22 ty3 rfl ⟨(rv_int.2 rfl), trivial⟩ rfl rfl) ?_
         rintro v133 w134 ⟨o135, ev136, h137⟩
         exact ⟨o135, ev136.sub rfl rfl, rfl, h137, trivial⟩
        ·intro vs240 o_ w_ hE 
         refine ⟨⟨_, rfl, congrArg (fun b => some (Value.bool b)) hc114⟩, ?_⟩
         refine OW.r [] trivial (OW.buildSlice (o := o_) (k := 127) (K := []) (xs := ([0] : List Int)) Try.underlying22 ty3 rfl ⟨(rv_int.2 rfl), trivial⟩ rfl rfl) ?_
         rintro v138 w139 ⟨o140, ev141, h142⟩
         exact ⟨o140, ev141.sub rfl rfl, rfl, h142, trivial⟩
        ·intro vs240 o_ w_ hE h132 h137 h142
         have h132 := tOw h132
         have h137 := tOw h137
         have h142 := tOw h142
         refine ⟨⟨_, rfl, congrArg (fun b => some (Value.bool b)) hc114⟩, ?_⟩
         exact OW.q [(33, (vs240 13)), (34, (vs240 14)), (35, (vs240 15))] ⟨rfl, rfl, rfl, trivial⟩ (OW.buildK Island [(0, [(vs240 13)]), (1, [(vs240 14)]), (2, [(vs240 15)])] [(vs240 13), (vs240 14), (vs240 15)] st53 ty53 rfl ⟨rfl, (cells_one (h132.one)), rfl, (cells_one (h137.one)), rfl, (cells_one (h142.one)), trivial⟩ rfl) (er rfl trivial)
        ·intro vs240 o_ w_ hE h125 h126 h127 h132 h137 h142
         have h125 := tRv h125
         have h126 := tRv h126
         have h127 := tRv h127
         have h132 := tOw h132
         have h137 := tOw h137
         have h142 := tOw h142
         refine ⟨⟨_, rfl, congrArg (fun b => some (Value.bool b)) hc114⟩, ?_⟩
         refine OW.r [(32, .agg #[(cOf 0 (vs240 12)), (cOf 1 (vs240 12)), (cOf 2 (vs240 12))]), (36, .agg #[(vs240 13), (vs240 14), (vs240 15)])] ⟨rfl, rfl, trivial⟩ (OW.call Try.call24 rfl (dynposref15_Island_ok q144 (mk53 (x := y115) h125 h126 h127) (mk53 (x := (⟨([0] : List Int), ([0] : List Int), ([0] : List Int)⟩ : Island)) (h132.rv.sub (K' := [125, 126, 127]) rfl) (h137.rv.sub (K' := [125, 126, 127]) rfl) (h142.rv.sub (K' := [125, 126, 127]) rfl)))) ?_
         rintro _ w145 ⟨o149, hn_, rfl⟩
         obtain ⟨o146, ev147, hA148⟩ := adopt (o := o_) (ks := []) (Ks := [[113], [125, 126, 127]]) 128 ([]) [128] hn_ MbOk.nil rfl rfl rfl rfl
         exact ⟨o146, ev147.sub rfl rfl, rfl, trivial⟩
        ·intro vs240 o_ w_ hE 
         exact OW.q [(29, .bool ((((len y44) == 2)))), (37, .bool y143)] ⟨rfl, rfl, trivial⟩ (OW.pickT rfl hc114 rfl) (er rfl trivial)
        ·intro vs240 o_ w_ hE 
         refine ⟨⟨_, rfl, congrArg (fun b => some (Value.bool b)) hc156⟩, ?_⟩
         exact OW.q [(4, .bool y71)] ⟨rfl, trivial⟩ (OW.pv (v := (.bool y71)) rfl) (er rfl trivial)
        ·intro vs240 o_ w_ hE 
         exact OW.q [(39, .bool y143), (40, .bool y71)] ⟨rfl, rfl, trivial⟩ (OW.pickT rfl hc156 rfl) (er rfl trivial)
        ·intro vs240 o_ w_ hE 
         refine ⟨⟨_, rfl, congrArg (fun b => some (Value.bool b)) hc163⟩, ?_⟩
         exact OW.q [(3, .int .i64 y70)] ⟨rfl, trivial⟩ (OW.pv (v := (.int .i64 y70)) rfl) (er rfl trivial)
        ·intro vs240 o_ w_ hE 
         refine ⟨⟨_, rfl, congrArg (fun b => some (Value.bool b)) hc163⟩, ?_⟩
         exact OW.q [(43, .int .i64 y70)] ⟨rfl, trivial⟩ (OW.pv (v := (.bool (((y70 == 0))))) rfl) (er rfl trivial)
        ·intro vs240 o_ w_ hE 
         exact OW.q [(42, .bool y71), (44, .bool (((y70 == 0))))] ⟨rfl, rfl, trivial⟩ (OW.pickT rfl hc163 rfl) (er rfl trivial)
        ·intro vs240 o_ w_ hE 
         exact ⟨⟨_, rfl, .inl (congrArg (fun b => some (Value.bool b)) hc170)⟩, rfl, trivial⟩
        ·intro vs240 o_ w_ hE 
         exact ⟨⟨_, rfl, .inl (congrArg (fun b => some (Value.bool b)) hc170)⟩, rfl, trivial⟩
        ·intro vs240 o_ w_ hE 
         exact ⟨⟨_, rfl, .inl (congrArg (fun b => some (Value.bool b)) hc170)⟩, rfl, trivial⟩
        ·intro vs240 o_ w_ hE 
         exact OW.q [(46, .bool (((y70 == 0)))), (49, undef)] ⟨rfl, rfl, trivial⟩ (OW.pickF rfl hc170 rfl) (er rfl trivial)
        ·intro vs240 o_ w_ hE 
         exact ⟨⟨_, rfl, .inl rfl⟩, rfl, trivial⟩
        ·intro vs240 o_ w_ hE 
         exact ⟨⟨_, rfl, .inl rfl⟩, rfl, trivial⟩
        ·intro vs240 o_ w_ hE 
         exact ⟨⟨_, rfl, .inl rfl⟩, rfl, trivial⟩
        ·intro vs240 o_ w_ hE 
         exact ⟨⟨_, rfl, .inl rfl⟩, rfl, trivial⟩
        ·intro vs240 o_ w_ hE 
         exact OW.q [(51, .bool false), (55, undef)] ⟨rfl, rfl, trivial⟩ (OW.pickF rfl rfl rfl) (er rfl trivial)
        ·intro vs240 o242 w241 hE h12 h17 h18 h51 h7 hb23 h89 h91 h93 hp117 he118 h125 h126 h127 h132 h137 h142
         obtain ⟨hE, evT_⟩ := hE
         have h12 : Ow 64 o242 101 [] w241 v8 (([(⟨2, 0, 5000, 0⟩ : Running), (⟨2, 0, 5000, 0⟩ : Running)] : List Running)) := h12
         have h17 : Ow 3 o242 102 [] w241 v13 ([60] : List Int) := h17
         have h18 : Ow 66 o242 103 [] w241 (.slice none 0 0) ([] : List Part) := h18
         have h51 : Ow 53 o242 114 [113] w241 (vs53 2) y44 := h51
         have h7 : Ow 4 o242 100 [] w241 v3 ([false, true, true, true] : List Bool) := h7
         have hb23 : Bk o242 104 w241 pa19 [v3, v8, v13, (.slice none 0 0)] := hb23
         have h89 : Ow 48 o242 121 [] w241 (cOf 1 (vs240 0)) y82.Breakers := h89
         have h91 : Ow 83 o242 122 [] w241 (cOf 2 (vs240 0)) y82.Sources := h91
         have h93 : Ow 85 o242 123 [120] w241 (cOf 3 (vs240 0)) y82.Consumers := h93
         have hp117 : PtrO o242 114 [113] w241 (pOf (vs240 11)) y115 := hp117
         have he118 : EPtr (vs53 2) 3 0 (pOf (vs240 11)) := he118
         have h125 : Rv (In o242 [113]) w241 (cOf 0 (vs240 12)) y115.Buses := h125
         have h126 : Rv (In o242 [113]) w241 (cOf 1 (vs240 12)) y115.Sources := h126
         have h127 : Rv (In o242 [113]) w241 (cOf 2 (vs240 12)) y115.Consumers := h127
         have h132 : Ow 3 o242 125 [] w241 (vs240 13) ([0] : List Int) := h132
         have h137 : Ow 3 o242 126 [] w241 (vs240 14) ([0] : List Int) := h137
         have h142 : Ow 3 o242 127 [] w241 (vs240 15) ([0] : List Int) := h142
         have e243 := Option.some.inj q165
         subst e243
         exact NK.sb (hJ168 w241 o242 hE) ⟨rfl, trivial⟩
      ·have q158 := iteF hc163 q158
       have ev_ := Evo.drew o80 w79
       refine CW.anyS (N := [120, 121, 122, 123, 124, 125, 126, 127, 128]) hmix [sOw none none [] 64 101 [] (vk v8) (([(⟨2, 0, 5000, 0⟩ : Running), (⟨2, 0, 5000, 0⟩ : Running)] : List Running)), sOw none none [] 3 102 [] (vk v13) ([60] : List Int), sOw none none [] 66 103 [] (vk (.slice none 0 0)) ([] : List Part), sOw none none [] 53 114 [113] (vk (vs53 2)) y44, sOw none none [] 4 100 [] (vk v3) ([false, true, true, true] : List Bool), sBk none none [] 104 (vk pa19) (vk ([v3, v8, v13, (.slice none 0 0)])), sOw (some 0) none [0] 48 121 [] (fun x_ => (cOf 1 (x_.getD 0 undef))) y82.Breakers, sOw (some 0) none [0] 83 122 [] (fun x_ => (cOf 2 (x_.getD 0 undef))) y82.Sources, sOw (some 0) none [0] 85 123 [120] (fun x_ => (cOf 3 (x_.getD 0 undef))) y82.Consumers, sPo (some 11) none [11] 114 [113] (vp 0) y115, sEp (some 11) none [11] (vk (vs53 2)) 3 0 (vp 0), sRv (some 12) none [12] [113] (fun x_ => (cOf 0 (x_.getD 0 undef))) y115.Buses, sRv (some 12) none [12] [113] (fun x_ => (cOf 1 (x_.getD 0 undef))) y115.Sources, sRv (some 12) none [12] [113] (fun x_ => (cOf 2 (x_.getD 0 undef))) y115.Consumers, sOw (some 13) none [13] 3 125 [] (vn 0) ([0] : List Int), sOw (some 14) none [14] 3 126 [] (vn 0) ([0] : List Int), sOw (some 15) none [15] 3 127 [] (vn 0) ([0] : List Int)] [⟨[], [], [], [0], fun x_ => .agg #[.int .i64 y82.Buses, (cOf 1 (x_.getD 0 undef)), (cOf 2 (x_.getD 0 undef)), (cOf 3 (x_.getD 0 undef)), .int .i64 y82.Phase, .int .i64 y82.Frequency], false⟩, ⟨[], [5], [], [], vk (.agg #[v3, v8, v13, (.slice none 0 0)]), false⟩, ⟨[], [0, 1, 2, 4, 6, 7, 8], [0, 1], [], vk (.int .i64 y95), false⟩, ⟨[], [], [0, 1, 2], [], vk (.bool (((y95 == 0)))), false⟩, ⟨[], [], rg 0 4, [], vk (.bool (((y95 == 0)))), false⟩, ⟨[], [], rg 0 5, [], vk (vs53 2), false⟩, ⟨[], [3], rg 0 6, [], vk (.int .i64 (len y44)), false⟩, ⟨[], [], rg 0 7, [], vk (.bool ((((len y44) == 2)))), false⟩, ⟨[], [], rg 0 8, [], vk (.bool ((((len y44) == 2)))), false⟩, ⟨[], [], rg 0 9, [], vk (.bool ((((len y44) == 2)))), false⟩, ⟨[], [], rg 0 10, [], vk (vs53 2), false⟩, ⟨[], [3], rg 0 11, [11], vq 0, false⟩, ⟨[], [9], rg 0 12, [12], fun x_ => .agg #[(cOf 0 (x_.getD 0 undef)), (cOf 1 (x_.getD 0 undef)), (cOf 2 (x_.getD 0 undef))], false⟩, ⟨[], [], rg 0 10, [13], vn 0, false⟩, ⟨[], [], rg 0 10, [14], vn 0, false⟩, ⟨[], [], rg 0 10, [15], vn 0, false⟩, ⟨[], [14, 15, 16], [0, 1, 2, 3, 4, 5, 6, 7, 8, 9, 13, 14, 15], [13, 14, 15], fun x_ => .agg #[(x_.getD 0 undef), (x_.getD 1 undef), (x_.getD 2 undef)], false⟩, ⟨[], [11, 12, 13, 14, 15, 16], rg 0 17, [], vk (.bool y143), false⟩, ⟨[], [], rg 0 18, [], vk (.bool y143), false⟩, ⟨[], [], rg 0 19, [], vk (.bool y143), false⟩, ⟨[], [], rg 0 20, [], vk (.bool y71), false⟩, ⟨[], [], rg 0 21, [], vk (.bool y71), false⟩, ⟨[], [], rg 0 22, [], vk (.bool y71), false⟩, ⟨[], [], rg 0 23, [], vk undef, true⟩, ⟨[], [], rg 0 24, [], vk undef, true⟩, ⟨[], [], rg 0 25, [], vk (.bool false), false⟩, ⟨[], [], rg 0 26, [], vk (.bool false), false⟩, ⟨[], [], rg 0 27, [], vk undef, true⟩, ⟨[], [], rg 0 27, [], vk undef, true⟩, ⟨[], [], rg 0 29, [], vk undef, true⟩, ⟨[], [], rg 0 30, [], vk (.bool false), false⟩, ⟨[], [], rg 0 31, [], vk (.bool false), false⟩, ⟨[], [], rg 0 32, [], vk undef, true⟩, ⟨[], [], rg 0 33, [], vk undef, true⟩, ⟨[], [], rg 0 32, [], vk undef, true⟩, ⟨[], [], rg 0 35, [], vk undef, true⟩, ⟨[], [], rg 0 36, [], vk (.bool false), false⟩, ⟨[], [], rg 0 37, [], vk (.bool false), false⟩] [] hE rfl (by kernel_rfl) (by kernel_rfl) ⟨h12.evo ev_ rfl, h17.evo ev_ rfl, h18.evo ev_ rfl, h51.evo ev_ rfl, h7.evo ev_ rfl, hb23.evo ev_ rfl, trivial⟩ ⟨?_, ?_, ?_, Ob.pv rfl rfl (fun _ => rfl) rfl (fun _ _ _ => trivial), Ob.pv rfl rfl (fun _ => rfl) rfl (fun _ _ _ => trivial), ?_, ?_, ?_, ?_, Ob.pv rfl rfl (fun _ => rfl) rfl (fun _ _ _ => trivial), ?_, ?_, ?_, ?_, ?_, ?_, ?_, ?_, ?_, Ob.pv rfl rfl (fun _ => rfl) rfl (fun _ _ _ => trivial), ?_, ?_, Ob.pv rfl rfl (fun _ => rfl) rfl (fun _ _ _ => trivial), ?_, ?_, ?_, Ob.pv rfl rfl (fun _ => rfl) rfl (fun _ _ _ => trivial), ?_, ?_, ?_, ?_, Ob.pv rfl rfl (fun _ => rfl) rfl (fun _ _ _ => trivial), ?_, ?_, ?_, ?_, ?_, Ob.pv rfl rfl (fun _ => rfl) rfl (fun _ _ _ => trivial), trivial⟩ ?_
       ·intro vs244 o_ w_ hE 
        refine OW.r [] trivial (OW.call Try.call56 rfl (dynposlaw15_two_ok q83)) ?_
        rintro _ w84 ⟨o88, u90, u92, u94, hn_, rfl, h89, h91, h93⟩
        obtain ⟨o85, ev86, hA87⟩ := adopt (o := o_) (ks := []) (Ks := []) 120 ([(101, 121), (102, 122), (103, 123)]) [120, 121, 122, 123] hn_ MbOk.nil rfl rfl rfl rfl
        have h89 := h89.ad (c' := 121) (K' := []) hA87 rfl rfl
        have h91 := h91.ad (c' := 122) (K' := []) hA87 rfl rfl
        have h93 := h93.ad (c' := 123) (K' := [120]) hA87 rfl rfl
        exact ⟨o85, ev86.sub rfl rfl, rfl, h89, h91, h93, trivial⟩
       ·intro vs244 o_ w_ hE hb23
        have hb23 := tBk hb23
        exact OW.q [(1, .pointer (some pa19))] ⟨rfl, trivial⟩ (OW.loadK0 Power (.agg #[v3, v8, v13, (.slice none 0 0)]) ty45 rfl hb23 rfl rfl) (er rfl trivial)
       ·intro vs244 o_ w_ hE h12 h17 h18 h7 h89 h91 h93
        have h12 := tOw h12
        have h17 := tOw h17
        have h18 := tOw h18
        have h7 := tOw h7
        have h89 := tOw h89
        have h91 := tOw h91
        have h93 := tOw h93
        refine OW.r [(20, .agg #[.int .i64 y82.Buses, (cOf 1 (vs244 0)), (cOf 2 (vs244 0)), (cOf 3 (vs244 0)), .int .i64 y82.Phase, .int .i64 y82.Frequency]), (21, .agg #[v3, v8, v13, (.slice none 0 0)])] ⟨rfl, rfl, trivial⟩ (OW.call Try.call36 rfl (board_State_ok q96 (mk39 (x := y82) (h89.rv.sub (K' := [120, 121, 122, 123]) rfl) (h91.rv.sub (K' := [120, 121, 122, 123]) rfl) (h93.rv.sub (K' := [120, 121, 122, 123]) rfl)) (mk45 (x := (⟨([false, true, true, true] : List Bool), ([(⟨2, 0, 5000, 0⟩ : Running), (⟨2, 0, 5000, 0⟩ : Running)] : List Running), ([60] : List Int), ([] : List Part)⟩ : Power)) (h7.rv.sub (K' := [100, 101, 102, 103]) rfl) (h12.rv.sub (K' := [100, 101, 102, 103]) rfl) (h17.rv.sub (K' := [100, 101, 102, 103]) rfl) (h18.rv.sub (K' := [100, 101, 102, 103]) rfl)))) ?_
        rintro _ w97 ⟨o101, hn_, rfl⟩
        obtain ⟨o98, ev99, hA100⟩ := adopt (o := o_) (ks := []) (Ks := [[120, 121, 122, 123], [100, 101, 102, 103]]) 124 ([]) [124] hn_ MbOk.nil rfl rfl rfl rfl
        exact ⟨o98, ev99.sub rfl rfl, rfl, trivial⟩
       ·intro vs244 o_ w_ hE 
        refine ⟨⟨_, rfl, congrArg (fun b => some (Value.bool b)) hc107⟩, ?_⟩
        exact OW.q [(2, (vs53 2))] ⟨rfl, trivial⟩ (OW.pv (v := (vs53 2)) rfl) (er rfl trivial)
       ·intro vs244 o_ w_ hE h51
        have h51 := tOw h51
        refine ⟨⟨_, rfl, congrArg (fun b => some (Value.bool b)) hc107⟩, ?_⟩
        exact OW.q [(25, (vs53 2))] ⟨rfl, trivial⟩ (OW.len Try.underlying49 rfl h51.rv) (er rfl trivial)
       ·intro vs244 o_ w_ hE 
        refine ⟨⟨_, rfl, congrArg (fun b => some (Value.bool b)) hc107⟩, ?_⟩
        exact OW.q [(26, .int .i64 (len y44))] ⟨rfl, trivial⟩ (OW.pv (v := (.bool ((((len y44) == 2))))) rfl) (er rfl trivial)
       ·intro vs244 o_ w_ hE 
        exact OW.q [(24, .bool (((y95 == 0)))), (27, .bool ((((len y44) == 2))))] ⟨rfl, rfl, trivial⟩ (OW.pickT rfl hc107 rfl) (er rfl trivial)
       ·intro vs244 o_ w_ hE 
        refine ⟨⟨_, rfl, congrArg (fun b => some (Value.bool b)) hc114⟩, ?_⟩
        exact OW.q [(2, (vs53 2))] ⟨rfl, trivial⟩ (OW.pv (v := (vs53 2)) rfl) (er rfl trivial)
       ·intro vs244 o_ w_ hE h51
        have h51 := tOw h51
        refine ⟨⟨_, rfl, congrArg (fun b => some (Value.bool b)) hc114⟩, ?_⟩
        refine OW.r [(30, (vs53 2))] ⟨rfl, trivial⟩ (OW.indexAddrO Try.underlying49 ty53 rfl h51 rfl q119) ?_
        rintro _ _ ⟨rfl, ⟨pa116, hv_, hp117, he118⟩⟩
        subst hv_
        exact ⟨_, Evo.refl _ _ _ _, rfl, hp117, he118, trivial⟩
       ·intro vs244 o_ w_ hE hp117
        have hp117 := tPo hp117
        refine ⟨⟨_, rfl, congrArg (fun b => some (Value.bool b)) hc114⟩, ?_⟩
        refine OW.r [(31, .pointer (some (pOf (vs244 11))))] ⟨rfl, trivial⟩ (OW.loadO ty53 rfl hp117) ?_
        rintro v120 _ ⟨rfl, h121⟩
        obtain ⟨u122, u123, u124, rfl, h125, h126, h127⟩ := op53 h121
        exact ⟨_, Evo.refl _ _ _ _, rfl, h125, h126, h127, trivial⟩
       ·intro vs244 o_ w_ hE 
        refine ⟨⟨_, rfl, congrArg (fun b => some (Value.bool b)) hc114⟩, ?_⟩
        refine OW.r [] trivial (OW.buildSlice (o := o_) (k := 125) (K := []) (xs := ([0] : List Int)) Try.underlying22 ty3 rfl ⟨(rv_int.2 rfl), trivial⟩ rfl rfl) ?_
        rintro v128 w129 ⟨o130, ev131, h132⟩
        exact ⟨o130, ev131.sub rfl rfl, rfl, h132, trivial⟩
       ·intro vs244 o_ w_ hE 
        refine ⟨⟨_, rfl, congrArg (fun b => some (Value.bool b)) hc114⟩, ?_⟩
        refine OW.r [] trivial (OW.buildSlice (o := o_) (k := 126) (K := []) (xs := ([0] : List Int)) Try.underlying22 ty3 rfl ⟨(rv_int.2 rfl), trivial⟩ rfl rfl) ?_
        rintro v133 w134 ⟨o135, ev136, h137⟩
        exact ⟨o135, ev136.sub rfl rfl, rfl, h137, trivial⟩
       ·intro vs244 o_ w_ hE 
        refine ⟨⟨_, rfl, congrArg (fun b => some (Value.bool b)) hc114⟩, ?_⟩
        refine OW.r [] trivial (OW.buildSlice (o := o_) (k := 127) (K := []) (xs := ([0] : List Int)) Try.underlying22 ty3 rfl ⟨(rv_int.2 rfl), trivial⟩ rfl rfl) ?_
        rintro v138 w139 ⟨o140, ev141, h142⟩
        exact ⟨o140, ev141.sub rfl rfl, rfl, h142, trivial⟩
       ·intro vs244 o_ w_ hE h132 h137 h142
        have h132 := tOw h132
        have h137 := tOw h137
        have h142 := tOw h142
        refine ⟨⟨_, rfl, congrArg (fun b => some (Value.bool b)) hc114⟩, ?_⟩
        exact OW.q [(33, (vs244 13)), (34, (vs244 14)), (35, (vs244 15))] ⟨rfl, rfl, rfl, trivial⟩ (OW.buildK Island [(0, [(vs244 13)]), (1, [(vs244 14)]), (2, [(vs244 15)])] [(vs244 13), (vs244 14), (vs244 15)] st53 ty53 rfl ⟨rfl, (cells_one (h132.one)), rfl, (cells_one (h137.one)), rfl, (cells_one (h142.one)), trivial⟩ rfl) (er rfl trivial)
       ·intro vs244 o_ w_ hE h125 h126 h127 h132 h137 h142
        have h125 := tRv h125
        have h126 := tRv h126
        have h127 := tRv h127
        have h132 := tOw h132
        have h137 := tOw h137
        have h142 := tOw h142
        refine ⟨⟨_, rfl, congrArg (fun b => some (Value.bool b)) hc114⟩, ?_⟩
        refine OW.r [(32, .agg #[(cOf 0 (vs244 12)), (cOf 1 (vs244 12)), (cOf 2 (vs244 12))]), (36, .agg #[(vs244 13), (vs244 14), (vs244 15)])] ⟨rfl, rfl, trivial⟩ (OW.call Try.call24 rfl (dynposref15_Island_ok q144 (mk53 (x := y115) h125 h126 h127) (mk53 (x := (⟨([0] : List Int), ([0] : List Int), ([0] : List Int)⟩ : Island)) (h132.rv.sub (K' := [125, 126, 127]) rfl) (h137.rv.sub (K' := [125, 126, 127]) rfl) (h142.rv.sub (K' := [125, 126, 127]) rfl)))) ?_
        rintro _ w145 ⟨o149, hn_, rfl⟩
        obtain ⟨o146, ev147, hA148⟩ := adopt (o := o_) (ks := []) (Ks := [[113], [125, 126, 127]]) 128 ([]) [128] hn_ MbOk.nil rfl rfl rfl rfl
        exact ⟨o146, ev147.sub rfl rfl, rfl, trivial⟩
       ·intro vs244 o_ w_ hE 
        exact OW.q [(29, .bool ((((len y44) == 2)))), (37, .bool y143)] ⟨rfl, rfl, trivial⟩ (OW.pickT rfl hc114 rfl) (er rfl trivial)
       ·intro vs244 o_ w_ hE 
        refine ⟨⟨_, rfl, congrArg (fun b => some (Value.bool b)) hc156⟩, ?_⟩
        exact OW.q [(4, .bool y71)] ⟨rfl, trivial⟩ (OW.pv (v := (.bool y71)) rfl) (er rfl trivial)
       ·intro vs244 o_ w_ hE 
        exact OW.q [(39, .bool y143), (40, .bool y71)] ⟨rfl, rfl, trivial⟩ (OW.pickT rfl hc156 rfl) (er rfl trivial)
       ·intro vs244 o_ w_ hE 
        exact ⟨⟨_, rfl, .inl (congrArg (fun b => some (Value.bool b)) hc163)⟩, rfl, trivial⟩
       ·intro vs244 o_ w_ hE 
        exact ⟨⟨_, rfl, .inl (congrArg (fun b => some (Value.bool b)) hc163)⟩, rfl, trivial⟩
       ·intro vs244 o_ w_ hE 
        exact OW.q [(42, .bool y71), (44, undef)] ⟨rfl, rfl, trivial⟩ (OW.pickF rfl hc163 rfl) (er rfl trivial)
       ·intro vs244 o_ w_ hE 
        exact ⟨⟨_, rfl, .inl rfl⟩, rfl, trivial⟩
       ·intro vs244 o_ w_ hE 
        exact ⟨⟨_, rfl, .inl rfl⟩, rfl, trivial⟩
       ·intro vs244 o_ w_ hE 
        exact ⟨⟨_, rfl, .inl rfl⟩, rfl, trivial⟩
       ·intro vs244 o_ w_ hE 
        exact OW.q [(46, .bool false), (49, undef)] ⟨rfl, rfl, trivial⟩ (OW.pickF rfl rfl rfl) (er rfl trivial)
       ·intro vs244 o_ w_ hE 
        exact ⟨⟨_, rfl, .inl rfl⟩, rfl, trivial⟩
       ·intro vs244 o_ w_ hE 
        exact ⟨⟨_, rfl, .inl rfl⟩, rfl, trivial⟩
       ·intro vs244 o_ w_ hE 
        exact ⟨⟨_, rfl, .inl rfl⟩, rfl, trivial⟩
       ·intro vs244 o_ w_ hE 
        exact ⟨⟨_, rfl, .inl rfl⟩, rfl, trivial⟩
       ·intro vs244 o_ w_ hE 
        exact OW.q [(51, .bool false), (55, undef)] ⟨rfl, rfl, trivial⟩ (OW.pickF rfl rfl rfl) (er rfl trivial)
       ·intro vs244 o246 w245 hE h12 h17 h18 h51 h7 hb23 h89 h91 h93 hp117 he118 h125 h126 h127 h132 h137 h142
        obtain ⟨hE, evT_⟩ := hE
        have h12 : Ow 64 o246 101 [] w245 v8 (([(⟨2, 0, 5000, 0⟩ : Running), (⟨2, 0, 5000, 0⟩ : Running)] : List Running)) := h12
        have h17 : Ow 3 o246 102 [] w245 v13 ([60] : List Int) := h17
        have h18 : Ow 66 o246 103 [] w245 (.slice none 0 0) ([] : List Part) := h18
        have h51 : Ow 53 o246 114 [113] w245 (vs53 2) y44 := h51
        have h7 : Ow 4 o246 100 [] w245 v3 ([false, true, true, true] : List Bool) := h7
        have hb23 : Bk o246 104 w245 pa19 [v3, v8, v13, (.slice none 0 0)] := hb23
        have h89 : Ow 48 o246 121 [] w245 (cOf 1 (vs244 0)) y82.Breakers := h89
        have h91 : Ow 83 o246 122 [] w245 (cOf 2 (vs244 0)) y82.Sources := h91
        have h93 : Ow 85 o246 123 [120] w245 (cOf 3 (vs244 0)) y82.Consumers := h93
        have hp117 : PtrO o246 114 [113] w245 (pOf (vs244 11)) y115 := hp117
        have he118 : EPtr (vs53 2) 3 0 (pOf (vs244 11)) := he118
        have h125 : Rv (In o246 [113]) w245 (cOf 0 (vs244 12)) y115.Buses := h125
        have h126 : Rv (In o246 [113]) w245 (cOf 1 (vs244 12)) y115.Sources := h126
        have h127 : Rv (In o246 [113]) w245 (cOf 2 (vs244 12)) y115.Consumers := h127
        have h132 : Ow 3 o246 125 [] w245 (vs244 13) ([0] : List Int) := h132
        have h137 : Ow 3 o246 126 [] w245 (vs244 14) ([0] : List Int) := h137
        have h142 : Ow 3 o246 127 [] w245 (vs244 15) ([0] : List Int) := h142
        have e247 := Option.some.inj q158
        subst e247
        exact NK.sb (hJ161 w245 o246 hE) ⟨rfl, trivial⟩
     ·have q151 := iteF hc156 q151
      have ev_ := Evo.drew o80 w79
      refine CW.anyS (N := [120, 121, 122, 123, 124, 125, 126, 127, 128]) hmix [sOw none none [] 64 101 [] (vk v8) (([(⟨2, 0, 5000, 0⟩ : Running), (⟨2, 0, 5000, 0⟩ : Running)] : List Running)), sOw none none [] 3 102 [] (vk v13) ([60] : List Int), sOw none none [] 66 103 [] (vk (.slice none 0 0)) ([] : List Part), sOw none none [] 53 114 [113] (vk (vs53 2)) y44, sOw none none [] 4 100 [] (vk v3) ([false, true, true, true] : List Bool), sBk none none [] 104 (vk pa19) (vk ([v3, v8, v13, (.slice none 0 0)])), sOw (some 0) none [0] 48 121 [] (fun x_ => (cOf 1 (x_.getD 0 undef))) y82.Breakers, sOw (some 0) none [0] 83 122 [] (fun x_ => (cOf 2 (x_.getD 0 undef))) y82.Sources, sOw (some 0) none [0] 85 123 [120] (fun x_ => (cOf 3 (x_.getD 0 undef))) y82.Consumers, sPo (some 11) none [11] 114 [113] (vp 0) y115, sEp (some 11) none [11] (vk (vs53 2)) 3 0 (vp 0), sRv (some 12) none [12] [113] (fun x_ => (cOf 0 (x_.getD 0 undef))) y115.Buses, sRv (some 12) none [12] [113] (fun x_ => (cOf 1 (x_.getD 0 undef))) y115.Sources, sRv (some 12) none [12] [113] (fun x_ => (cOf 2 (x_.getD 0 undef))) y115.Consumers, sOw (some 13) none [13] 3 125 [] (vn 0) ([0] : List Int), sOw (some 14) none [14] 3 126 [] (vn 0) ([0] : List Int), sOw (some 15) none [15] 3 127 [] (vn 0) ([0] : List Int)] [⟨[], [], [], [0], fun x_ => .agg #[.int .i64 y82.Buses, (cOf 1 (x_.getD 0 undef)), (cOf 2 (x_.getD 0 undef)), (cOf 3 (x_.getD 0 undef)), .int .i64 y82.Phase, .int .i64 y82.Frequency], false⟩, ⟨[], [5], [], [], vk (.agg #[v3, v8, v13, (.slice none 0 0)]), false⟩, ⟨[], [0, 1, 2, 4, 6, 7, 8], [0, 1], [], vk (.int .i64 y95), false⟩, ⟨[], [], [0, 1, 2], [], vk (.bool (((y95 == 0)))), false⟩, ⟨[], [], rg 0 4, [], vk (.bool (((y95 == 0)))), false⟩, ⟨[], [], rg 0 5, [], vk (vs53 2), false⟩, ⟨[], [3], rg 0 6, [], vk (.int .i64 (len y44)), false⟩, ⟨[], [], rg 0 7, [], vk (.bool ((((len y44) == 2)))), false⟩, ⟨[], [], rg 0 8, [], vk (.bool ((((len y44) == 2)))), false⟩, ⟨[], [], rg 0 9, [], vk (.bool ((((len y44) == 2)))), false⟩, ⟨[], [], rg 0 10, [], vk (vs53 2), false⟩, ⟨[], [3], rg 0 11, [11], vq 0, false⟩, ⟨[], [9], rg 0 12, [12], fun x_ => .agg #[(cOf 0 (x_.getD 0 undef)), (cOf 1 (x_.getD 0 undef)), (cOf 2 (x_.getD 0 undef))], false⟩, ⟨[], [], rg 0 10, [13], vn 0, false⟩, ⟨[], [], rg 0 10, [14], vn 0, false⟩, ⟨[], [], rg 0 10, [15], vn 0, false⟩, ⟨[], [14, 15, 16], [0, 1, 2, 3, 4, 5, 6, 7, 8, 9, 13, 14, 15], [13, 14, 15], fun x_ => .agg #[(x_.getD 0 undef), (x_.getD 1 undef), (x_.getD 2 undef)], false⟩, ⟨[], [11, 12, 13, 14, 15, 16], rg 0 17, [], vk (.bool y143), false⟩, ⟨[], [], rg 0 18, [], vk (.bool y143), false⟩, ⟨[], [], rg 0 19, [], vk (.bool y143), false⟩, ⟨[], [], rg 0 20, [], vk undef, true⟩, ⟨[], [], rg 0 21, [], vk (.bool false), false⟩, ⟨[], [], rg 0 22, [], vk (.bool false), false⟩, ⟨[], [], rg 0 23, [], vk undef, true⟩, ⟨[], [], rg 0 24, [], vk undef, true⟩, ⟨[], [], rg 0 25, [], vk (.bool false), false⟩, ⟨[], [], rg 0 26, [], vk (.bool false), false⟩, ⟨[], [], rg 0 27, [], vk undef, true⟩, ⟨[], [], rg 0 27, [], vk undef, true⟩, ⟨[], [], rg 0 29, [], vk undef, true⟩, ⟨[], [], rg 0 30, [], vk (.bool false), false⟩, ⟨[], [], rg 0 31, [], vk (.bool false), false⟩, ⟨[], [], rg 0 32, [], vk undef, true⟩, ⟨[], [], rg 0 33, [], vk undef, true⟩, ⟨[], [], rg 0 32, [], vk undef, true⟩, ⟨[], [], rg 0 35, [], vk undef, true⟩, ⟨[], [], rg 0 36, [], vk (.bool false), false⟩, ⟨[], [], rg 0 37, [], vk (.bool false), false⟩] [] hE rfl (by kernel_rfl) (by kernel_rfl) ⟨h12.evo ev_ rfl, h17.evo ev_ rfl, h18.evo ev_ rfl, h51.evo ev_ rfl, h7.evo ev_ rfl, hb23.evo ev_ rfl, trivial⟩ ⟨?_, ?_, ?_, Ob.pv rfl rfl (fun _ => rfl) rfl (fun _ _ _ => trivial), Ob.pv rfl rfl (fun _ => rfl) rfl (fun _ _ _ => trivial), ?_, ?_, ?_, ?_, Ob.pv rfl rfl (fun _ => rfl) rfl (fun _ _ _ => trivial), ?_, ?_, ?_, ?_, ?_, ?_, ?_, ?_, ?_, Ob.pv rfl rfl (fun _ => rfl) rfl (fun _ _ _ => trivial), ?_, ?_, Ob.pv rfl rfl (fun _ => rfl) rfl (fun _ _ _ => trivial), ?_, ?_, ?_, Ob.pv rfl rfl (fun _ => rfl) rfl (fun _ _ _ => trivial), ?_, ?_, ?_, ?_, Ob.pv rfl rfl (fun _ => rfl) rfl (fun _ _ _ => trivial), ?_, ?_, ?_, ?_, ?_, Ob.pv rfl rfl (fun _ => rfl) rfl (fun _ _ _ => trivial), trivial⟩ ?_
      ·intro vs248 o_ w_ hE 
       refine OW.r [] trivial (OW.call Try.call56 rfl (dynposlaw15_two_ok q83)) ?_
       rintro _ w84 ⟨o88, u90, u92, u94, hn_, rfl, h89, h91, h93⟩
       obtain ⟨o85, ev86, hA87⟩ := adopt (o := o_) (ks := []) (Ks := []) 120 ([(101, 121), (102, 122), (103, 123)]) [120, 121, 122, 123] hn_ MbOk.nil rfl rfl rfl rfl
       have h89 := h89.ad (c' := 121) (K' := []) hA87 rfl rfl
       have h91 := h91.ad (c' := 122) (K' := []) hA87 rfl rfl
       have h93 := h93.ad (c' := 123) (K' := [120]) hA87 rfl rfl
       exact ⟨o85, ev86.sub rfl rfl, rfl, h89, h91, h93, trivial⟩
      ·intro vs248 o_ w_ hE hb23
       have hb23 := tBk hb23
       exact OW.q [(1, .pointer (some pa19))] ⟨rfl, trivial⟩ (OW.loadK0 Power (.agg #[v3, v8, v13, (.slice none 0 0)]) ty45 rfl hb23 rfl rfl) (er rfl trivial)
      ·intro vs248 o_ w_ hE h12 h17 h18 h7 h89 h91 h93
       have h12 := tOw h12
       have h17 := tOw h17
       have h18 := tOw h18
       have h7 := tOw h7
       have h89 := tOw h89
       have h91 := tOw h91
       have h93 := tOw h93
       refine OW.r [(20, .agg #[.int .i64 y82.Buses, (cOf 1 (vs248 0)), (cOf 2 (vs248 0)), (cOf 3 (vs248 0)), .int .i64 y82.Phase, .int .i64 y82.Frequency]), (21, .agg #[v3, v8, v13, (.slice none 0 0)])] ⟨rfl, rfl, trivial⟩ (OW.call Try.call36 rfl (board_State_ok q96 (mk39 (x := y82) (h89.rv.sub (K' := [120, 121, 122, 123]) rfl) (h91.rv.sub (K' := [120, 121, 122, 123]) rfl) (h93.rv.sub (K' := [120, 121, 122, 123]) rfl)) (mk45 (x := (⟨([false, true, true, true] : List Bool), ([(⟨2, 0, 5000, 0⟩ : Running), (⟨2, 0, 5000, 0⟩ : Running)] : List Running), ([60] : List Int), ([] : List Part)⟩ : Power)) (h7.rv.sub (K' := [100, 101, 102, 103]) rfl) (h12.rv.sub (K' := [100, 101, 102, 103]) rfl) (h17.rv.sub (K' := [100, 101, 102, 103]) rfl) (h18.rv.sub (K' := [100, 101, 102, 103]) rfl)))) ?_
       rintro _ w97 ⟨o101, hn_, rfl⟩
       obtain ⟨o98, ev99, hA100⟩ := adopt (o := o_) (ks := []) (Ks := [[120, 121, 122, 123], [100, 101, 102, 103]]) 124 ([]) [124] hn_ MbOk.nil rfl rfl rfl rfl
       exact ⟨o98, ev99.sub rfl rfl, rfl, trivial⟩
      ·intro vs248 o_ w_ hE 
       refine ⟨⟨_, rfl, congrArg (fun b => some (Value.bool b)) hc107⟩, ?_⟩
       exact OW.q [(2, (vs53 2))] ⟨rfl, trivial⟩ (OW.pv (v := (vs53 2)) rfl) (er rfl trivial)
      ·intro vs248 o_ w_ hE h51
       have h51 := tOw h51
       refine ⟨⟨_, rfl, congrArg (fun b => some (Value.bool b)) hc107⟩, ?_⟩
       exact OW.q [(25, (vs53 2))] ⟨rfl, trivial⟩ (OW.len Try.underlying49 rfl h51.rv) (er rfl trivial)
      ·intro vs248 o_ w_ hE 
       refine ⟨⟨_, rfl, congrArg (fun b => some (Value.bool b)) hc107⟩, ?_⟩
       exact OW.q [(26, .int .i64 (len y44))] ⟨rfl, trivial⟩ (OW.pv (v := (.bool ((((len y44) == 2))))) rfl) (er rfl trivial)
      ·intro vs248 o_ w_ hE 
       exact OW.q [(24, .bool (((y95 == 0)))), (27, .bool ((((len y44) == 2))))] ⟨rfl, rfl, trivial⟩ (OW.pickT rfl hc107 rfl) (er rfl trivial)
      ·intro vs248 o_ w_ hE 
       refine ⟨⟨_, rfl, congrArg (fun b => some (Value.bool b)) hc114⟩, ?_⟩
       exact OW.q [(2, (vs53 2))] ⟨rfl, trivial⟩ (OW.pv (v := (vs53 2)) rfl) (er rfl trivial)
      ·intro vs248 o_ w_ hE h51
       have h51 := tOw h51
       refine ⟨⟨_, rfl, congrArg (fun b => some (Value.bool b)) hc114⟩, ?_⟩
       refine OW.r [(30, (vs53 2))] ⟨rfl, trivial⟩ (OW.indexAddrO Try.underlying49 ty53 rfl h51 rfl q119) ?_
       rintro _ _ ⟨rfl, ⟨pa116, hv_, hp117, he118⟩⟩
       subst hv_
       exact ⟨_, Evo.refl _ _ _ _, rfl, hp117, he118, trivial⟩
      ·intro vs248 o_ w_ hE hp117
       have hp117 := tPo hp117
       refine ⟨⟨_, rfl, congrArg (fun b => some (Value.bool b)) hc114⟩, ?_⟩
       refine OW.r [(31, .pointer (some (pOf (vs248 11))))] ⟨rfl, trivial⟩ (OW.loadO ty53 rfl hp117) ?_
       rintro v120 _ ⟨rfl, h121⟩
       obtain ⟨u122, u123, u124, rfl, h125, h126, h127⟩ := op53 h121
       exact ⟨_, Evo.refl _ _ _ _, rfl, h125, h126, h127, trivial⟩
      ·intro vs248 o_ w_ hE 
       refine ⟨⟨_, rfl, congrArg (fun b => some (Value.bool b)) hc114⟩, ?_⟩
       refine OW.r [] trivial (OW.buildSlice (o := o_) (k := 125) (K := []) (xs := ([0] : List Int)) Try.underlying22 ty3 rfl ⟨(rv_int.2 rfl), trivial⟩ rfl rfl) ?_
       rintro v128 w129 ⟨o130, ev131, h132⟩
       exact ⟨o130, ev131.sub rfl rfl, rfl, h132, trivial⟩
      ·intro vs248 o_ w_ hE 
       refine ⟨⟨_, rfl, congrArg (fun b => some (Value.bool b)) hc114⟩, ?_⟩
       refine OW.r [] trivial (OW.buildSlice (o := o_) (k := 126) (K := []) (xs := ([0] : List Int)) Try.underlying22 ty3 rfl ⟨(rv_int.2 rfl), trivial⟩ rfl rfl) ?_
       rintro v133 w134 ⟨o135, ev136, h137⟩
       exact ⟨o135, ev136.sub rfl rfl, rfl, h137, trivial⟩
      ·intro vs248 o_ w_ hE 
       refine ⟨⟨_, rfl, congrArg (fun b => some (Value.bool b)) hc114⟩, ?_⟩
       refine OW.r [] trivial (OW.buildSlice (o := o_) (k := 127) (K := []) (xs := ([0] : List Int)) Try.underlying22 ty3 rfl ⟨(rv_int.2 rfl), trivial⟩ rfl rfl) ?_
       rintro v138 w139 ⟨o140, ev141, h142⟩
       exact ⟨o140, ev141.sub rfl rfl, rfl, h142, trivial⟩
      ·intro vs248 o_ w_ hE h132 h137 h142
       have h132 := tOw h132
       have h137 := tOw h137
       have h142 := tOw h142
       refine ⟨⟨_, rfl, congrArg (fun b => some (Value.bool b)) hc114⟩, ?_⟩
       exact OW.q [(33, (vs248 13)), (34, (vs248 14)), (35, (vs248 15))] ⟨rfl, rfl, rfl, trivial⟩ (OW.buildK Island [(0, [(vs248 13)]), (1, [(vs248 14)]), (2, [(vs248 15)])] [(vs248 13), (vs248 14), (vs248 15)] st53 ty53 rfl ⟨rfl, (cells_one (h132.one)), rfl, (cells_one (h137.one)), rfl, (cells_one (h142.one)), trivial⟩ rfl) (er rfl trivial)
      ·intro vs248 o_ w_ hE h125 h126 h127 h132 h137 h142
       have h125 := tRv h125
       have h126 := tRv h126
       have h127 := tRv h127
       have h132 := tOw h132
       have h137 := tOw h137
       have h142 := tOw h142
       refine ⟨⟨_, rfl, congrArg (fun b => some (Value.bool b)) hc114⟩, ?_⟩
       refine OW.r [(32, .agg #[(cOf 0 (vs248 12)), (cOf 1 (vs248 12)), (cOf 2 (vs248 12))]), (36, .agg #[(vs248 13), (vs248 14), (vs248 15)])] ⟨rfl, rfl, trivial⟩ (OW.call Try.call24 rfl (dynposref15_Island_ok q144 (mk53 (x := y115) h125 h126 h127) (mk53 (x := (⟨([0] : List Int), ([0] : List Int), ([0] : List Int)⟩ : Island)) (h132.rv.sub (K' := [125, 126, 127]) rfl) (h137.rv.sub (K' := [125, 126, 127]) rfl) (h142.rv.sub (K' := [125, 126, 127]) rfl)))) ?_
       rintro _ w145 ⟨o149, hn_, rfl⟩
       obtain ⟨o146, ev147, hA148⟩ := adopt (o := o_) (ks := []) (Ks := [[113], [125, 126, 127]]) 128 ([]) [128] hn_ MbOk.nil rfl rfl rfl rfl
       exact ⟨o146, ev147.sub rfl rfl, rfl, trivial⟩
      ·intro vs248 o_ w_ hE 
       exact OW.q [(29, .bool ((((len y44) == 2)))), (37, .bool y143)] ⟨rfl, rfl, trivial⟩ (OW.pickT rfl hc114 rfl) (er rfl trivial)
      ·intro vs248 o_ w_ hE 
       exact ⟨⟨_, rfl, .inl (congrArg (fun b => some (Value.bool b)) hc156)⟩, rfl, trivial⟩
      ·intro vs248 o_ w_ hE 
       exact OW.q [(39, .bool y143), (40, undef)] ⟨rfl, rfl, trivial⟩ (OW.pickF rfl hc156 rfl) (er rfl trivial)
      ·intro vs248 o_ w_ hE 
       exact ⟨⟨_, rfl, .inl rfl⟩, rfl, trivial⟩
      ·intro vs248 o_ w_ hE 
       exact ⟨⟨_, rfl, .inl rfl⟩, rfl, trivial⟩
      ·intro vs248 o_ w_ hE 
       exact OW.q [(42, .bool false), (44, undef)] ⟨rfl, rfl, trivial⟩ (OW.pickF rfl rfl rfl) (er rfl trivial)
      ·intro vs248 o_ w_ hE 
       exact ⟨⟨_, rfl, .inl rfl⟩, rfl, trivial⟩
      ·intro vs248 o_ w_ hE 
       exact ⟨⟨_, rfl, .inl rfl⟩, rfl, trivial⟩
      ·intro vs248 o_ w_ hE 
       exact ⟨⟨_, rfl, .inl rfl⟩, rfl, trivial⟩
      ·intro vs248 o_ w_ hE 
       exact OW.q [(46, .bool false), (49, undef)] ⟨rfl, rfl, trivial⟩ (OW.pickF rfl rfl rfl) (er rfl trivial)
      ·intro vs248 o_ w_ hE 
       exact ⟨⟨_, rfl, .inl rfl⟩, rfl, trivial⟩
      ·intro vs248 o_ w_ hE 
       exact ⟨⟨_, rfl, .inl rfl⟩, rfl, trivial⟩
      ·intro vs248 o_ w_ hE 
       exact ⟨⟨_, rfl, .inl rfl⟩, rfl, trivial⟩
      ·intro vs248 o_ w_ hE 
       exact ⟨⟨_, rfl, .inl rfl⟩, rfl, trivial⟩
      ·intro vs248 o_ w_ hE 
       exact OW.q [(51, .bool false), (55, undef)] ⟨rfl, rfl, trivial⟩ (OW.pickF rfl rfl rfl) (er rfl trivial)
      ·intro vs248 o250 w249 hE h12 h17 h18 h51 h7 hb23 h89 h91 h93 hp117 he118 h125 h126 h127 h132 h137 h142
       obtain ⟨hE, evT_⟩ := hE
       have h12 : Ow 64 o250 101 [] w249 v8 (([(⟨2, 0, 5000, 0⟩ : Running), (⟨2, 0, 5000, 0⟩ : Running)] : List Running)) := h12
       have h17 : Ow 3 o250 102 [] w249 v13 ([60] : List Int) := h17
       have h18 : Ow 66 o250 103 [] w249 (.slice none 0 0) ([] : List Part) := h18
       have h51 : Ow 53 o250 114 [113] w249 (vs53 2) y44 := h51
       have h7 : Ow 4 o250 100 [] w249 v3 ([false, true, true, true] : List Bool) := h7
       have hb23 : Bk o250 104 w249 pa19 [v3, v8, v13, (.slice none 0 0)] := hb23
       have h89 : Ow 48 o250 121 [] w249 (cOf 1 (vs248 0)) y82.Breakers := h89
       have h91 : Ow 83 o250 122 [] w249 (cOf 2 (vs248 0)) y82.Sources := h91
       have h93 : Ow 85 o250 123 [120] w249 (cOf 3 (vs248 0)) y82.Consumers := h93
       have hp117 : PtrO o250 114 [113] w249 (pOf (vs248 11)) y115 := hp117
       have he118 : EPtr (vs53 2) 3 0 (pOf (vs248 11)) := he118
       have h125 : Rv (In o250 [113]) w249 (cOf 0 (vs248 12)) y115.Buses := h125
       have h126 : Rv (In o250 [113]) w249 (cOf 1 (vs248 12)) y115.Sources := h126
       have h127 : Rv (In o250 [113]) w249 (cOf 2 (vs248 12)) y115.Consumers := h127
       have h132 : Ow 3 o250 125 [] w249 (vs248 13) ([0] : List Int) := h132
       have h137 : Ow 3 o250 126 [] w249 (vs248 14) ([0] : List Int) := h137
       have h142 : Ow 3 o250 127 [] w249 (vs248 15) ([0] : List Int) := h142
       have e251 := Option.some.inj q151
       subst e251
       exact NK.sb (hJ154 w249 o250 hE) ⟨rfl, trivial⟩
    ·have q109 := iteF hc114 q109
     have ev_ := Evo.drew o80 w79
     refine CW.anyS (N := [120, 121, 122, 123, 124]) hmix [sOw none none [] 64 101 [] (vk v8) (([(⟨2, 0, 5000, 0⟩ : Running), (⟨2, 0, 5000, 0⟩ : Running)] : List Running)), sOw none none [] 3 102 [] (vk v13) ([60] : List Int), sOw none none [] 66 103 [] (vk (.slice none 0 0)) ([] : List Part), sOw none none [] 53 114 [113] (vk (vs53 2)) y44, sOw none none [] 4 100 [] (vk v3) ([false, true, true, true] : List Bool), sBk none none [] 104 (vk pa19) (vk ([v3, v8, v13, (.slice none 0 0)])), sOw (some 0) none [0] 48 121 [] (fun x_ => (cOf 1 (x_.getD 0 undef))) y82.Breakers, sOw (some 0) none [0] 83 122 [] (fun x_ => (cOf 2 (x_.getD 0 undef))) y82.Sources, sOw (some 0) none [0] 85 123 [120] (fun x_ => (cOf 3 (x_.getD 0 undef))) y82.Consumers] [⟨[], [], [], [0], fun x_ => .agg #[.int .i64 y82.Buses, (cOf 1 (x_.getD 0 undef)), (cOf 2 (x_.getD 0 undef)), (cOf 3 (x_.getD 0 undef)), .int .i64 y82.Phase, .int .i64 y82.Frequency], false⟩, ⟨[], [5], [], [], vk (.agg #[v3, v8, v13, (.slice none 0 0)]), false⟩, ⟨[], [0, 1, 2, 4, 6, 7, 8], [0, 1], [], vk (.int .i64 y95), false⟩, ⟨[], [], [0, 1, 2], [], vk (.bool (((y95 == 0)))), false⟩, ⟨[], [], rg 0 4, [], vk (.bool (((y95 == 0)))), false⟩, ⟨[], [], rg 0 5, [], vk (vs53 2), false⟩, ⟨[], [3], rg 0 6, [], vk (.int .i64 (len y44)), false⟩, ⟨[], [], rg 0 7, [], vk (.bool ((((len y44) == 2)))), false⟩, ⟨[], [], rg 0 8, [], vk (.bool ((((len y44) == 2)))), false⟩, ⟨[], [], rg 0 9, [], vk (.bool ((((len y44) == 2)))), false⟩, ⟨[], [], rg 0 10, [], vk undef, true⟩, ⟨[], [], rg 0 11, [], vk undef, true⟩, ⟨[], [], rg 0 12, [], vk undef, true⟩, ⟨[], [], rg 0 10, [], vk undef, true⟩, ⟨[], [], rg 0 10, [], vk undef, true⟩, ⟨[], [], rg 0 10, [], vk undef, true⟩, ⟨[], [], [0, 1, 2, 3, 4, 5, 6, 7, 8, 9, 13, 14, 15], [], vk undef, true⟩, ⟨[], [], rg 0 17, [], vk undef, true⟩, ⟨[], [], rg 0 18, [], vk (.bool false), false⟩, ⟨[], [], rg 0 19, [], vk (.bool false), false⟩, ⟨[], [], rg 0 20, [], vk undef, true⟩, ⟨[], [], rg 0 21, [], vk (.bool false), false⟩, ⟨[], [], rg 0 22, [], vk (.bool false), false⟩, ⟨[], [], rg 0 23, [], vk undef, true⟩, ⟨[], [], rg 0 24, [], vk undef, true⟩, ⟨[], [], rg 0 25, [], vk (.bool false), false⟩, ⟨[], [], rg 0 26, [], vk (.bool false), false⟩, ⟨[], [], rg 0 27, [], vk undef, true⟩, ⟨[], [], rg 0 27, [], vk undef, true⟩, ⟨[], [], rg 0 29, [], vk undef, true⟩, ⟨[], [], rg 0 30, [], vk (.bool false), false⟩, ⟨[], [], rg 0 31, [], vk (.bool false), false⟩, ⟨[], [], rg 0 32, [], vk undef, true⟩, ⟨[], [], rg 0 33, [], vk undef, true⟩, ⟨[], [], rg 0 32, [], vk undef, true⟩, ⟨[], [], rg 0 35, [], vk undef, true⟩, ⟨[], [], rg 0 36, [], vk (.bool false), false⟩, ⟨[], [], rg 0 37, [], vk (.bool false), false⟩] [] hE rfl (by kernel_rfl) (by kernel_rfl) ⟨h12.evo ev_ rfl, h17.evo ev_ rfl, h18.evo ev_ rfl, h51.evo ev_ rfl, h7.evo ev_ rfl, hb23.evo ev_ rfl, trivial⟩ ⟨?_, ?_, ?_, Ob.pv rfl rfl (fun _ => rfl) rfl (fun _ _ _ => trivial), Ob.pv rfl rfl (fun _ => rfl) rfl (fun _ _ _ => trivial), ?_, ?_, ?_, ?_, Ob.pv rfl rfl (fun _ => rfl) rfl (fun _ _ _ => trivial), ?_, ?_, ?_, ?_, ?_, ?_, ?_, ?_, ?_, Ob.pv rfl rfl (fun _ => rfl) rfl (fun _ _ _ => trivial), ?_, ?_, Ob.pv rfl rfl (fun _ => rfl) rfl (fun _ _ _ => trivial), ?_, ?_, ?_, Ob.pv rfl rfl (fun _ => rfl) rfl (fun _ _ _ => trivial), ?_, ?_, ?_, ?_, Ob.pv rfl rfl (fun _ => rfl) rfl (fun _ _ _ => trivial), ?_, ?_, ?_, ?_, ?_, Ob.pv rfl rfl (fun _ => rfl) rfl (fun _ _ _ => trivial), trivial⟩ ?_
     ·intro vs252 o_ w_ hE 
      refine OW.r [] trivial (OW.call Try.call56 rfl (dynposlaw15_two_ok q83)) ?_
      rintro _ w84 ⟨o88, u90, u92, u94, hn_, rfl, h89, h91, h93⟩
      obtain ⟨o85, ev86, hA87⟩ := adopt (o := o_) (ks := []) (Ks := []) 120 ([(101, 121), (102, 122), (103, 123)]) [120, 121, 122, 123] hn_ MbOk.nil rfl rfl rfl rfl
      have h89 := h89.ad (c' := 121) (K' := []) hA87 rfl rfl
      have h91 := h91.ad (c' := 122) (K' := []) hA87 rfl rfl
      have h93 := h93.ad (c' := 123) (K' := [120]) hA87 rfl rfl
      exact ⟨o85, ev86.sub rfl rfl, rfl, h89, h91, h93, trivial⟩
     ·intro vs252 o_ w_ hE hb23
      have hb23 := tBk hb23
      exact OW.q [(1, .pointer (some pa19))] ⟨rfl, trivial⟩ (OW.loadK0 Power (.agg #[v3, v8, v13, (.slice none 0 0)]) ty45 rfl hb23 rfl rfl) (er rfl trivial)
     ·intro vs252 o_ w_ hE h12 h17 h18 h7 h89 h91 h93
      have h12 := tOw h12
      have h17 := tOw h17
      have h18 := tOw h18
      have h7 := tOw h7
      have h89 := tOw h89
      have h91 := tOw h91
      have h93 := tOw h93
      refine OW.r [(20, .agg #[.int .i64 y82.Buses, (cOf 1 (vs252 0)), (cOf 2 (vs252 0)), (cOf 3 (vs252 0)), .int .i64 y82.Phase, .int .i64 y82.Frequency]), (21, .agg #[v3, v8, v13, (.slice none 0 0)])] ⟨rfl, rfl, trivial⟩ (OW.call Try.call36 rfl (board_State_ok q96 (mk39 (x := y82) (h89.rv.sub (K' := [120, 121, 122, 123]) rfl) (h91.rv.sub (K' := [120, 121, 122, 123]) rfl) (h93.rv.sub (K' := [120, 121, 122, 123]) rfl)) (mk45 (x := (⟨([false, true, true, true] : List Bool), ([(⟨2, 0, 5000, 0⟩ : Running), (⟨2, 0, 5000, 0⟩ : Running)] : List Running), ([60] : List Int), ([] : List Part)⟩ : Power)) (h7.rv.sub (K' := [100, 101, 102, 103]) rfl) (h12.rv.sub (K' := [100, 101, 102, 103]) rfl) (h17.rv.sub (K' := [100, 101, 102, 103]) rfl) (h18.rv.sub (K' := [100, 101, 102, 103]) rfl)))) ?_
      rintro _ w97 ⟨o101, hn_, rfl⟩
      obtain ⟨o98, ev99, hA100⟩ := adopt (o := o_) (ks := []) (Ks := [[120, 121, 122, 123], [100, 101, 102, 103]]) 124 ([]) [124] hn_ MbOk.nil rfl rfl rfl rfl
      exact ⟨o98, ev99.sub rfl rfl, rfl, trivial⟩
     ·intro vs252 o_ w_ hE 
      refine ⟨⟨_, rfl, congrArg (fun b => some (Value.bool b)) hc107⟩, ?_⟩
      exact OW.q [(2, (vs53 2))] ⟨rfl, trivial⟩ (OW.pv (v := (vs53 2)) rfl) (er rfl trivial)
     ·intro vs252 o_ w_ hE h51
      have h51 := tOw h51
      refine ⟨⟨_, rfl, congrArg (fun b => some (Value.bool b)) hc107⟩, ?_⟩
      exact OW.q [(25, (vs53 2))] ⟨rfl, trivial⟩ (OW.len Try.underlying49 rfl h51.rv) (er rfl trivial)
     ·intro vs252 o_ w_ hE 
      refine ⟨⟨_, rfl, congrArg (fun b => some (Value.bool b)) hc107⟩, ?_⟩
      exact OW.q [(26, .int .i64 (len y44))] ⟨rfl, trivial⟩ (OW.pv (v := (.bool ((((len y44) == 2))))) rfl) (er rfl trivial)
     ·intro vs252 o_ w_ hE 
      exact OW.q [(24, .bool (((y95 == 0)))), (27, .bool ((((len y44) == 2))))] ⟨rfl, rfl, trivial⟩ (OW.pickT rfl hc107 rfl) (er rfl trivial)
     ·intro vs252 o_ w_ hE 
      exact ⟨⟨_, rfl, .inl (congrArg (fun b => some (Value.bool b)) hc114)⟩, rfl, trivial⟩
     ·intro vs252 o_ w_ hE 
      exact ⟨⟨_, rfl, .inl (congrArg (fun b => some (Value.bool b)) hc114)⟩, rfl, trivial⟩
     ·intro vs252 o_ w_ hE 
      exact ⟨⟨_, rfl, .inl (congrArg (fun b => some (Value.bool b)) hc114)⟩, rfl, trivial⟩
     ·intro vs252 o_ w_ hE 
      exact ⟨⟨_, rfl, .inl (congrArg (fun b => some (Value.bool b)) hc114)⟩, rfl, trivial⟩
     ·intro vs252 o_ w_ hE 
      exact ⟨⟨_, rfl, .inl (congrArg (fun b => some (Value.bool b)) hc114)⟩, rfl, trivial⟩
     ·intro vs252 o_ w_ hE 
      exact ⟨⟨_, rfl, .inl (congrArg (fun b => some (Value.bool b)) hc114)⟩, rfl, trivial⟩
     ·intro vs252 o_ w_ hE 
      exact ⟨⟨_, rfl, .inl (congrArg (fun b => some (Value.bool b)) hc114)⟩, rfl, trivial⟩
     ·intro vs252 o_ w_ hE 
      exact ⟨⟨_, rfl, .inl (congrArg (fun b => some (Value.bool b)) hc114)⟩, rfl, trivial⟩
     ·intro vs252 o_ w_ hE 
      exact OW.q [(29, .bool ((((len y44) == 2)))), (37, undef)] ⟨rfl, rfl, trivial⟩ (OW.pickF rfl hc114 rfl) (er rfl trivial)
     ·intro vs252 o_ w_ hE 
      exact ⟨⟨_, rfl, .inl rfl⟩, rfl, trivial⟩
     ·intro vs252 o_ w_ hE 
      exact OW.q [(39, .bool false), (40, undef)] ⟨rfl, rfl, trivial⟩ (OW.pickF rfl rfl rfl) (er rfl trivial)
     ·intro vs252 o_ w_ hE 
      exact ⟨⟨_, rfl, .inl rfl⟩, rfl, trivial⟩
     ·intro vs252 o_ w_ hE 
      exact ⟨⟨_, rfl, .inl rfl⟩, rfl, trivial⟩
     ·intro vs252 o_ w_ hE 
      exact OW.q [(42, .bool false), (44, undef)] ⟨rfl, rfl, trivial⟩ (OW.pickF rfl rfl rfl) (er rfl trivial)
     ·intro vs252 o_ w_ hE 
      exact ⟨⟨_, rfl, .inl rfl⟩, rfl, trivial⟩
     ·intro vs252 o_ w_ hE 
      exact ⟨⟨_, rfl, .inl rfl⟩, rfl, trivial⟩
     ·intro vs252 o_ w_ hE 
      exact ⟨⟨_, rfl, .inl rfl⟩, rfl, trivial⟩
     ·intro vs252 o_ w_ hE 
      exact OW.q [(46, .bool false), (49, undef)] ⟨rfl, rfl, trivial⟩ (OW.pickF rfl rfl rfl) (er rfl trivial)
     ·intro vs252 o_ w_ hE 
      exact ⟨⟨_, rfl, .inl rfl⟩, rfl, trivial⟩
     ·intro vs252 o_ w_ hE 
      exact ⟨⟨_, rfl, .inl rfl⟩, rfl, trivial⟩
     ·intro vs252 o_ w_ hE 
      exact ⟨⟨_, rfl, .inl rfl⟩, rfl, trivial⟩
     ·intro vs252 o_ w_ hE 
      exact ⟨⟨_, rfl, .inl rfl⟩, rfl, trivial⟩
     ·intro vs252 o_ w_ hE 
      exact OW.q [(51, .bool false), (55, undef)] ⟨rfl, rfl, trivial⟩ (OW.pickF rfl rfl rfl) (er rfl trivial)
     ·intro vs252 o254 w253 hE h12 h17 h18 h51 h7 hb23 h89 h91 h93
      obtain ⟨hE, evT_⟩ := hE
      have h12 : Ow 64 o254 101 [] w253 v8 (([(⟨2, 0, 5000, 0⟩ : Running), (⟨2, 0, 5000, 0⟩ : Running)] : List Running)) := h12
      have h17 : Ow 3 o254 102 [] w253 v13 ([60] : List Int) := h17
      have h18 : Ow 66 o254 103 [] w253 (.slice none 0 0) ([] : List Part) := h18
      have h51 : Ow 53 o254 114 [113] w253 (vs53 2) y44 := h51
      have h7 : Ow 4 o254 100 [] w253 v3 ([false, true, true, true] : List Bool) := h7
      have hb23 : Bk o254 104 w253 pa19 [v3, v8, v13, (.slice none 0 0)] := hb23
      have h89 : Ow 48 o254 121 [] w253 (cOf 1 (vs252 0)) y82.Breakers := h89
      have h91 : Ow 83 o254 122 [] w253 (cOf 2 (vs252 0)) y82.Sources := h91
      have h93 : Ow 85 o254 123 [120] w253 (cOf 3 (vs252 0)) y82.Consumers := h93
      have e255 := Option.some.inj q109
      subst e255
      exact NK.sb (hJ112 w253 o254 hE) ⟨rfl, trivial⟩
   ·have q103 := iteF hc107 q103
    have ev_ := Evo.drew o80 w79
    refine CW.anyS (N := [120, 121, 122, 123, 124]) hmix [sOw none none [] 64 101 [] (vk v8) (([(⟨2, 0, 5000, 0⟩ : Running), (⟨2, 0, 5000, 0⟩ : Running)] : List Running)), sOw none none [] 3 102 [] (vk v13) ([60] : List Int), sOw none none [] 66 103 [] (vk (.slice none 0 0)) ([] : List Part), sOw none none [] 4 100 [] (vk v3) ([false, true, true, true] : List Bool), sBk none none [] 104 (vk pa19) (vk ([v3, v8, v13, (.slice none 0 0)])), sOw (some 0) none [0] 48 121 [] (fun x_ => (cOf 1 (x_.getD 0 undef))) y82.Breakers, sOw (some 0) none [0] 83 122 [] (fun x_ => (cOf 2 (x_.getD 0 undef))) y82.Sources, sOw (some 0) none [0] 85 123 [120] (fun x_ => (cOf 3 (x_.getD 0 undef))) y82.Consumers] [⟨[], [], [], [0], fun x_ => .agg #[.int .i64 y82.Buses, (cOf 1 (x_.getD 0 undef)), (cOf 2 (x_.getD 0 undef)), (cOf 3 (x_.getD 0 undef)), .int .i64 y82.Phase, .int .i64 y82.Frequency], false⟩, ⟨[], [4], [], [], vk (.agg #[v3, v8, v13, (.slice none 0 0)]), false⟩, ⟨[], [0, 1, 2, 3, 5, 6, 7], [0, 1], [], vk (.int .i64 y95), false⟩, ⟨[], [], [0, 1, 2], [], vk (.bool (((y95 == 0)))), false⟩, ⟨[], [], rg 0 4, [], vk (.bool (((y95 == 0)))), false⟩, ⟨[], [], rg 0 5, [], vk undef, true⟩, ⟨[], [], rg 0 6, [], vk undef, true⟩, ⟨[], [], rg 0 7, [], vk undef, true⟩, ⟨[], [], rg 0 8, [], vk (.bool false), false⟩, ⟨[], [], rg 0 9, [], vk (.bool false), false⟩, ⟨[], [], rg 0 10, [], vk undef, true⟩, ⟨[], [], rg 0 11, [], vk undef, true⟩, ⟨[], [], rg 0 12, [], vk undef, true⟩, ⟨[], [], rg 0 10, [], vk undef, true⟩, ⟨[], [], rg 0 10, [], vk undef, true⟩, ⟨[], [], rg 0 10, [], vk undef, true⟩, ⟨[], [], [0, 1, 2, 3, 4, 5, 6, 7, 8, 9, 13, 14, 15], [], vk undef, true⟩, ⟨[], [], rg 0 17, [], vk undef, true⟩, ⟨[], [], rg 0 18, [], vk (.bool false), false⟩, ⟨[], [], rg 0 19, [], vk (.bool false), false⟩, ⟨[], [], rg 0 20, [], vk undef, true⟩, ⟨[], [], rg 0 21, [], vk (.bool false), false⟩, ⟨[], [], rg 0 22, [], vk (.bool false), false⟩, ⟨[], [], rg 0 23, [], vk undef, true⟩, ⟨[], [], rg 0 24, [], vk undef, true⟩, ⟨[], [], rg 0 25, [], vk (.bool false), false⟩, ⟨[], [], rg 0 26, [], vk (.bool false), false⟩, ⟨[], [], rg 0 27, [], vk undef, true⟩, ⟨[], [], rg 0 27, [], vk undef, true⟩, ⟨[], [], rg 0 29, [], vk undef, true⟩, ⟨[], [], rg 0 30, [], vk (.bool false), false⟩, ⟨[], [], rg 0 31, [], vk (.bool false), false⟩, ⟨[], [], rg 0 32, [], vk undef, true⟩, ⟨[], [], rg 0 33, [], vk undef, true⟩, ⟨[], [], rg 0 32, [], vk undef, true⟩, ⟨[], [], rg 0 35, [], vk undef, true⟩, ⟨[], [], rg 0 36, [], vk (.bool false), false⟩, ⟨[], [], rg 0 37, [], vk (.bool false), false⟩] [] hE rfl (by kernel_rfl) (by kernel_rfl) ⟨h12.evo ev_ rfl, h17.evo ev_ rfl, h18.evo ev_ rfl, h7.evo ev_ rfl, hb23.evo ev_ rfl, trivial⟩ ⟨?_, ?_, ?_, Ob.pv rfl rfl (fun _ => rfl) rfl (fun _ _ _ => trivial), Ob.pv rfl rfl (fun _ => rfl) rfl (fun _ _ _ => trivial), ?_, ?_, ?_, ?_, Ob.pv rfl rfl (fun _ => rfl) rfl (fun _ _ _ => trivial), ?_, ?_, ?_, ?_, ?_, ?_, ?_, ?_, ?_, Ob.pv rfl rfl (fun _ => rfl) rfl (fun _ _ _ => trivial), ?_, ?_, Ob.pv rfl rfl (fun _ => rfl) rfl (fun _ _ _ => trivial), ?_, ?_, ?_, Ob.pv rfl rfl (fun _ => rfl) rfl (fun _ _ _ => trivial), ?_, ?_, ?_, ?_, Ob.pv rfl rfl (fun _ => rfl) rfl (fun _ _ _ => trivial), ?_, ?_, ?_, ?_, ?_, Ob.pv rfl rfl (fun _ => rfl) rfl (fun _ _ _ => trivial), trivial⟩ ?_
    ·intro vs256 o_ w_ hE 
     refine OW.r [] trivial (OW.call Try.call56 rfl (dynposlaw15_two_ok q83)) ?_
     rintro _ w84 ⟨o88, u90, u92, u94, hn_, rfl, h89, h91, h93⟩
     obtain ⟨o85, ev86, hA87⟩ := adopt (o := o_) (ks := []) (Ks := []) 120 ([(101, 121), (102, 122), (103, 123)]) [120, 121, 122, 123] hn_ MbOk.nil rfl rfl rfl rfl
     have h89 := h89.ad (c' := 121) (K' := []) hA87 rfl rfl
     have h91 := h91.ad (c' := 122) (K' := []) hA87 rfl rfl
     have h93 := h93.ad (c' := 123) (K' := [120]) hA87 rfl rfl
     exact ⟨o85, ev86.sub rfl rfl, rfl, h89, h91, h93, trivial⟩
    ·intro vs256 o_ w_ hE hb23
     have hb23 := tBk hb23
     exact OW.q [(1, .pointer (some pa19))] ⟨rfl, trivial⟩ (OW.loadK0 Power (.agg #[v3, v8, v13, (.slice none 0 0)]) ty45 rfl hb23 rfl rfl) (er rfl trivial)
    ·intro vs256 o_ w_ hE h12 h17 h18 h7 h89 h91 h93
     have h12 := tOw h12
     have h17 := tOw h17
     have h18 := tOw h18
     have h7 := tOw h7
     have h89 := tOw h89
     have h91 := tOw h91
     have h93 := tOw h93
     refine OW.r [(20, .agg #[.int .i64 y82.Buses, (cOf 1 (vs256 0)), (cOf 2 (vs256 0)), (cOf 3 (vs256 0)), .int .i64 y82.Phase, .int .i64 y82.Frequency]), (21, .agg #[v3, v8, v13, (.slice none 0 0)])] ⟨rfl, rfl, trivial⟩ (OW.call Try.call36 rfl (board_State_ok q96 (mk39 (x := y82) (h89.rv.sub (K' := [120, 121, 122, 123]) rfl) (h91.rv.sub (K' := [120, 121, 122, 123]) rfl) (h93.rv.sub (K' := [120, 121, 122, 123]) rfl)) (mk45 (x := (⟨([false, true, true, true] : List Bool), ([(⟨2, 0, 5000, 0⟩ : Running), (⟨2, 0, 5000, 0⟩ : Running)] : List Running), ([60] : List Int), ([] : List Part)⟩ : Power)) (h7.rv.sub (K' := [100, 101, 102, 103]) rfl) (h12.rv.sub (K' := [100, 101, 102, 103]) rfl) (h17.rv.sub (K' := [100, 101, 102, 103]) rfl) (h18.rv.sub (K' := [100, 101, 102, 103]) rfl)))) ?_
     rintro _ w97 ⟨o101, hn_, rfl⟩
     obtain ⟨o98, ev99, hA100⟩ := adopt (o := o_) (ks := []) (Ks := [[120, 121, 122, 123], [100, 101, 102, 103]]) 124 ([]) [124] hn_ MbOk.nil rfl rfl rfl rfl
     exact ⟨o98, ev99.sub rfl rfl, rfl, trivial⟩
    ·intro vs256 o_ w_ hE 
     exact ⟨⟨_, rfl, .inl (congrArg (fun b => some (Value.bool b)) hc107)⟩, rfl, trivial⟩
    ·intro vs256 o_ w_ hE 
     exact ⟨⟨_, rfl, .inl (congrArg (fun b => some (Value.bool b)) hc107)⟩, rfl, trivial⟩
    ·intro vs256 o_ w_ hE 
     exact ⟨⟨_, rfl, .inl (congrArg (fun b => some (Value.bool b)) hc107)⟩, rfl, trivial⟩
    ·intro vs256 o_ w_ hE 
     exact OW.q [(24, .bool (((y95 == 0)))), (27, undef)] ⟨rfl, rfl, trivial⟩ (OW.pickF rfl hc107 rfl) (er rfl trivial)
    ·intro vs256 o_ w_ hE 
     exact ⟨⟨_, rfl, .inl rfl⟩, rfl, trivial⟩
    ·intro vs256 o_ w_ hE 
     exact ⟨⟨_, rfl, .inl rfl⟩, rfl, trivial⟩
    ·intro vs256 o_ w_ hE 
     exact ⟨⟨_, rfl, .inl rfl⟩, rfl, trivial⟩
    ·intro vs256 o_ w_ hE 
     exact ⟨⟨_, rfl, .inl rfl⟩, rfl, trivial⟩
    ·intro vs256 o_ w_ hE 
     exact ⟨⟨_, rfl, .inl rfl⟩, rfl, trivial⟩
    ·intro vs256 o_ w_ hE 
     exact ⟨⟨_, rfl, .inl rfl⟩, rfl, trivial⟩
    ·intro vs256 o_ w_ hE 
     exact ⟨⟨_, rfl, .inl rfl⟩, rfl, trivial⟩
    ·intro vs256 o_ w_ hE 
     exact ⟨⟨_, rfl, .inl rfl⟩, rfl, trivial⟩
    ·intro vs256 o_ w_ hE 
     exact OW.q [(29, .bool false), (37, undef)] ⟨rfl, rfl, trivial⟩ (OW.pickF rfl rfl rfl) (er rfl trivial)
    ·intro vs256 o_ w_ hE 
     exact ⟨⟨_, rfl, .inl rfl⟩, rfl, trivial⟩
    ·intro vs256 o_ w_ hE 
     exact OW.q [(39, .bool false), (40, undef)] ⟨rfl, rfl, trivial⟩ (OW.pickF rfl rfl rfl) (er rfl trivial)
    ·intro vs256 o_ w_ hE 
     exact ⟨⟨_, rfl, .inl rfl⟩, rfl, trivial⟩
    ·intro vs256 o_ w_ hE 
     exact ⟨⟨_, rfl, .inl rfl⟩, rfl, trivial⟩
    ·intro vs256 o_ w_ hE 
     exact OW.q [(42, .bool false), (44, undef)] ⟨rfl, rfl, trivial⟩ (OW.pickF rfl rfl rfl) (er rfl trivial)
    ·intro vs256 o_ w_ hE 
     exact ⟨⟨_, rfl, .inl rfl⟩, rfl, trivial⟩
    ·intro vs256 o_ w_ hE 
     exact ⟨⟨_, rfl, .inl rfl⟩, rfl, trivial⟩
    ·intro vs256 o_ w_ hE 
     exact ⟨⟨_, rfl, .inl rfl⟩, rfl, trivial⟩
    ·intro vs256 o_ w_ hE 
     exact OW.q [(46, .bool false), (49, undef)] ⟨rfl, rfl, trivial⟩ (OW.pickF rfl rfl rfl) (er rfl trivial)
    ·intro vs256 o_ w_ hE 
     exact ⟨⟨_, rfl, .inl rfl⟩, rfl, trivial⟩
    ·intro vs256 o_ w_ hE 
     exact ⟨⟨_, rfl, .inl rfl⟩, rfl, trivial⟩
    ·intro vs256 o_ w_ hE 
     exact ⟨⟨_, rfl, .inl rfl⟩, rfl, trivial⟩
    ·intro vs256 o_ w_ hE 
     exact ⟨⟨_, rfl, .inl rfl⟩, rfl, trivial⟩
    ·intro vs256 o_ w_ hE 
     exact OW.q [(51, .bool false), (55, undef)] ⟨rfl, rfl, trivial⟩ (OW.pickF rfl rfl rfl) (er rfl trivial)
    ·intro vs256 o258 w257 hE h12 h17 h18 h7 hb23 h89 h91 h93
     obtain ⟨hE, evT_⟩ := hE
     have h12 : Ow 64 o258 101 [] w257 v8 (([(⟨2, 0, 5000, 0⟩ : Running), (⟨2, 0, 5000, 0⟩ : Running)] : List Running)) := h12
     have h17 : Ow 3 o258 102 [] w257 v13 ([60] : List Int) := h17
     have h18 : Ow 66 o258 103 [] w257 (.slice none 0 0) ([] : List Part) := h18
     have h7 : Ow 4 o258 100 [] w257 v3 ([false, true, true, true] : List Bool) := h7
     have hb23 : Bk o258 104 w257 pa19 [v3, v8, v13, (.slice none 0 0)] := hb23
     have h89 : Ow 48 o258 121 [] w257 (cOf 1 (vs256 0)) y82.Breakers := h89
     have h91 : Ow 83 o258 122 [] w257 (cOf 2 (vs256 0)) y82.Sources := h91
     have h93 : Ow 85 o258 123 [120] w257 (cOf 3 (vs256 0)) y82.Consumers := h93
     have h51 := h51.evo evT_ rfl
     have e259 := Option.some.inj q103
     subst e259
     exact NK.sb (hJ106 w257 o258 hE) ⟨rfl, trivial⟩

end Go.Proofs.Ytnpghnnlcakbfaa
