/- Walks. Written by a program (wip/gen). -/
import Derived.Test.YtdfkfohpgakihaaHw
import Derived.Test.YtdfkfohpgakihaaWk1
import Derived.Test.YtdfkfohpgakihaaWk7
import Derived.Test.YtdfkfohpgakihaaWk17
set_option linter.unusedVariables false
set_option linter.unusedSimpArgs false
namespace Go.Proofs.Ytdfkfohpgakihaa
open Go Go.RowKit Dp

set_option maxRecDepth 100000

set_option maxHeartbeats 1000000 in
theorem dynposlaw16_SyncTurns_ok {a0 : (List Int)} {a1 : U8} {r : Bool} (hF : dynposlaw16_SyncTurns a0 a1 = some r) {w0 : World} {p0 : Value} {S0 : Nat → Prop} (g0 : Rv S0 w0 p0 a0) :
    Calls Try.prog 4 #[p0, .int .u8 a1.n] w0 (Ret fun v w' => ∃ (oc : Cls), En w0 (entM w0 [] [S0]) oc w' ∧ v = .bool r) := by
 obtain ⟨e0, he0⟩ : ∃ e0, e0 = entM w0 [] [S0] := ⟨_, rfl⟩
 have hE := En.refl w0 e0
 have g0 := g0.argM he0 0 (K := [40]) rfl (nosep rfl) rfl
 rw [dynposlaw16_SyncTurns] at hF
 refine enter (l := [p0, .int .u8 a1.n]) Try.func4 rfl Try.ntmps4 rfl ?_
 refine CW.sub (L' := [(0, p0), (1, .int .u8 a1.n)]) ⟨rfl, rfl, trivial⟩ ?_
 refine CW.sr fun K1 hK1 => ?_
 refine WL.p (.bool false) rfl rfl ?_
 refine WL.nx hK1 ?_
 refine CW.sr fun K2 hK2 => ?_
 obtain ⟨⟨y3, y4⟩, q5, hF⟩ := bindE hF
 dsimp only at hF
 refine WL.step (OW.call Try.call18 rfl (dynposlaw16_pair_ok q5)) rfl ?_
 rintro _ w6 ⟨o10, u12, u14, u16, u18, u20, u22, u24, hn_, rfl, h11, h13, h15, h17, h19, h21, h23⟩
 obtain ⟨o7, ev8, hA9⟩ := adopt (o := e0) (ks := []) (Ks := []) 100 ([(101, 101), (102, 102), (103, 103), (106, 104), (107, 105), (108, 106), (109, 107)]) [100, 101, 102, 103, 104, 105, 106, 107] hn_ MbOk.nil rfl rfl rfl rfl
 have h11 := h11.ad (c' := 101) (K' := []) hA9 rfl rfl
 have h13 := h13.ad (c' := 102) (K' := []) hA9 rfl rfl
 have h15 := h15.ad (c' := 103) (K' := []) hA9 rfl rfl
 have h17 := h17.ad (c' := 104) (K' := []) hA9 rfl rfl
 have h19 := h19.ad (c' := 105) (K' := []) hA9 rfl rfl
 have h21 := h21.ad (c' := 106) (K' := []) hA9 rfl rfl
 have h23 := h23.ad (c' := 107) (K' := []) hA9 rfl rfl
 have hE := hE.evo ev8 rfl rfl
 refine WL.p (.tuple #[.agg #[.int .i64 y3.Buses, u12, u14, u16, .int .i64 y3.Phase, .int .i64 y3.Frequency], .agg #[u18, u20, u22, u24]]) rfl rfl ?_
 refine WL.p (.agg #[.int .i64 y3.Buses, u12, u14, u16, .int .i64 y3.Phase, .int .i64 y3.Frequency]) rfl rfl ?_
 refine WL.p (.agg #[u18, u20, u22, u24]) rfl rfl ?_
 refine WL.step (OW.allocK (o := o7) Board 108 [.int .i64 0, .slice none 0 0, .slice none 0 0, .slice none 0 0, .int .i64 0, .int .i64 0] ty29 rfl) rfl ?_
 rintro _ w27 ⟨pa25, o26, rfl, ev28, hb29⟩
 have hE := hE.evo ev28 rfl rfl
 have h11 := h11.evo ev28 rfl
 have h13 := h13.evo ev28 rfl
 have h15 := h15.evo ev28 rfl
 have h17 := h17.evo ev28 rfl
 have h19 := h19.evo ev28 rfl
 have h21 := h21.evo ev28 rfl
 have h23 := h23.evo ev28 rfl
 have h30 := Ow.nil (α := Breaker) 59 o26 109 [] w27
 have h31 := Ow.nil (α := Source) 76 o26 110 [] w27
 have h32 := Ow.nil (α := Consumer) 79 o26 111 [] w27
 refine WL.step (OW.allocK (o := o26) Power 112 [.slice none 0 0, .slice none 0 0, .slice none 0 0, .slice none 0 0] ty34 rfl) rfl ?_
 rintro _ w35 ⟨pa33, o34, rfl, ev36, hb37⟩
 have hE := hE.evo ev36 rfl rfl
 have h11 := h11.evo ev36 rfl
 have h13 := h13.evo ev36 rfl
 have h15 := h15.evo ev36 rfl
 have h17 := h17.evo ev36 rfl
 have h19 := h19.evo ev36 rfl
 have h21 := h21.evo ev36 rfl
 have h23 := h23.evo ev36 rfl
 have h30 := h30.evo ev36 rfl
 have h31 := h31.evo ev36 rfl
 have h32 := h32.evo ev36 rfl
 have hb29 := hb29.evo ev36 rfl
 have h38 := Ow.nil (α := Bool) 4 o34 113 [] w35
 have h39 := Ow.nil (α := Running) 48 o34 114 [] w35
 have h40 := Ow.nil (α := Int) 3 o34 115 [] w35
 have h41 := Ow.nil (α := Part) 65 o34 116 [] w35
 refine WL.step0 (OW.storeK0 Board [.int .i64 y3.Buses, u12, u14, u16, .int .i64 y3.Phase, .int .i64 y3.Frequency] [.int .i64 y3.Buses, u12, u14, u16, .int .i64 y3.Phase, .int .i64 y3.Frequency] ty29 rfl rfl hb29 rfl ⟨rfl, (h11.one), (h13.one), (h15.one), rfl, rfl, trivial⟩ rfl rfl rfl) ?_
 rintro _ w42 ⟨ev43, hb29⟩
 have hE := hE.evo ev43 rfl rfl
 have h11 := h11.evo ev43 rfl
 have h13 := h13.evo ev43 rfl
 have h15 := h15.evo ev43 rfl
 have h17 := h17.evo ev43 rfl
 have h19 := h19.evo ev43 rfl
 have h21 := h21.evo ev43 rfl
 have h23 := h23.evo ev43 rfl
 have h38 := h38.evo ev43 rfl
 have h39 := h39.evo ev43 rfl
 have h40 := h40.evo ev43 rfl
 have h41 := h41.evo ev43 rfl
 have hb37 := hb37.evo ev43 rfl
 refine WL.step0 (OW.storeK0 Power [u18, u20, u22, u24] [u18, u20, u22, u24] ty34 rfl rfl hb37 rfl ⟨(h17.one), (h19.one), (h21.one), (h23.one), trivial⟩ rfl rfl rfl) ?_
 rintro _ w44 ⟨ev45, hb37⟩
 have hE := hE.evo ev45 rfl rfl
 have h11 := h11.evo ev45 rfl
 have h13 := h13.evo ev45 rfl
 have h15 := h15.evo ev45 rfl
 have h17 := h17.evo ev45 rfl
 have h19 := h19.evo ev45 rfl
 have h21 := h21.evo ev45 rfl
 have h23 := h23.evo ev45 rfl
 have hb29 := hb29.evo ev45 rfl
 refine WL.nx hK2 ?_
 refine CW.sr fun K46 hK46 => ?_
 refine WL.p p0 rfl rfl ?_
 obtain ⟨y47, q48, hF⟩ := bindE hF
 refine WL.step (OW.call Try.call9 rfl (dynposmake_New_ok q48 (g0.baseM hE rfl))) rfl ?_
 rintro _ w49 ⟨hb53, sb, sv, rfl, hge_, hs_, h54⟩
 obtain ⟨o50, ev51, hn52⟩ := fresh_new (o := o34) 117 hb53
 have hE := hE.evo ev51 rfl rfl
 have h11 := h11.evo ev51 rfl
 have h13 := h13.evo ev51 rfl
 have h15 := h15.evo ev51 rfl
 have h17 := h17.evo ev51 rfl
 have h19 := h19.evo ev51 rfl
 have h21 := h21.evo ev51 rfl
 have h23 := h23.evo ev51 rfl
 have hb29 := hb29.evo ev51 rfl
 have hb37 := hb37.evo ev51 rfl
 have hs : SrcC o50 117 w49 sb sv y47 y47 := ⟨hs_, hn52 sb hge_⟩
 have h54 : Rv (In o50 [40]) w49 sv y47 := h54.old ev51
 refine WL.p (.pointer (some ⟨sb, 0, none⟩)) rfl rfl ?_
 refine WL.nx hK46 ?_
 refine CW.sr fun K55 hK55 => ?_
 refine WL.p (.pointer (some ⟨sb, 0, none⟩)) rfl rfl ?_
 have hm56 : MbOk o50 w49 0 [sb] [117] := ⟨.inl ⟨hs.1.lt, hs.2⟩, trivial⟩
 obtain ⟨⟨y57, st58⟩, q59, hF⟩ := bindE hF
 dsimp only at hF
 refine WL.step (OW.call Try.call19 rfl (Src_Range_ok q59 hs.1 h54 (hm56.sep rfl) (hm56.nodup rfl))) rfl ?_
 rintro _ w60 ⟨o64, hn_, rfl, hs⟩
 obtain ⟨o61, ev62, hA63⟩ := adopt (o := o50) (ks := [117]) (Ks := [[40]]) 118 ([]) [117, 118] hn_ hm56 rfl rfl rfl rfl
 have hs := hs.ad (c' := 117) hA63 rfl
 have hE := hE.evo ev62 rfl rfl
 have h11 := h11.evo ev62 rfl
 have h13 := h13.evo ev62 rfl
 have h15 := h15.evo ev62 rfl
 have h17 := h17.evo ev62 rfl
 have h19 := h19.evo ev62 rfl
 have h21 := h21.evo ev62 rfl
 have h23 := h23.evo ev62 rfl
 have h54 := h54.evo ev62 rfl
 have hb29 := hb29.evo ev62 rfl
 have hb37 := hb37.evo ev62 rfl
 refine WL.p (.pointer (some ⟨sb, 0, none⟩)) rfl rfl ?_
 have hm65 : MbOk o61 w60 0 [sb] [117] := ⟨.inl ⟨hs.1.lt, hs.2⟩, trivial⟩
 obtain ⟨⟨y66, st67⟩, q68, hF⟩ := bindE hF
 dsimp only at hF
 refine WL.step (OW.call Try.call19 rfl (Src_Range_ok q68 hs.1 h54 (hm65.sep rfl) (hm65.nodup rfl))) rfl ?_
 rintro _ w69 ⟨o73, hn_, rfl, hs⟩
 obtain ⟨o70, ev71, hA72⟩ := adopt (o := o61) (ks := [117]) (Ks := [[40]]) 119 ([]) [117, 119] hn_ hm65 rfl rfl rfl rfl
 have hs := hs.ad (c' := 117) hA72 rfl
 have hE := hE.evo ev71 rfl rfl
 have h11 := h11.evo ev71 rfl
 have h13 := h13.evo ev71 rfl
 have h15 := h15.evo ev71 rfl
 have h17 := h17.evo ev71 rfl
 have h19 := h19.evo ev71 rfl
 have h21 := h21.evo ev71 rfl
 have h23 := h23.evo ev71 rfl
 have h54 := h54.evo ev71 rfl
 have hb29 := hb29.evo ev71 rfl
 have hb37 := hb37.evo ev71 rfl
 refine WL.p (.int .i64 y57) rfl rfl ?_
 refine WL.p (.int .i64 y66) rfl rfl ?_
 refine WL.nx hK55 ?_
 refine CW.seq fun K74 hK74 => ?_
 obtain ⟨y75, q79, hF⟩ := bindE hF
 obtain ⟨y80, q83, hF⟩ := bindE hF
 obtain ⟨y85, q89, hF⟩ := bindE hF
 obtain ⟨y90, q93, hF⟩ := bindE hF
 have ev_ := Evo.drew o70 w69
 refine CW.anyS (N := [105]) hmix [sOw none (some 8) [] 48 105 [] (vk u20) y4.Sources, sBk none none [] 112 (vk pa33) (vk ([u18, u20, u22, u24])), sPo (some 6) (some 8) [6] 105 [] (vp 0) y75, sEp (some 6) none [6] (vk u20) 4 0 (vp 0), sOw (some 8) (some 11) [] 48 105 [] (vk u20) y80, sPo (some 9) (some 11) [9] 105 [] (vp 0) y85, sEp (some 9) none [9] (vk u20) 4 1 (vp 0), sOw (some 11) none [] 48 105 [] (vk u20) y90] [⟨[], [], [], [], vk (.pointer (some (pa33.add 1))), false⟩, ⟨[], [1], [0], [], vk u20, false⟩, ⟨[], [], [], [], vk (.pointer (some (pa33.add 1))), false⟩, ⟨[], [1], [2], [], vk u20, false⟩, ⟨[], [], [], [], vk (.int .i64 y57), false⟩, ⟨[], [], [], [], vk (.int .i64 y66), false⟩, ⟨[], [0], [0, 1, 4], [6], vq 0, false⟩, ⟨[], [], [0, 1, 4, 6], [6], fun x_ => .pointer (some ((pOf (x_.getD 0 undef)).add 2)), false⟩, ⟨[105], [0, 3], [0, 1, 4, 6, 7], [], vk undef, false⟩, ⟨[], [4], rg 0 9, [9], vq 0, false⟩, ⟨[], [], rg 0 10, [9], fun x_ => .pointer (some ((pOf (x_.getD 0 undef)).add 2)), false⟩, ⟨[105], [4, 6], rg 0 11, [], vk undef, false⟩] [105] hE rfl (by kernel_rfl) (by kernel_rfl) ⟨h19.evo ev_ rfl, hb37.evo ev_ rfl, trivial⟩ ⟨?_, ?_, ?_, ?_, Ob.pv rfl rfl (fun _ => rfl) rfl (fun _ _ _ => trivial), Ob.pv rfl rfl (fun _ => rfl) rfl (fun _ _ _ => trivial), ?_, ?_, ?_, ?_, ?_, ?_, trivial⟩ ?_
 ·intro vs95 o_ w_ hE 
  exact OW.q [(6, .pointer (some pa33))] ⟨rfl, trivial⟩ (OW.fldAddr (FldOk.at f34_1) rfl) (er rfl trivial)
 ·intro vs95 o_ w_ hE hb37
  have hb37 := tBk hb37
  exact OW.q [(26, .pointer (some (pa33.add 1)))] ⟨rfl, trivial⟩ (OW.loadK (off := 1) (List Running) (u20) ty31 rfl hb37 rfl rfl) (er rfl trivial)
 ·intro vs95 o_ w_ hE 
  exact OW.q [(6, .pointer (some pa33))] ⟨rfl, trivial⟩ (OW.fldAddr (FldOk.at f34_1) rfl) (er rfl trivial)
 ·intro vs95 o_ w_ hE hb37
  have hb37 := tBk hb37
  exact OW.q [(28, .pointer (some (pa33.add 1)))] ⟨rfl, trivial⟩ (OW.loadK (off := 1) (List Running) (u20) ty31 rfl hb37 rfl rfl) (er rfl trivial)
 ·intro vs95 o_ w_ hE h19
  have h19 := tOw h19
  refine OW.r [(27, u20)] ⟨rfl, trivial⟩ (OW.indexAddrO Try.underlying31 ty48 rfl h19 rfl q79) ?_
  rintro _ _ ⟨rfl, ⟨pa76, hv_, hp77, he78⟩⟩
  subst hv_
  exact ⟨_, Evo.refl _ _ _ _, rfl, hp77, he78, trivial⟩
 ·intro vs95 o_ w_ hE 
  exact OW.q [(32, .pointer (some (pOf (vs95 6))))] ⟨rfl, trivial⟩ (OW.fldAddr (FldOk.at f48_2) rfl) (er rfl trivial)
 ·intro vs95 o_ w_ hE h19 he78
  have h19 := tOw h19
  have he78 := tEp he78
  refine OW.r [(30, .int .i64 y57), (33, .pointer (some ((pOf (vs95 6)).add 2)))] ⟨rfl, rfl, trivial⟩ (OW.storeElemField ty3 f48_2 s48_2 rfl he78 h19 rfl (rv_int.2 rfl) q79 q83 rfl) ?_
  rintro _ w81 ⟨ev82, h84⟩
  exact ⟨o_, ev82.sub rfl rfl, trivial, h84, trivial⟩
 ·intro vs95 o_ w_ hE h84
  have h84 := tOw h84
  refine OW.r [(29, u20)] ⟨rfl, trivial⟩ (OW.indexAddrO Try.underlying31 ty48 rfl h84 rfl q89) ?_
  rintro _ _ ⟨rfl, ⟨pa86, hv_, hp87, he88⟩⟩
  subst hv_
  exact ⟨_, Evo.refl _ _ _ _, rfl, hp87, he88, trivial⟩
 ·intro vs95 o_ w_ hE 
  exact OW.q [(34, .pointer (some (pOf (vs95 9))))] ⟨rfl, trivial⟩ (OW.fldAddr (FldOk.at f48_2) rfl) (er rfl trivial)
 ·intro vs95 o_ w_ hE h84 he88
  have h84 := tOw h84
  have he88 := tEp he88
  refine OW.r [(31, .int .i64 y66), (35, .pointer (some ((pOf (vs95 9)).add 2)))] ⟨rfl, rfl, trivial⟩ (OW.storeElemField ty3 f48_2 s48_2 rfl he88 h84 rfl (rv_int.2 rfl) q89 q93 rfl) ?_
  rintro _ w91 ⟨ev92, h94⟩
  exact ⟨o_, ev92.sub rfl rfl, trivial, h94, trivial⟩
 ·intro vs95 o97 w96 hE hb37 he78 he88 h94
  obtain ⟨hE, evT_⟩ := hE
  have hb37 : Bk o97 112 w96 pa33 [u18, u20, u22, u24] := hb37
  have he78 : EPtr u20 4 0 (pOf (vs95 6)) := he78
  have he88 : EPtr u20 4 1 (pOf (vs95 9)) := he88
  have h94 : Ow 48 o97 105 [] w96 u20 y90 := h94
  have h11 := h11.evo evT_ rfl
  have h13 := h13.evo evT_ rfl
  have h15 := h15.evo evT_ rfl
  have h17 := h17.evo evT_ rfl
  have h21 := h21.evo evT_ rfl
  have h23 := h23.evo evT_ rfl
  have h54 := h54.evo evT_ rfl
  have hb29 := hb29.evo evT_ rfl
  have hs := hs.evo evT_ rfl
  refine hK74 _ _ ?_
  refine CW.sr fun K98 hK98 => ?_
  refine WL.stepE (OW.loadK0 Power (.agg #[u18, u20, u22, u24]) ty34 rfl hb37 rfl rfl) rfl ?_
  refine WL.step (OW.allocK (o := o97) Power 120 [.slice none 0 0, .slice none 0 0, .slice none 0 0, .slice none 0 0] ty34 rfl) rfl ?_
  rintro _ w101 ⟨pa99, o100, rfl, ev102, hb103⟩
  have hE := hE.evo ev102 rfl rfl
  have h11 := h11.evo ev102 rfl
  have h13 := h13.evo ev102 rfl
  have h15 := h15.evo ev102 rfl
  have h17 := h17.evo ev102 rfl
  have h21 := h21.evo ev102 rfl
  have h23 := h23.evo ev102 rfl
  have h54 := h54.evo ev102 rfl
  have h94 := h94.evo ev102 rfl
  have hb29 := hb29.evo ev102 rfl
  have hs := hs.evo ev102 rfl
  have h104 := Ow.nil (α := Bool) 4 o100 121 [] w101
  have h105 := Ow.nil (α := Running) 48 o100 122 [] w101
  have h106 := Ow.nil (α := Int) 3 o100 123 [] w101
  have h107 := Ow.nil (α := Part) 65 o100 124 [] w101
  refine WL.step0 (OW.storeK0 Power [u18, u20, u22, u24] [u18, u20, u22, u24] ty34 rfl rfl hb103 rfl ⟨(h17.one), (h94.one), (h21.one), (h23.one), trivial⟩ rfl rfl rfl) ?_
  rintro _ w108 ⟨ev109, hb103⟩
  have hE := hE.evo ev109 rfl rfl
  have h11 := h11.evo ev109 rfl
  have h13 := h13.evo ev109 rfl
  have h15 := h15.evo ev109 rfl
  have h17 := h17.evo ev109 rfl
  have h21 := h21.evo ev109 rfl
  have h23 := h23.evo ev109 rfl
  have h54 := h54.evo ev109 rfl
  have h94 := h94.evo ev109 rfl
  have hb29 := hb29.evo ev109 rfl
  have hs := hs.evo ev109 rfl
  refine WL.nx hK98 ?_
  refine CW.seq fun K110 hK110 => ?_
  refine CW.sr fun K111 hK111 => ?_
  refine WL.p (.int .i64 0) rfl rfl ?_
  refine WL.nx hK111 ?_
  refine CW.block ?_
  obtain ⟨r138, hl137, hF⟩ := bindE hF
  have hJ141 : ∀ (x125 : (List Bool)) (x128 : (List Running)) (x131 : (List Int)) (x134 : (List Part)) (w139 : World) (o140 : Cls) (v126 v129 v132 v135 : Value), .inl (x125, x128, x131, x134) = r138 → En w0 e0 o140 w139 → Rv (In o140 [104, 126]) w139 v126 x125 → Rv (In o140 [105, 127]) w139 v129 x128 → Rv (In o140 [106, 128]) w139 v132 x131 → Rv (In o140 [107, 129]) w139 v135 x134 → Rv (In o140 [40]) w139 sv y47 → Bk o140 120 w139 pa99 [v126, v129, v132, v135] → SrcC o140 117 w139 sb sv y47 st67 → NK 105 K110 [(1, .int .u8 a1.n), (8, .int .i64 y57), (9, .int .i64 y66), (10, .pointer (some pa99))] w139 := by
   intro x125 x128 x131 x134 w139 o140 v126 v129 v132 v135 e_ hE h127 h130 h133 h136 h54 hb103 hs
   subst e_
   have hF := elimL hF
   try dsimp only at hF
   refine hK110 _ _ ?_
   refine CW.sr fun K142 hK142 => ?_
   refine WL.p (.int .i64 y57) rfl rfl ?_
   refine WL.p (.int .i64 ((W (y57 - 5000)))) rfl rfl ?_
   refine WL.p (.int .i64 ((W ((36 : Int) * ((W (y57 - 5000))))))) rfl rfl ?_
   refine WL.p (.int .u8 a1.n) rfl rfl ?_
   obtain ⟨y143, q144, hF⟩ := bindE hF
   refine WL.stepE (OW.rem rfl rfl q144) rfl ?_
   refine WL.stepE (OW.conv ⟨_, Try.underlying5⟩ Try.underlying3 rfl) rfl ?_
   refine WL.p (.int .i64 ((W (((W ((36 : Int) * ((W (y57 - 5000)))))) * (W y143))))) rfl rfl ?_
   refine WL.p (.int .i64 ((W ((10 : Int) + ((W (((W ((36 : Int) * ((W (y57 - 5000)))))) * (W y143)))))))) rfl rfl ?_
   obtain ⟨y145, q146, hF⟩ := bindE hF
   refine WL.step (OW.call Try.call20 rfl (dynposref02_Norm_ok q146)) rfl ?_
   rintro _ w147 ⟨o151, hn_, rfl⟩
   obtain ⟨o148, ev149, hA150⟩ := adopt (o := o140) (ks := []) (Ks := []) 135 ([]) [135] hn_ MbOk.nil rfl rfl rfl rfl
   have hE := hE.evo ev149 rfl rfl
   have h127 := h127.evo ev149 rfl
   have h130 := h130.evo ev149 rfl
   have h133 := h133.evo ev149 rfl
   have h136 := h136.evo ev149 rfl
   have h54 := h54.evo ev149 rfl
   have hb103 := hb103.evo ev149 rfl
   have hs := hs.evo ev149 rfl
   refine WL.p (.int .i64 y145) rfl rfl ?_
   refine WL.nx hK142 ?_
   refine CW.sr fun K152 hK152 => ?_
   refine WL.p (.int .i64 y66) rfl rfl ?_
   refine WL.p (.int .i64 ((W (y66 - 5000)))) rfl rfl ?_
   refine WL.p (.int .i64 ((W ((36 : Int) * ((W (y66 - 5000))))))) rfl rfl ?_
   refine WL.p (.int .u8 a1.n) rfl rfl ?_
   obtain ⟨y153, q154, hF⟩ := bindE hF
   refine WL.stepE (OW.rem rfl rfl q154) rfl ?_
   refine WL.stepE (OW.conv ⟨_, Try.underlying5⟩ Try.underlying3 rfl) rfl ?_
   refine WL.p (.int .i64 ((W (((W ((36 : Int) * ((W (y66 - 5000)))))) * (W y153))))) rfl rfl ?_
   refine WL.p (.int .i64 ((W ((100 : Int) + ((W (((W ((36 : Int) * ((W (y66 - 5000)))))) * (W y153)))))))) rfl rfl ?_
   obtain ⟨y155, q156, hF⟩ := bindE hF
   refine WL.step (OW.call Try.call20 rfl (dynposref02_Norm_ok q156)) rfl ?_
   rintro _ w157 ⟨o161, hn_, rfl⟩
   obtain ⟨o158, ev159, hA160⟩ := adopt (o := o148) (ks := []) (Ks := []) 136 ([]) [136] hn_ MbOk.nil rfl rfl rfl rfl
   have hE := hE.evo ev159 rfl rfl
   have h127 := h127.evo ev159 rfl
   have h130 := h130.evo ev159 rfl
   have h133 := h133.evo ev159 rfl
   have h136 := h136.evo ev159 rfl
   have h54 := h54.evo ev159 rfl
   have hb103 := hb103.evo ev159 rfl
   have hs := hs.evo ev159 rfl
   refine WL.p (.int .i64 y155) rfl rfl ?_
   refine WL.nx hK152 ?_
   refine CW.sr fun K162 hK162 => ?_
   refine WL.stepE (OW.fldAddr (FldOk.at f34_1) rfl) rfl ?_
   refine WL.stepE (OW.loadK (off := 1) (List Running) (v129) ty31 rfl hb103 rfl rfl) rfl ?_
   obtain ⟨y163, q167, hF⟩ := bindE hF
   refine WL.stepP (OW.indexAddr Try.underlying31 ty48 rfl h130 rfl q167) rfl fun _ ⟨pa164, hv_, hp165, he166⟩ => ?_
   subst hv_
   refine WL.stepE (OW.fldAddr (FldOk.at f48_3) rfl) rfl ?_
   refine WL.stepE (OW.loadI ty3 rfl (hp165.fld f48_3)) rfl ?_
   refine WL.p (.int .i64 y145) rfl rfl ?_
   refine WL.p (.bool (((y163.Phase == y145)))) rfl rfl ?_
   refine WL.p (.bool (((y163.Phase == y145)))) rfl rfl ?_
   obtain ⟨x168, q169, hF⟩ := bindE hF
   have hJ172 : ∀ (w170 : World) (o171 : Cls), En w0 e0 o171 w170 → Rv (In o171 [40]) w170 sv y47 → SrcC o171 117 w170 sb sv y47 st67 → NK 105 K162 [(4, .bool x168)] w170 := by
    intro w170 o171  hE h54 hs
    refine hK162 _ _ ?_
    obtain rfl := Option.some.inj hF
    exact CW.rets (vs := [.bool x168]) Try.results4 ⟨rfl, trivial⟩ ⟨_, rfl, _, (hE.rn he0 100 [] rfl rfl), rfl⟩ (fun _ _ h => h)
   rcases Bool.eq_false_or_eq_true (((y163.Phase == y145))) with hc173 | hc173
   ·have q169 := iteT hc173 q169
    refine WL.stepGE rfl rfl rfl hc173 (OW.fldAddr (FldOk.at f34_1) rfl) rfl ?_
    refine WL.stepGE rfl rfl rfl hc173 (OW.loadK (off := 1) (List Running) (v129) ty31 rfl hb103 rfl rfl) rfl ?_
    obtain ⟨y174, q178, q169⟩ := bindE q169
    refine WL.stepGP rfl rfl rfl hc173 (OW.indexAddr Try.underlying31 ty48 rfl h130 rfl q178) rfl fun _ ⟨pa175, hv_, hp176, he177⟩ => ?_
    subst hv_
    refine WL.stepGE rfl rfl rfl hc173 (OW.fldAddr (FldOk.at f48_3) rfl) rfl ?_
    refine WL.stepGE rfl rfl rfl hc173 (OW.loadI ty3 rfl (hp176.fld f48_3)) rfl ?_
    refine WL.stepGE rfl rfl rfl hc173 (OW.pv (v := (.int .i64 y155)) rfl) rfl ?_
    refine WL.stepGE rfl rfl rfl hc173 (OW.pv (v := (.bool (((y174.Phase == y155))))) rfl) rfl ?_
    refine WL.stepE (OW.pickT rfl hc173 rfl) rfl ?_
    refine WL.p (.bool (((y174.Phase == y155)))) rfl rfl ?_
    obtain ⟨x179, q180, q169⟩ := bindE q169
    have hJ183 : ∀ (w181 : World) (o182 : Cls), En w0 e0 o182 w181 → Rv (In o182 [40]) w181 sv y47 → SrcC o182 117 w181 sb sv y47 st67 → NK 105 K162 [(4, .bool x179)] w181 := by
     intro w181 o182  hE h54 hs
     have e184 := Option.some.inj q169
     subst e184
     exact NK.sb (hJ172 w181 o182 hE h54 hs) ⟨rfl, trivial⟩
    rcases Bool.eq_false_or_eq_true (((y174.Phase == y155))) with hc185 | hc185
    ·have q180 := iteT hc185 q180
     refine WL.stepGE rfl rfl rfl hc185 (OW.fldAddr (FldOk.at f34_1) rfl) rfl ?_
     refine WL.stepGE rfl rfl rfl hc185 (OW.loadK (off := 1) (List Running) (v129) ty31 rfl hb103 rfl rfl) rfl ?_
     refine WL.stepGP rfl rfl rfl hc185 (OW.indexAddr Try.underlying31 ty48 rfl h130 rfl q167) rfl fun _ ⟨pa187, hv_, hp188, he189⟩ => ?_
     subst hv_
     refine WL.stepGE rfl rfl rfl hc185 (OW.fldAddr (FldOk.at f48_2) rfl) rfl ?_
     refine WL.stepGE rfl rfl rfl hc185 (OW.loadI ty3 rfl (hp188.fld f48_2)) rfl ?_
     refine WL.stepGE rfl rfl rfl hc185 (OW.pv (v := (.int .i64 y57)) rfl) rfl ?_
     refine WL.stepGE rfl rfl rfl hc185 (OW.pv (v := (.bool (((y163.Frequency == y57))))) rfl) rfl ?_
     refine WL.stepE (OW.pickT rfl hc185 rfl) rfl ?_
     refine WL.p (.bool (((y163.Frequency == y57)))) rfl rfl ?_
     obtain ⟨x190, q191, q180⟩ := bindE q180
     have hJ194 : ∀ (w192 : World) (o193 : Cls), En w0 e0 o193 w192 → Rv (In o193 [40]) w192 sv y47 → SrcC o193 117 w192 sb sv y47 st67 → NK 105 K162 [(4, .bool x190)] w192 := by
      intro w192 o193  hE h54 hs
      have e195 := Option.some.inj q180
      subst e195
      exact NK.sb (hJ183 w192 o193 hE h54 hs) ⟨rfl, trivial⟩
     rcases Bool.eq_false_or_eq_true (((y163.Frequency == y57))) with hc196 | hc196
     ·have q191 := iteT hc196 q191
      obtain ⟨y197, q198, q191⟩ := bindE q191
      refine WL.stepG rfl rfl rfl hc196 (OW.call Try.call17 rfl (dynposlaw16_sane_ok q198)) rfl ?_
      rintro _ w199 ⟨o203, hn_, rfl⟩
      obtain ⟨o200, ev201, hA202⟩ := adopt (o := o158) (ks := []) (Ks := []) 137 ([]) [137] hn_ MbOk.nil rfl rfl rfl rfl
      have hE := hE.evo ev201 rfl rfl
      have h54 := h54.evo ev201 rfl
      have hs := hs.evo ev201 rfl
      refine WL.stepE (OW.pickT rfl hc196 rfl) rfl ?_
      refine WL.p (.bool y197) rfl rfl ?_
      refine WL.nil ?_
      have e204 := Option.some.inj q191
      subst e204
      exact NK.sb (hJ194 w199 o200 hE h54 hs) ⟨rfl, trivial⟩
     ·have q191 := iteF hc196 q191
      refine WL.skipG rfl rfl rfl (by rw [hc196]; rfl) rfl ?_
      refine WL.stepE (OW.pickF rfl hc196 rfl) rfl ?_
      refine WL.p (.bool false) rfl rfl ?_
      refine WL.nil ?_
      have e205 := Option.some.inj q191
      subst e205
      exact NK.sb (hJ194 w157 o158 hE h54 hs) ⟨rfl, trivial⟩
    ·have q180 := iteF hc185 q180
     refine WL.skipG rfl rfl rfl (by rw [hc185]; rfl) rfl ?_
     refine WL.skipG rfl rfl rfl (by rw [hc185]; rfl) rfl ?_
     refine WL.skipG rfl rfl rfl (by rw [hc185]; rfl) rfl ?_
     refine WL.skipG rfl rfl rfl (by rw [hc185]; rfl) rfl ?_
     refine WL.skipG rfl rfl rfl (by rw [hc185]; rfl) rfl ?_
     refine WL.skipG rfl rfl rfl (by rw [hc185]; rfl) rfl ?_
     refine WL.skipG rfl rfl rfl (by rw [hc185]; rfl) rfl ?_
     refine WL.stepE (OW.pickF rfl hc185 rfl) rfl ?_
     refine WL.p (.bool false) rfl rfl ?_
     refine WL.skipG rfl rfl rfl rfl rfl ?_
     refine WL.stepE (OW.pickF rfl rfl rfl) rfl ?_
     refine WL.p (.bool false) rfl rfl ?_
     refine WL.nil ?_
     have e206 := Option.some.inj q180
     subst e206
     exact NK.sb (hJ183 w157 o158 hE h54 hs) ⟨rfl, trivial⟩
   ·have q169 := iteF hc173 q169
    refine WL.skipG rfl rfl rfl (by rw [hc173]; rfl) rfl ?_
    refine WL.skipG rfl rfl rfl (by rw [hc173]; rfl) rfl ?_
    refine WL.skipG rfl rfl rfl (by rw [hc173]; rfl) rfl ?_
    refine WL.skipG rfl rfl rfl (by rw [hc173]; rfl) rfl ?_
    refine WL.skipG rfl rfl rfl (by rw [hc173]; rfl) rfl ?_
    refine WL.skipG rfl rfl rfl (by rw [hc173]; rfl) rfl ?_
    refine WL.skipG rfl rfl rfl (by rw [hc173]; rfl) rfl ?_
    refine WL.stepE (OW.pickF rfl hc173 rfl) rfl ?_
    refine WL.p (.bool false) rfl rfl ?_
    refine WL.skipG rfl rfl rfl rfl rfl ?_
    refine WL.skipG rfl rfl rfl rfl rfl ?_
    refine WL.skipG rfl rfl rfl rfl rfl ?_
    refine WL.skipG rfl rfl rfl rfl rfl ?_
    refine WL.skipG rfl rfl rfl rfl rfl ?_
    refine WL.skipG rfl rfl rfl rfl rfl ?_
    refine WL.skipG rfl rfl rfl rfl rfl ?_
    refine WL.stepE (OW.pickF rfl rfl rfl) rfl ?_
    refine WL.p (.bool false) rfl rfl ?_
    refine WL.skipG rfl rfl rfl rfl rfl ?_
    refine WL.stepE (OW.pickF rfl rfl rfl) rfl ?_
    refine WL.p (.bool false) rfl rfl ?_
    refine WL.nil ?_
    have e207 := Option.some.inj q169
    subst e207
    exact NK.sb (hJ172 w157 o158 hE h54 hs) ⟨rfl, trivial⟩
  refine CW.sub (L' := [(1, .int .u8 a1.n), (5, .pointer (some pa25)), (8, .int .i64 y57), (9, .int .i64 y66), (10, .pointer (some pa99)), (11, .int .i64 0)]) ⟨rfl, rfl, rfl, rfl, rfl, rfl, trivial⟩ ?_
  refine CW.loop (dynposlaw16_SyncTurns_L1 a1 y3) (fun s_ L_ w208 => ∃ (o209 : Cls) (x112 : Int) (x113 : (List Bool)) (x116 : (List Running)) (x119 : (List Int)) (x122 : (List Part)) (v114 v117 v120 v123 : Value), (x112, x113, x116, x119, x122) = s_ ∧ L_ = [(1, .int .u8 a1.n), (5, .pointer (some pa25)), (8, .int .i64 y57), (9, .int .i64 y66), (10, .pointer (some pa99)), (11, .int .i64 x112)] ∧ En w0 e0 o209 w208 ∧ Ow 59 o209 101 [] w208 u12 y3.Breakers ∧ Rv (In o209 [104, 126]) w208 v114 x113 ∧ Rv (In o209 [105, 127]) w208 v117 x116 ∧ Rv (In o209 [106, 128]) w208 v120 x119 ∧ Rv (In o209 [107, 129]) w208 v123 x122 ∧ Ow 76 o209 102 [] w208 u14 y3.Sources ∧ Ow 79 o209 103 [] w208 u16 y3.Consumers ∧ Rv (In o209 [40]) w208 sv y47 ∧ Bk o209 108 w208 pa25 [.int .i64 y3.Buses, u12, u14, u16, .int .i64 y3.Phase, .int .i64 y3.Frequency] ∧ Bk o209 120 w208 pa99 [v114, v117, v120, v123] ∧ SrcC o209 117 w208 sb sv y47 st67) hl137 ?_ ?_
  ·exact ⟨o100, 0, y4.Closed, y90, y4.Limits, y4.Broken, u18, u20, u22, u24, rfl, rfl, hE, h11, (h17.rv.sub rfl), (h94.rv.sub rfl), (h21.rv.sub rfl), (h23.rv.sub rfl), h13, h15, h54, hb29, hb103, hs⟩
  intro K210 s_ L_ w208 hi_ x211 hx212 hr213 hk214
  obtain ⟨o209, x112, x113, x116, x119, x122, v114, v117, v120, v123, rfl, rfl, hE, h11, h115, h118, h121, h124, h13, h15, h54, hb29, hb103, hs⟩ := hi_
  rw [dynposlaw16_SyncTurns_L1] at hx212
  refine CW.seq fun K215 hK215 => ?_
  refine CW.sr fun K216 hK216 => ?_
  refine WL.p (.int .i64 x112) rfl rfl ?_
  refine WL.p (.int .u8 a1.n) rfl rfl ?_
  obtain ⟨y217, q218, hx212⟩ := bindE hx212
  refine WL.stepE (OW.rem rfl rfl q218) rfl ?_
  refine WL.stepE (OW.conv ⟨_, Try.underlying5⟩ Try.underlying3 rfl) rfl ?_
  refine WL.p (.bool ((decide (x112 < (W y217))))) rfl rfl ?_
  refine WL.nx hK216 ?_
  refine CW.cond (b := (decide (x112 < (W y217)))) rfl (fun hc219 => ?_) (fun hc219 => ?_)
  ·have hx212 := iteT hc219 hx212
   refine CW.skip ?_
   refine hK215 _ _ ?_
   refine CW.seq fun K220 hK220 => ?_
   refine CW.block ?_
   refine CW.sr fun K221 hK221 => ?_
   refine WL.stepE (OW.loadK0 Board (.agg #[.int .i64 y3.Buses, u12, u14, u16, .int .i64 y3.Phase, .int .i64 y3.Frequency]) ty29 rfl hb29 rfl rfl) rfl ?_
   refine WL.stepE (OW.loadK0 Power (.agg #[v114, v117, v120, v123]) ty34 rfl hb103 rfl rfl) rfl ?_
   obtain ⟨⟨y222, y223⟩, q224, hx212⟩ := bindE hx212
   dsimp only at hx212
   refine WL.step (OW.call Try.call12 rfl (sync_Turn_ok q224 (mk29 (x := y3) (h11.rv.sub (K' := [101, 102, 103]) rfl) (h13.rv.sub (K' := [101, 102, 103]) rfl) (h15.rv.sub (K' := [101, 102, 103]) rfl)) (mk34 (x := (⟨x113, x116, x119, x122⟩ : Power)) (h115.sub (K' := [104, 105, 106, 107, 126, 127, 128, 129]) rfl) (h118.sub (K' := [104, 105, 106, 107, 126, 127, 128, 129]) rfl) (h121.sub (K' := [104, 105, 106, 107, 126, 127, 128, 129]) rfl) (h124.sub (K' := [104, 105, 106, 107, 126, 127, 128, 129]) rfl)))) rfl ?_
   rintro _ w225 ⟨o229, u231, u233, u235, u237, hn_, rfl, h230, h232, h234, h236⟩
   obtain ⟨o226, ev227, hA228⟩ := adopt (o := o209) (ks := []) (Ks := [[101, 102, 103], [104, 105, 106, 107, 126, 127, 128, 129]]) 125 ([(100, 126), (101, 127), (102, 128), (103, 129)]) [125, 126, 127, 128, 129] hn_ MbOk.nil rfl rfl rfl rfl
   have h230 := h230.ad (c' := 126) (K' := []) hA228 rfl rfl
   have h232 := h232.ad (c' := 127) (K' := []) hA228 rfl rfl
   have h234 := h234.ad (c' := 128) (K' := []) hA228 rfl rfl
   have h236 := h236.ad (c' := 129) (K' := []) hA228 rfl rfl
   have hE := hE.evo ev227 rfl rfl
   have h11 := h11.evo ev227 rfl
   have h115 := h115.evo ev227 rfl
   have h118 := h118.evo ev227 rfl
   have h121 := h121.evo ev227 rfl
   have h124 := h124.evo ev227 rfl
   have h13 := h13.evo ev227 rfl
   have h15 := h15.evo ev227 rfl
   have h54 := h54.evo ev227 rfl
   have hb29 := hb29.evo ev227 rfl
   have hb103 := hb103.evo ev227 rfl
   have hs := hs.evo ev227 rfl
   refine WL.p (.tuple #[.agg #[u231, u233, u235, u237], .int .i64 y223]) rfl rfl ?_
   refine WL.p (.agg #[u231, u233, u235, u237]) rfl rfl ?_
   refine WL.p (.int .i64 y223) rfl rfl ?_
   refine WL.step (OW.allocK (o := o226) Power 130 [.slice none 0 0, .slice none 0 0, .slice none 0 0, .slice none 0 0] ty34 rfl) rfl ?_
   rintro _ w240 ⟨pa238, o239, rfl, ev241, hb242⟩
   have hE := hE.evo ev241 rfl rfl
   have h11 := h11.evo ev241 rfl
   have h115 := h115.evo ev241 rfl
   have h118 := h118.evo ev241 rfl
   have h121 := h121.evo ev241 rfl
   have h124 := h124.evo ev241 rfl
   have h13 := h13.evo ev241 rfl
   have h15 := h15.evo ev241 rfl
   have h230 := h230.evo ev241 rfl
   have h232 := h232.evo ev241 rfl
   have h234 := h234.evo ev241 rfl
   have h236 := h236.evo ev241 rfl
   have h54 := h54.evo ev241 rfl
   have hb29 := hb29.evo ev241 rfl
   have hb103 := hb103.evo ev241 rfl
   have hs := hs.evo ev241 rfl
   have h243 := Ow.nil (α := Bool) 4 o239 131 [] w240
   have h244 := Ow.nil (α := Running) 48 o239 132 [] w240
   have h245 := Ow.nil (α := Int) 3 o239 133 [] w240
   have h246 := Ow.nil (α := Part) 65 o239 134 [] w240
   refine WL.step0 (OW.storeK0 Power [u231, u233, u235, u237] [u231, u233, u235, u237] ty34 rfl rfl hb242 rfl ⟨(h230.one), (h232.one), (h234.one), (h236.one), trivial⟩ rfl rfl rfl) ?_
   rintro _ w247 ⟨ev248, hb242⟩
   have hE := hE.evo ev248 rfl rfl
   have h11 := h11.evo ev248 rfl
   have h115 := h115.evo ev248 rfl
   have h118 := h118.evo ev248 rfl
   have h121 := h121.evo ev248 rfl
   have h124 := h124.evo ev248 rfl
   have h13 := h13.evo ev248 rfl
   have h15 := h15.evo ev248 rfl
   have h230 := h230.evo ev248 rfl
   have h232 := h232.evo ev248 rfl
   have h234 := h234.evo ev248 rfl
   have h236 := h236.evo ev248 rfl
   have h54 := h54.evo ev248 rfl
   have hb29 := hb29.evo ev248 rfl
   have hb103 := hb103.evo ev248 rfl
   have hs := hs.evo ev248 rfl
   refine WL.p (.int .i64 y223) rfl rfl ?_
   refine WL.nx hK221 ?_
   refine CW.seq fun K249 hK249 => ?_
   refine CW.sr fun K250 hK250 => ?_
   refine WL.p (.int .i64 y223) rfl rfl ?_
   refine WL.p (.bool (((y223 != 0)))) rfl rfl ?_
   refine WL.p (.bool (((y223 != 0)))) rfl rfl ?_
   obtain ⟨x251, q252, hx212⟩ := bindE hx212
   have hJ255 : ∀ (w253 : World) (o254 : Cls), En w0 e0 o254 w253 → Ow 59 o254 101 [] w253 u12 y3.Breakers → Rv (In o254 [104, 126]) w253 v114 x113 → Rv (In o254 [105, 127]) w253 v117 x116 → Rv (In o254 [106, 128]) w253 v120 x119 → Rv (In o254 [107, 129]) w253 v123 x122 → Ow 76 o254 102 [] w253 u14 y3.Sources → Ow 79 o254 103 [] w253 u16 y3.Consumers → Ow 4 o254 126 [] w253 u231 y222.Closed → Ow 48 o254 127 [] w253 u233 y222.Sources → Ow 3 o254 128 [] w253 u235 y222.Limits → Ow 65 o254 129 [] w253 u237 y222.Broken → Rv (In o254 [40]) w253 sv y47 → Bk o254 130 w253 pa238 [u231, u233, u235, u237] → Bk o254 108 w253 pa25 [.int .i64 y3.Buses, u12, u14, u16, .int .i64 y3.Phase, .int .i64 y3.Frequency] → Bk o254 120 w253 pa99 [v114, v117, v120, v123] → SrcC o254 117 w253 sb sv y47 st67 → NK 105 K250 [(1, .int .u8 a1.n), (5, .pointer (some pa25)), (8, .int .i64 y57), (9, .int .i64 y66), (10, .pointer (some pa99)), (11, .int .i64 x112), (12, .pointer (some pa238)), (57, .bool x251)] w253 := by
    intro w253 o254  hE h11 h115 h118 h121 h124 h13 h15 h230 h232 h234 h236 h54 hb242 hb29 hb103 hs
    refine hK250 _ _ ?_
    refine CW.cond (b := x251) rfl (fun hc256 => ?_) (fun hc256 => ?_)
    ·have hx212 := iteT hc256 hx212
     refine CW.sr fun K257 hK257 => ?_
     refine WL.p (.bool false) rfl rfl ?_
     refine WL.nx hK257 ?_
     have e_ := hr213 _ (Option.some.inj hx212).symm
     subst e_
     have hF := elimR hF
     obtain rfl := Option.some.inj hF
     exact CW.rets (vs := [.bool false]) Try.results4 ⟨rfl, trivial⟩ ⟨_, rfl, _, (hE.rn he0 100 [] rfl rfl), rfl⟩ (fun _ _ h => h)
    ·have hx212 := iteF hc256 hx212
     refine CW.skip ?_
     refine hK249 _ _ ?_
     refine CW.region ?_
     refine WL.stepE (OW.loadK0 Power (.agg #[u231, u233, u235, u237]) ty34 rfl hb242 rfl rfl) rfl ?_
     refine WL.step0 (OW.storeK0 Power [u231, u233, u235, u237] [u231, u233, u235, u237] ty34 rfl rfl hb103 rfl ⟨(h230.one), (h232.one), (h234.one), (h236.one), trivial⟩ rfl rfl rfl) ?_
     rintro _ w258 ⟨ev259, hb103⟩
     have hE := hE.evo ev259 rfl rfl
     have h11 := h11.evo ev259 rfl
     have h13 := h13.evo ev259 rfl
     have h15 := h15.evo ev259 rfl
     have h230 := h230.evo ev259 rfl
     have h232 := h232.evo ev259 rfl
     have h234 := h234.evo ev259 rfl
     have h236 := h236.evo ev259 rfl
     have h54 := h54.evo ev259 rfl
     have hb29 := hb29.evo ev259 rfl
     have hs := hs.evo ev259 rfl
     refine WL.nil ?_
     refine hK220 _ _ ?_
     refine CW.region ?_
     refine WL.p (.int .i64 x112) rfl rfl ?_
     refine WL.p (.int .i64 ((W (x112 + 1)))) rfl rfl ?_
     refine WL.p (.int .i64 ((W (x112 + 1)))) rfl rfl ?_
     refine WL.nil ?_
     exact NK.sb (hk214 _ _ _ (Option.some.inj hx212).symm ⟨o254, (W (x112 + 1)), y222.Closed, y222.Sources, y222.Limits, y222.Broken, u231, u233, u235, u237, rfl, rfl, hE, h11, (h230.rv.sub rfl), (h232.rv.sub rfl), (h234.rv.sub rfl), (h236.rv.sub rfl), h13, h15, h54, hb29, hb103, hs⟩) ⟨rfl, rfl, rfl, rfl, rfl, rfl, trivial⟩
   rcases Bool.eq_false_or_eq_true (((y223 != 0))) with hc260 | hc260
   ·have q252 := iteT hc260 q252
    refine WL.skipG rfl rfl rfl (by rw [hc260]; rfl) rfl ?_
    refine WL.skipG rfl rfl rfl (by rw [hc260]; rfl) rfl ?_
    refine WL.skipG rfl rfl rfl (by rw [hc260]; rfl) rfl ?_
    refine WL.skipG rfl rfl rfl (by rw [hc260]; rfl) rfl ?_
    refine WL.stepE (OW.pickT rfl hc260 rfl) rfl ?_
    refine WL.nil ?_
    have e261 := Option.some.inj q252
    subst e261
    exact NK.sb (hJ255 w247 o239 hE h11 h115 h118 h121 h124 h13 h15 h230 h232 h234 h236 h54 hb242 hb29 hb103 hs) ⟨rfl, rfl, rfl, rfl, rfl, rfl, rfl, rfl, trivial⟩
   ·have q252 := iteF hc260 q252
    refine WL.stepGE rfl rfl rfl hc260 (OW.fldAddr (FldOk.at f34_1) rfl) rfl ?_
    refine WL.stepGE rfl rfl rfl hc260 (OW.loadK (off := 1) (List Running) (u233) ty31 rfl hb242 rfl rfl) rfl ?_
    refine WL.stepGE rfl rfl rfl hc260 (OW.len Try.underlying31 rfl h232.rv) rfl ?_
    refine WL.stepGE rfl rfl rfl hc260 (OW.pv (v := (.bool ((((len y222.Sources) != 2))))) rfl) rfl ?_
    refine WL.stepE (OW.pickF rfl hc260 rfl) rfl ?_
    refine WL.nil ?_
    have e262 := Option.some.inj q252
    subst e262
    exact NK.sb (hJ255 w247 o239 hE h11 h115 h118 h121 h124 h13 h15 h230 h232 h234 h236 h54 hb242 hb29 hb103 hs) ⟨rfl, rfl, rfl, rfl, rfl, rfl, rfl, rfl, trivial⟩
  ·have hx212 := iteF hc219 hx212
   refine CW.exit ?_
   exact NK.sb (hJ141 x113 x116 x119 x122 w208 o209 v114 v117 v120 v123 (hr213 _ (Option.some.inj hx212).symm) hE h115 h118 h121 h124 h54 hb103 hs) ⟨rfl, rfl, rfl, rfl, trivial⟩

end Go.Proofs.Ytdfkfohpgakihaa
