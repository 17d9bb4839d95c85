/- The plain functions. Written by a program (wip/gen). -/
import Derived.Test.YtnpghnnlcakbfaaHp
set_option linter.unusedVariables false
set_option linter.unusedSimpArgs false
namespace Go.Proofs.Ytnpghnnlcakbfaa
open Go Go.RowKit Dp

noncomputable def dynposmake_Mod (a0 : Int) (a1 : Int) : Option Int :=
    if ((decide (a1 < 1))) = true then
    some 0
    else
    (remO a0 a1).bind fun y7 =>
    (remO ((W (y7 + a1))) a1).bind fun y9 =>
    some y9

noncomputable def Src_Range (st0 : List Int) (a1 : Int) (a2 : Int) : Option (Int × List Int) :=
    (Src_N st0 ((W (((W (a2 - a1))) + 1)))).bind fun p_ => match p_ with
    | (y4, st5) =>
    some (((W (a1 + y4)), st5))

noncomputable def Src_Pick (st0 : List Int) (a1 : (List Int)) : Option (Int × List Int) :=
    (Src_N st0 (len a1)).bind fun p_ => match p_ with
    | (y4, st5) =>
    (idx a1 y4).bind fun y12 =>
    some (y12, st5)

noncomputable def Src_Board_L3 (y12 : Int) : (Int × (List Breaker) × (List Consumer) × List Int) → Option ((Int × (List Breaker) × (List Consumer) × List Int) ⊕ ((List Breaker) × (List Consumer) × List Int))
  | (x134, x135, x138, st141) =>
    if ((decide (x134 > 0))) = true then
    (Src_N st141 y12).bind fun p_ => match p_ with
    | (y171, st172) =>
    (app x135 (([(⟨3, y171, len x138⟩ : Breaker)] : List Breaker))).bind fun y185 =>
    (if ((decide (y12 > 1))) = true then
    (Src_N st172 4).bind fun p_ => match p_ with
    | (y362, st363) =>
    some ((((y362 == 3)), st363))
    else
    some (false, st172) : Option (Bool × List Int)).bind fun p_ => match p_ with
    | (x196, st197) =>
    (if x196 = true then
    (remO ((W (y171 + 1))) y12).bind fun y338 =>
    (app y185 (([(⟨3, y338, len x138⟩ : Breaker)] : List Breaker))).bind fun y345 =>
    some y345
    else
    some y185 : Option (List Breaker)).bind fun x202 =>
    (Src_Pick st197 ([0, 5, 20, 40] : List Int)).bind fun p_ => match p_ with
    | (y216, st217) =>
    (quoO y216 2).bind fun y225 =>
    (Src_Pick st217 ([0, y225, y216] : List Int)).bind fun p_ => match p_ with
    | (y233, st234) =>
    (Src_N st234 3).bind fun p_ => match p_ with
    | (y242, st243) =>
    (Src_Range st243 (-1) 2).bind fun p_ => match p_ with
    | (y251, st252) =>
    (if ((decide ((len x138) > 0))) = true then
    (Src_N st252 4).bind fun p_ => match p_ with
    | (y323, st324) =>
    some ((((y323 == 3)), st324))
    else
    some (false, st252) : Option (Bool × List Int)).bind fun p_ => match p_ with
    | (x270, st271) =>
    (if x270 = true then
    (Src_N st271 (len x138)).bind fun p_ => match p_ with
    | (y300, st301) =>
    some ((([y300] : List Int), st301))
    else
    some ((([] : List Int), st271)) : Option ((List Int) × List Int)).bind fun p_ => match p_ with
    | (x276, st279) =>
    (app x138 (([(⟨y216, y233, y242, y251, x276⟩ : Consumer)] : List Consumer))).bind fun y289 =>
    some (.inl (((W (x134 - 1)), x202, y289, st279)))
    else
    some (.inr (x135, x138, st141))
noncomputable def Src_Board_L2 (y12 : Int) : (Int × (List Breaker) × (List Source) × List Int) → Option ((Int × (List Breaker) × (List Source) × List Int) ⊕ ((List Breaker) × (List Source) × List Int))
  | (x103, x104, x107, st110) =>
    if ((decide (x103 > 0))) = true then
    (Src_N st110 y12).bind fun p_ => match p_ with
    | (y389, st390) =>
    (app x104 (([(⟨2, y389, len x107⟩ : Breaker)] : List Breaker))).bind fun y403 =>
    (Src_Pick st390 ([10, 50, 100] : List Int)).bind fun p_ => match p_ with
    | (y423, st424) =>
    (Src_Pick st424 ([0, 5, y423] : List Int)).bind fun p_ => match p_ with
    | (y437, st438) =>
    (Src_Pick st438 ([0, 1, 3] : List Int)).bind fun p_ => match p_ with
    | (y452, st453) =>
    (app x107 (([(⟨y423, y437, y452⟩ : Source)] : List Source))).bind fun y466 =>
    some (.inl (((W (x103 - 1)), y403, y466, st453)))
    else
    some (.inr (x104, x107, st110))
noncomputable def Src_Board_L1 (y12 : Int) : (Int × (List Breaker) × List Int) → Option ((Int × (List Breaker) × List Int) ⊕ ((List Breaker) × List Int))
  | (x63, x64, st67) =>
    if ((decide (x63 < y12))) = true then
    (Src_N st67 6).bind fun p_ => match p_ with
    | (y525, st526) =>
    (if ((decide (y525 < 5))) = true then
    (Src_N st526 x63).bind fun p_ => match p_ with
    | (y543, st544) =>
    (app x64 (([(⟨1, y543, x63⟩ : Breaker)] : List Breaker))).bind fun y557 =>
    some (y557, st544)
    else
    some (x64, st526) : Option ((List Breaker) × List Int)).bind fun p_ => match p_ with
    | (x533, st536) =>
    some (.inl (((W (x63 + 1)), x533, st536)))
    else
    some (.inr (x64, st67))
noncomputable def Src_Board (st0 : List Int) : Option (Board × List Int) :=
    (Src_Range st0 1 4).bind fun p_ => match p_ with
    | (y12, st13) =>
    (Src_Pick st13 ([0, 50, 200, 1800] : List Int)).bind fun p_ => match p_ with
    | (y26, st27) =>
    (Src_Pick st27 ([0, 10, 50] : List Int)).bind fun p_ => match p_ with
    | (y40, st41) =>
    (loopR (Src_Board_L1 y12) ((1, ([] : List Breaker), st41))).bind fun p_ => match p_ with
    | (x68, st71) =>
    (if ((decide (y12 > 2))) = true then
    (Src_N st71 2).bind fun p_ => match p_ with
    | (y498, st499) =>
    some ((((y498 == 1)), st499))
    else
    some (false, st71) : Option (Bool × List Int)).bind fun p_ => match p_ with
    | (x79, st80) =>
    (if x79 = true then
    (app x68 (([(⟨1, 0, (W (y12 - 1))⟩ : Breaker)] : List Breaker))).bind fun y485 =>
    some y485
    else
    some x68 : Option (List Breaker)).bind fun x85 =>
    (Src_N st80 5).bind fun p_ => match p_ with
    | (y95, st96) =>
    (loopR (Src_Board_L2 y12) ((y95, x85, ([] : List Source), st96))).bind fun p_ => match p_ with
    | (x111, x114, st117) =>
    (Src_N st117 6).bind fun p_ => match p_ with
    | (y126, st127) =>
    (loopR (Src_Board_L3 y12) ((y126, x111, ([] : List Consumer), st127))).bind fun p_ => match p_ with
    | (x142, x145, st148) =>
    some (((⟨y12, x142, x114, x145, y26, y40⟩ : Board), st148))

noncomputable def dynposref15_within (a0 : Int) (a1 : Int) (a2 : Int) : Option Bool :=
    (if ((decide (a0 ≥ a1))) = true then
    some (((decide (a0 ≤ a2))))
    else
    some false : Option Bool).bind fun x3 =>
    some x3

noncomputable def dynposref15_Exists (a0 : Board) (a1 : Part) : Option Bool :=
    if (((a1.Kind == 1))) = true then
    (dynposref15_within a1.Number 0 ((W ((len a0.Sources) - 1)))).bind fun y23 =>
    some y23
    else
    if (((a1.Kind == 2))) = true then
    (dynposref15_within a1.Number 0 ((W ((len a0.Breakers) - 1)))).bind fun y33 =>
    some y33
    else
    if (((a1.Kind == 3))) = true then
    (dynposref15_within a1.Number 0 ((W (a0.Buses - 1)))).bind fun y43 =>
    some y43
    else
    if (((a1.Kind == 4))) = true then
    (dynposref15_within a1.Number 0 ((W ((len a0.Consumers) - 1)))).bind fun y53 =>
    some y53
    else
    some false

noncomputable def Src_Power_L5 (a1 : Board) : (Int × (List Part) × List Int) → Option ((Int × (List Part) × List Int) ⊕ ((List Part) × List Int))
  | (x96, x97, st100) =>
    if ((decide (x96 ≤ 4))) = true then
    (Src_N st100 5).bind fun p_ => match p_ with
    | (y126, st127) =>
    (if (((y126 == 4))) = true then
    (Src_N st127 4).bind fun p_ => match p_ with
    | (y145, st146) =>
    (dynposref15_Exists a1 (⟨x96, y145⟩ : Part)).bind fun y161 =>
    (if y161 = true then
    (app x97 (([(⟨x96, y145⟩ : Part)] : List Part))).bind fun y184 =>
    some y184
    else
    some x97 : Option (List Part)).bind fun x168 =>
    some (x168, st146)
    else
    some (x97, st127) : Option ((List Part) × List Int)).bind fun p_ => match p_ with
    | (x134, st137) =>
    some (.inl (((W (x96 + 1)), x134, st137)))
    else
    some (.inr (x97, st100))
noncomputable def Src_Power_L4 (a1 : Board) : (Int × (List Int) × List Int) → Option ((Int × (List Int) × List Int) ⊕ ((List Int) × List Int))
  | (x80, x81, st84) =>
    if ((decide (x80 < (len a1.Consumers)))) = true then
    (idx a1.Consumers x80).bind fun y210 =>
    (quoO y210.Load 3).bind fun y227 =>
    (Src_Pick st84 ([y210.Load, y210.Load, y210.Least, y227] : List Int)).bind fun p_ => match p_ with
    | (y235, st236) =>
    (app x81 ([y235] : List Int)).bind fun y249 =>
    some (.inl (((W (x80 + 1)), y249, st236)))
    else
    some (.inr (x81, st84))
noncomputable def Src_Power_L3 (a1 : Board) : (Int × (List Running) × List Int) → Option ((Int × (List Running) × List Int) ⊕ ((List Running) × List Int))
  | (x64, x65, st68) =>
    if ((decide (x64 < (len a1.Sources)))) = true then
    (Src_Pick st68 ([0, 1, 2, 2, 2, 3] : List Int)).bind fun p_ => match p_ with
    | (y279, st280) =>
    (Src_N st280 5).bind fun p_ => match p_ with
    | (y289, st290) =>
    (Src_Pick st290 ([5000, 5000, 5005, 4950] : List Int)).bind fun p_ => match p_ with
    | (y304, st305) =>
    (Src_Pick st305 ([0, 0, 40, 1800, 3590] : List Int)).bind fun p_ => match p_ with
    | (y319, st320) =>
    (app x65 (([(⟨y279, y289, y304, y319⟩ : Running)] : List Running))).bind fun y333 =>
    some (.inl (((W (x64 + 1)), y333, st320)))
    else
    some (.inr (x65, st68))
noncomputable def Src_Power_L6 (a1 : Board) (x50 : Int) : (Bool × Int × (List Bool)) → Option ((Bool × Int × (List Bool)) ⊕ (List Bool))
  | (x360, x361, x362) =>
    if ((decide (x361 < (len a1.Breakers)))) = true then
    (idx a1.Breakers x361).bind fun y385 =>
    (if (((y385.Kind == 3))) = true then
    (if (((y385.B == x50))) = true then
    (idx x362 x361).bind fun y439 =>
    some y439
    else
    some false : Option Bool).bind fun x432 =>
    some x432
    else
    some false : Option Bool).bind fun x400 =>
    (if x400 = true then
    (idx x362 x361).bind fun y415 =>
    (setO x362 x361 x360).bind fun y420 =>
    some (false, y420)
    else
    some (x360, x362) : Option (Bool × (List Bool))).bind fun p_ => match p_ with
    | (x405, x406) =>
    some (.inl ((x405, (W (x361 + 1)), x406)))
    else
    some (.inr x362)
noncomputable def Src_Power_L2 (a1 : Board) : (Int × (List Bool)) → Option ((Int × (List Bool)) ⊕ (List Bool))
  | (x50, x51) =>
    if ((decide (x50 < (len a1.Consumers)))) = true then
    (loopR (Src_Power_L6 a1 x50) (true, 0, x51)).bind fun x365 =>
    some (.inl (((W (x50 + 1)), x365)))
    else
    some (.inr x51)
noncomputable def Src_Power_L1 (a1 : Board) : (Int × (List Bool) × List Int) → Option ((Int × (List Bool) × List Int) ⊕ ((List Bool) × List Int))
  | (x34, x35, st38) =>
    if ((decide (x34 < (len a1.Breakers)))) = true then
    (Src_N st38 2).bind fun p_ => match p_ with
    | (y459, st460) =>
    (app x35 (([((y459 == 1))] : List Bool))).bind fun y473 =>
    some (.inl (((W (x34 + 1)), y473, st460)))
    else
    some (.inr (x35, st38))
noncomputable def Src_Power (st0 : List Int) (a1 : Board) : Option (Power × List Int) :=
    (loopR (Src_Power_L1 a1) ((0, ([] : List Bool), st0))).bind fun p_ => match p_ with
    | (x39, st42) =>
    (loopR (Src_Power_L2 a1) (0, x39)).bind fun x54 =>
    (loopR (Src_Power_L3 a1) ((0, ([] : List Running), st42))).bind fun p_ => match p_ with
    | (x69, st72) =>
    (loopR (Src_Power_L4 a1) ((0, ([] : List Int), st72))).bind fun p_ => match p_ with
    | (x85, st88) =>
    (loopR (Src_Power_L5 a1) ((1, ([] : List Part), st88))).bind fun p_ => match p_ with
    | (x101, st104) =>
    some (((⟨x54, x69, x85, x101⟩ : Power), st104))

noncomputable def board_in (a0 : Int) (a1 : Int) (a2 : Int) : Option Bool :=
    (if ((decide (a0 ≥ a1))) = true then
    some (((decide (a0 ≤ a2))))
    else
    some false : Option Bool).bind fun x3 =>
    some x3

noncomputable def slices_Index_int_int_L1 (a0 : (List Int)) (a1 : Int) : Int → Option (Int ⊕ (Unit ⊕ Int))
  | x4 =>
    if ((decide (x4 < (len a0)))) = true then
    (idx a0 x4).bind fun y24 =>
    if (((a1 == y24))) = true then
    some (.inr (.inr x4))
    else
    some (.inl ((W (x4 + 1))))
    else
    some (.inr (.inl ()))
noncomputable def slices_Index_int_int (a0 : (List Int)) (a1 : Int) : Option Int :=
    (loopR (slices_Index_int_int_L1 a0 a1) 0).bind (Sum.elim (fun _ =>
    some (-1)) some)

noncomputable def slices_Contains_int_int (a0 : (List Int)) (a1 : Int) : Option Bool :=
    (slices_Index_int_int a0 a1).bind fun y3 =>
    some ((decide (y3 ≥ 0)))

noncomputable def slices_IndexFunc_int_int_L1 (a0 : (List (List Int))) (f1 : ((List Int) → Option Bool)) : Int → Option (Int ⊕ (Unit ⊕ Int))
  | x4 =>
    if ((decide (x4 < (len a0)))) = true then
    (idx a0 x4).bind fun y24 =>
    (f1 y24).bind fun y31 =>
    if y31 = true then
    some (.inr (.inr x4))
    else
    some (.inl ((W (x4 + 1))))
    else
    some (.inr (.inl ()))
noncomputable def slices_IndexFunc_int_int (a0 : (List (List Int))) (f1 : ((List Int) → Option Bool)) : Option Int :=
    (loopR (slices_IndexFunc_int_int_L1 a0 f1) 0).bind (Sum.elim (fun _ =>
    some (-1)) some)

noncomputable def slices_ContainsFunc_int_int (a0 : (List (List Int))) (f1 : ((List Int) → Option Bool)) : Option Bool :=
    (slices_IndexFunc_int_int a0 f1).bind fun y3 =>
    some ((decide (y3 ≥ 0)))

noncomputable def board_breakers_1 (a0 : (List Int)) : Option Bool :=
    some ((((len a0) == 0)))

noncomputable def board_breakers_L1 (a0 : Board) : ((List Int) × (List (List Int)) × Int) → Option (((List Int) × (List (List Int)) × Int) ⊕ (((List Int) × (List (List Int))) ⊕ Bool))
  | (x33, x36, x39) =>
    if ((decide (x39 < (len a0.Breakers)))) = true then
    (idx a0.Breakers x39).bind fun y87 =>
    (board_in y87.A 0 ((W (a0.Buses - 1)))).bind fun y103 =>
    if (!y103) = true then
    some (.inr (.inr false))
    else
    (if (((y87.Kind == 1))) = true then
    (board_in y87.B ((W (y87.A + 1))) ((W (a0.Buses - 1)))).bind fun y247 =>
    some y247
    else
    some false : Option Bool).bind fun x113 =>
    if x113 = true then
    some (.inl ((x33, x36, (W (x39 + 1)))))
    else
    (if (((y87.Kind == 2))) = true then
    (board_in y87.B 0 ((W ((len x33) - 1)))).bind fun y224 =>
    (if y224 = true then
    (idx x33 y87.B).bind fun y238 =>
    some ((((y238 == 0))))
    else
    some false : Option Bool).bind fun x231 =>
    some x231
    else
    some false : Option Bool).bind fun x120 =>
    if x120 = true then
    (idx x33 y87.B).bind fun y126 =>
    (setO x33 y87.B ((W (y126 + 1)))).bind fun y135 =>
    some (.inl ((y135, x36, (W (x39 + 1)))))
    else
    (if (((y87.Kind == 3))) = true then
    (board_in y87.B 0 ((W ((len x36) - 1)))).bind fun y182 =>
    (if y182 = true then
    (idx x36 y87.B).bind fun y196 =>
    (slices_Contains_int_int y196 y87.A).bind fun y204 =>
    some (!y204)
    else
    some false : Option Bool).bind fun x189 =>
    some x189
    else
    some false : Option Bool).bind fun x141 =>
    if x141 = true then
    (idx x36 y87.B).bind fun y147 =>
    (app y147 ([y87.A] : List Int)).bind fun y160 =>
    (setO x36 y87.B y160).bind fun y161 =>
    some (.inl ((x33, y161, (W (x39 + 1)))))
    else
    some (.inr (.inr false))
    else
    some (.inr (.inl (x33, x36)))
noncomputable def board_breakers (a0 : Board) : Option Bool :=
    (mkL Int (len a0.Sources)).bind fun y14 =>
    (mkL (List Int) (len a0.Consumers)).bind fun y21 =>
    (loopR (board_breakers_L1 a0) (y14, y21, 0)).bind (Sum.elim (fun p_ => match p_ with
    | (x40, x43) =>
    (slices_Contains_int_int x40 0).bind fun y52 =>
    (if (!y52) = true then
    (slices_ContainsFunc_int_int x43 (fun z0_ => board_breakers_1 z0_)).bind fun y66 =>
    some (!y66)
    else
    some false : Option Bool).bind fun x59 =>
    some x59) some)

noncomputable def board_source (a0 : Source) : Option Bool :=
    (board_in a0.Rating 1 50000).bind fun y8 =>
    (if y8 = true then
    (board_in a0.Least 0 a0.Rating).bind fun y21 =>
    (if y21 = true then
    (board_in a0.Start 0 600).bind fun y35 =>
    some y35
    else
    some false : Option Bool).bind fun x28 =>
    some x28
    else
    some false : Option Bool).bind fun x15 =>
    some x15

noncomputable def board_consumer_L1 (a0 : Consumer) (a1 : Int) : Int → Option (Int ⊕ (Unit ⊕ Bool))
  | x11 =>
    if ((decide (x11 < (len a0.Needs)))) = true then
    (idx a0.Needs x11).bind fun y90 =>
    (board_in y90 0 ((W (a1 - 1)))).bind fun y96 =>
    (if (!y96) = true then
    some true
    else
    (if ((decide (x11 > 0))) = true then
    (idx a0.Needs ((W (x11 - 1)))).bind fun y120 =>
    some (((decide (y120 ≥ y90)), (decide (y120 ≥ y90))))
    else
    some (false, false) : Option (Bool × Bool)).bind fun p_ => match p_ with
    | (x112, x113) =>
    some x113 : Option Bool).bind fun x103 =>
    if x103 = true then
    some (.inr (.inr false))
    else
    some (.inl ((W (x11 + 1))))
    else
    some (.inr (.inl ()))
noncomputable def board_consumer (a0 : Consumer) (a1 : Int) : Option Bool :=
    (loopR (board_consumer_L1 a0 a1) 0).bind (Sum.elim (fun _ =>
    (board_in a0.Load 0 50000).bind fun y18 =>
    (if y18 = true then
    (board_in a0.Least 0 a0.Load).bind fun y31 =>
    (if y31 = true then
    (board_in a0.Preference 0 15).bind fun y45 =>
    (if y45 = true then
    (board_in a0.Thruster (-1) 7).bind fun y59 =>
    (if y59 = true then
    some (((decide ((len a0.Needs) ≤ 4))))
    else
    some false : Option Bool).bind fun x66 =>
    some x66
    else
    some false : Option Bool).bind fun x52 =>
    some x52
    else
    some false : Option Bool).bind fun x38 =>
    some x38
    else
    some false : Option Bool).bind fun x25 =>
    some x25) some)

noncomputable def board_Check_L2 (a0 : Board) : (Bool × Int) → Option ((Bool × Int) ⊕ Bool)
  | (x54, x55) =>
    if ((decide (x55 < (len a0.Consumers)))) = true then
    (idx a0.Consumers x55).bind fun y79 =>
    (if x54 = true then
    (board_consumer y79 x55).bind fun y102 =>
    some y102
    else
    some false : Option Bool).bind fun x96 =>
    some (.inl ((x96, (W (x55 + 1)))))
    else
    some (.inr x54)
noncomputable def board_Check_L1 (a0 : Board) : (Bool × Int) → Option ((Bool × Int) ⊕ Bool)
  | (x44, x45) =>
    if ((decide (x45 < (len a0.Sources)))) = true then
    (idx a0.Sources x45).bind fun y123 =>
    (if x44 = true then
    (board_source y123).bind fun y143 =>
    some y143
    else
    some false : Option Bool).bind fun x137 =>
    some (.inl ((x137, (W (x45 + 1)))))
    else
    some (.inr x44)
noncomputable def board_Check (a0 : Board) : Option Int :=
    (board_in a0.Buses 1 6).bind fun y15 =>
    (if (!y15) = true then
    some true
    else
    (if ((decide ((len a0.Breakers) > 24))) = true then
    some true
    else
    (if ((decide ((len a0.Sources) > 8))) = true then
    some true
    else
    some (((decide ((len a0.Consumers) > 16)))) : Option Bool).bind fun x187 =>
    some x187 : Option Bool).bind fun x179 =>
    some x179 : Option Bool).bind fun x22 =>
    if x22 = true then
    some 2
    else
    (board_breakers a0).bind fun y30 =>
    (if y30 = true then
    (board_in a0.Phase 0 1800).bind fun y153 =>
    (if y153 = true then
    (board_in a0.Frequency 0 6000).bind fun y167 =>
    some y167
    else
    some false : Option Bool).bind fun x160 =>
    some x160
    else
    some false : Option Bool).bind fun x37 =>
    (loopR (board_Check_L1 a0) (x37, 0)).bind fun x46 =>
    (loopR (board_Check_L2 a0) (x46, 0)).bind fun x56 =>
    if (!x56) = true then
    some 14
    else
    some 0

noncomputable def board_size (a0 : Board) (a1 : Int) : Option Int :=
    if (((a1 == 1))) = true then
    some (len a0.Sources)
    else
    if (((a1 == 2))) = true then
    some (len a0.Breakers)
    else
    if (((a1 == 3))) = true then
    some a0.Buses
    else
    if (((a1 == 4))) = true then
    some (len a0.Consumers)
    else
    some 0

noncomputable def cmp_isNaN_int (a0 : Int) : Option Bool :=
    some (((a0 != a0)))

noncomputable def cmp_Compare_int (a0 : Int) (a1 : Int) : Option Int :=
    (cmp_isNaN_int a0).bind fun y3 =>
    (cmp_isNaN_int a1).bind fun y11 =>
    if y3 = true then
    if y11 = true then
    some 0
    else
    some (-1)
    else
    if y11 = true then
    some 1
    else
    if ((decide (a0 < a1))) = true then
    some (-1)
    else
    if ((decide (a0 > a1))) = true then
    some 1
    else
    some 0

noncomputable def cmp_Or_int_L1 (a0 : (List Int)) : Int → Option (Int ⊕ (Unit ⊕ Int))
  | x5 =>
    if ((decide (x5 < (len a0)))) = true then
    (idx a0 x5).bind fun y24 =>
    if (((y24 != 0))) = true then
    some (.inr (.inr y24))
    else
    some (.inl ((W (x5 + 1))))
    else
    some (.inr (.inl ()))
noncomputable def cmp_Or_int (a0 : (List Int)) : Option Int :=
    (loopR (cmp_Or_int_L1 a0) 0).bind (Sum.elim (fun _ =>
    some 0) some)

noncomputable def board_broken_L1 (a0 : Board) (a1 : (List Part)) : Int → Option (Int ⊕ (Unit ⊕ Bool))
  | x15 =>
    if ((decide (x15 < (len a1)))) = true then
    (idx a1 x15).bind fun y34 =>
    (board_size a0 y34.Kind).bind fun y49 =>
    (board_in y34.Number 0 ((W (y49 - 1)))).bind fun y56 =>
    (if (!y56) = true then
    some true
    else
    (if ((decide (x15 > 0))) = true then
    (idx a1 ((W (x15 - 1)))).bind fun y83 =>
    (cmp_Compare_int y83.Kind y34.Kind).bind fun y88 =>
    (cmp_Compare_int y83.Number y34.Number).bind fun y99 =>
    (cmp_Or_int ([y88, y99] : List Int)).bind fun y111 =>
    some (((decide (y111 ≥ 0)), (decide (y111 ≥ 0))))
    else
    some (false, false) : Option (Bool × Bool)).bind fun p_ => match p_ with
    | (x75, x76) =>
    some x76 : Option Bool).bind fun x63 =>
    if x63 = true then
    some (.inr (.inr false))
    else
    some (.inl ((W (x15 + 1))))
    else
    some (.inr (.inl ()))
noncomputable def board_broken (a0 : Board) (a1 : (List Part)) : Option Bool :=
    (loopR (board_broken_L1 a0 a1) 0).bind (Sum.elim (fun _ =>
    some ((decide ((len a1) ≤ 32)))) some)

noncomputable def slices_IndexFunc_Running_Running_L1 (a0 : (List Running)) (f1 : (Running → Option Bool)) : Int → Option (Int ⊕ (Unit ⊕ Int))
  | x4 =>
    if ((decide (x4 < (len a0)))) = true then
    (idx a0 x4).bind fun y24 =>
    (f1 y24).bind fun y31 =>
    if y31 = true then
    some (.inr (.inr x4))
    else
    some (.inl ((W (x4 + 1))))
    else
    some (.inr (.inl ()))
noncomputable def slices_IndexFunc_Running_Running (a0 : (List Running)) (f1 : (Running → Option Bool)) : Option Int :=
    (loopR (slices_IndexFunc_Running_Running_L1 a0 f1) 0).bind (Sum.elim (fun _ =>
    some (-1)) some)

noncomputable def slices_ContainsFunc_Running_Running (a0 : (List Running)) (f1 : (Running → Option Bool)) : Option Bool :=
    (slices_IndexFunc_Running_Running a0 f1).bind fun y3 =>
    some ((decide (y3 ≥ 0)))

noncomputable def board_running (a0 : Running) : Option Bool :=
    (board_in a0.State 0 3).bind fun y8 =>
    (if y8 = true then
    (board_in a0.Since 0 2147483648).bind fun y21 =>
    (if y21 = true then
    (board_in a0.Frequency 0 6000).bind fun y35 =>
    (if y35 = true then
    (board_in a0.Phase 0 3599).bind fun y49 =>
    some y49
    else
    some false : Option Bool).bind fun x42 =>
    some x42
    else
    some false : Option Bool).bind fun x28 =>
    some x28
    else
    some false : Option Bool).bind fun x15 =>
    some x15

noncomputable def board_State_1 (a0 : Running) : Option Bool :=
    (board_running a0).bind fun y8 =>
    some (!y8)

noncomputable def board_closed_L1 (a0 : Board) (a1 : Power) (a2 : Int) : (Int × Int) → Option ((Int × Int) ⊕ Int)
  | (x29, x30) =>
    if ((decide (x30 < (len a0.Breakers)))) = true then
    (idx a0.Breakers x30).bind fun y50 =>
    (if (((y50.Kind == 3))) = true then
    (if (((y50.B == a2))) = true then
    (idx a1.Closed x30).bind fun y86 =>
    some y86
    else
    some false : Option Bool).bind fun x79 =>
    some x79
    else
    some false : Option Bool).bind fun x65 =>
    (if x65 = true then
    some (((W (x29 + 1))))
    else
    some x29 : Option Int).bind fun x70 =>
    some (.inl ((x70, (W (x30 + 1)))))
    else
    some (.inr x29)
noncomputable def board_closed (a0 : Board) (a1 : Power) (a2 : Int) : Option Int :=
    (loopR (board_closed_L1 a0 a1 a2) (0, 0)).bind fun x31 =>
    some x31

noncomputable def board_State_L1 (a0 : Board) (a1 : Power) : (Bool × Int) → Option ((Bool × Int) ⊕ Bool)
  | (x62, x63) =>
    if ((decide (x63 < (len a1.Limits)))) = true then
    (idx a1.Limits x63).bind fun y87 =>
    (if x62 = true then
    (idx a0.Consumers x63).bind fun y98 =>
    (board_in y87 0 y98.Load).bind fun y103 =>
    (if y103 = true then
    (board_closed a0 a1 x63).bind fun y117 =>
    some (((decide (y117 ≤ 1))))
    else
    some false : Option Bool).bind fun x110 =>
    some x110
    else
    some false : Option Bool).bind fun x92 =>
    some (.inl ((x92, (W (x63 + 1)))))
    else
    some (.inr x62)
noncomputable def board_State (a0 : Board) (a1 : Power) : Option Int :=
    (board_Check a0).bind fun y28 =>
    if (((y28 != 0))) = true then
    some y28
    else
    (if ((((len a1.Closed) != (len a0.Breakers)))) = true then
    some true
    else
    (if ((((len a1.Sources) != (len a0.Sources)))) = true then
    some true
    else
    some (((((len a1.Limits) != (len a0.Consumers))))) : Option Bool).bind fun x140 =>
    some x140 : Option Bool).bind fun x40 =>
    if x40 = true then
    some 8
    else
    (board_broken a0 a1.Broken).bind fun y48 =>
    (if y48 = true then
    (slices_ContainsFunc_Running_Running a1.Sources (fun z0_ => board_State_1 z0_)).bind fun y129 =>
    some (!y129)
    else
    some false : Option Bool).bind fun x55 =>
    (loopR (board_State_L1 a0 a1) (x55, 0)).bind fun x64 =>
    if (!x64) = true then
    some 11
    else
    some 0

noncomputable def board_groups_L3 (a0 : Board) (a1 : Power) : ((List Int) × Int) → Option (((List Int) × Int) ⊕ (List Int))
  | (x76, x79) =>
    if ((decide (x79 < (len a0.Breakers)))) = true then
    (idx a0.Breakers x79).bind fun y100 =>
    (if (((y100.Kind == 1))) = true then
    (idx a1.Closed x79).bind fun y168 =>
    some y168
    else
    some false : Option Bool).bind fun x115 =>
    (if x115 = true then
    (idx x76 y100.A).bind fun y129 =>
    (idx x76 y100.B).bind fun y134 =>
    (setO x76 y100.A (if y134 < y129 then y134 else y129)).bind fun y147 =>
    (setO y147 y100.B (if y134 < y129 then y134 else y129)).bind fun y157 =>
    some y157
    else
    some x76 : Option (List Int)).bind fun x120 =>
    some (.inl ((x120, (W (x79 + 1)))))
    else
    some (.inr x76)
noncomputable def board_groups_L2 (a0 : Board) (a1 : Power) (x41 : (List Int)) : ((List Int) × Int) → Option (((List Int) × Int) ⊕ (List Int))
  | (x51, x54) =>
    if ((decide (x54 < (len x41)))) = true then
    (loopR (board_groups_L3 a0 a1) (x51, 0)).bind fun x80 =>
    some (.inl ((x80, (W (x54 + 1)))))
    else
    some (.inr x51)
noncomputable def board_groups_L1 (y28 : List Int) : ((List Int) × Int) → Option (((List Int) × Int) ⊕ (List Int))
  | (x37, x40) =>
    if ((decide (x40 < (len y28)))) = true then
    (idx x37 x40).bind fun y187 =>
    (setO x37 x40 x40).bind fun y192 =>
    some (.inl ((y192, (W (x40 + 1)))))
    else
    some (.inr x37)
noncomputable def board_groups (a0 : Board) (a1 : Power) : Option (List Int) :=
    (mkL Int a0.Buses).bind fun y28 =>
    (loopR (board_groups_L1 y28) (y28, 0)).bind fun x41 =>
    (loopR (board_groups_L2 a0 a1 x41) (x41, 0)).bind fun x55 =>
    some x55

noncomputable def board_led_L1 (a0 : Board) (a1 : Power) (a2 : Int) (a3 : Int) : Int → Option (Int ⊕ (Unit ⊕ (Int × Bool)))
  | x28 =>
    if ((decide (x28 < (len a0.Breakers)))) = true then
    (idx a0.Breakers x28).bind fun y47 =>
    (if (((y47.Kind == a2))) = true then
    (if (((y47.B == a3))) = true then
    (idx a1.Closed x28).bind fun y77 =>
    some y77
    else
    some false : Option Bool).bind fun x70 =>
    some x70
    else
    some false : Option Bool).bind fun x62 =>
    if x62 = true then
    some (.inr (.inr (y47.A, true)))
    else
    some (.inl ((W (x28 + 1))))
    else
    some (.inr (.inl ()))
noncomputable def board_led (a0 : Board) (a1 : Power) (a2 : Int) (a3 : Int) : Option (Int × Bool) :=
    (loopR (board_led_L1 a0 a1 a2 a3) 0).bind (Sum.elim (fun _ =>
    some (0, false)) some)

noncomputable def board_connected (a0 : Board) (a1 : Power) (a2 : Int) : Option (Int × Bool) :=
    (board_in a2 0 ((W ((len a1.Sources) - 1)))).bind fun y28 =>
    (if (!y28) = true then
    some true
    else
    (idx a1.Sources a2).bind fun y53 =>
    some ((((y53.State != 2)))) : Option Bool).bind fun x35 =>
    if x35 = true then
    some (0, false)
    else
    (board_led a0 a1 2 a2).bind fun p_ => match p_ with
    | (y43, y44) =>
    some (y43, y44)

noncomputable def board_fed (a0 : Board) (a1 : Power) (a2 : Int) : Option (Int × Bool) :=
    (board_led a0 a1 3 a2).bind fun p_ => match p_ with
    | (y27, y28) =>
    some (y27, y28)

noncomputable def slices_IndexFunc_Island_Island_L1 (a0 : (List Island)) (f1 : (Island → Option Bool)) : Int → Option (Int ⊕ (Unit ⊕ Int))
  | x4 =>
    if ((decide (x4 < (len a0)))) = true then
    (idx a0 x4).bind fun y24 =>
    (f1 y24).bind fun y37 =>
    if y37 = true then
    some (.inr (.inr x4))
    else
    some (.inl ((W (x4 + 1))))
    else
    some (.inr (.inl ()))
noncomputable def slices_IndexFunc_Island_Island (a0 : (List Island)) (f1 : (Island → Option Bool)) : Option Int :=
    (loopR (slices_IndexFunc_Island_Island_L1 a0 f1) 0).bind (Sum.elim (fun _ =>
    some (-1)) some)

noncomputable def slices_DeleteFunc_Island_Island_L1 (f1 : (Island → Option Bool)) : ((List Island) × Int × Int) → Option (((List Island) × Int × Int) ⊕ ((List Island) × Int))
  | (x17, x20, x21) =>
    if ((decide (x21 < (len x17)))) = true then
    (idx x17 x21).bind fun y59 =>
    (f1 y59).bind fun y83 =>
    (if (!y83) = true then
    (idx x17 x20).bind fun y102 =>
    (setO x17 x20 y59).bind fun y107 =>
    some ((y107, (W (x20 + 1))))
    else
    some (x17, x20) : Option ((List Island) × Int)).bind fun p_ => match p_ with
    | (x92, x95) =>
    some (.inl ((x92, x95, (W (x21 + 1)))))
    else
    some (.inr (x17, x20))
noncomputable def slices_DeleteFunc_Island_Island (a0 : (List Island)) (f1 : (Island → Option Bool)) : Option (List Island) :=
    (slices_IndexFunc_Island_Island a0 f1).bind fun y4 =>
    if (((y4 == (-1)))) = true then
    some a0
    else
    (loopR (slices_DeleteFunc_Island_Island_L1 f1) ((a0, y4, (W (y4 + 1))))).bind fun p_ => match p_ with
    | (x22, x25) =>
    (slc x22 x25 (len x22)).bind fun y32 =>
    (slc ((x22.take (x25).toNat ++ List.replicate (x22.length - (x25).toNat) Rep.zero)) 0 x25).bind fun y41 =>
    some y41

noncomputable def board_Islands_1 (a0 : Island) : Option Bool :=
    some ((((len a0.Buses) == 0)))

noncomputable def board_Islands_L3 (a0 : Board) (a1 : Power) (y40 : (List Int)) : ((List Island) × Int) → Option (((List Island) × Int) ⊕ (List Island))
  | (x87, x90) =>
    if ((decide (x90 < (len a0.Consumers)))) = true then
    (board_fed a0 a1 x90).bind fun p_ => match p_ with
    | (y128, y129) =>
    (if y129 = true then
    (idx y40 y128).bind fun y145 =>
    (idx x87 y145).bind fun y154 =>
    (app y154.Consumers ([x90] : List Int)).bind fun y167 =>
    (setO x87 y145 { y154 with Consumers := y167 }).bind fun y168 =>
    (idx y168 y145).bind fun y176 =>
    some y168
    else
    some x87 : Option (List Island)).bind fun x137 =>
    some (.inl ((x137, (W (x90 + 1)))))
    else
    some (.inr x87)
noncomputable def board_Islands_L2 (a0 : Board) (a1 : Power) (y40 : (List Int)) : ((List Island) × Int) → Option (((List Island) × Int) ⊕ (List Island))
  | (x73, x76) =>
    if ((decide (x76 < (len a0.Sources)))) = true then
    (board_connected a0 a1 x76).bind fun p_ => match p_ with
    | (y203, y204) =>
    (if y204 = true then
    (idx y40 y203).bind fun y220 =>
    (idx x73 y220).bind fun y229 =>
    (app y229.Sources ([x76] : List Int)).bind fun y242 =>
    (setO x73 y220 { y229 with Sources := y242 }).bind fun y243 =>
    (idx y243 y220).bind fun y251 =>
    some y243
    else
    some x73 : Option (List Island)).bind fun x212 =>
    some (.inl ((x212, (W (x76 + 1)))))
    else
    some (.inr x73)
noncomputable def board_Islands_L1 (y40 : (List Int)) : ((List Island) × Int) → Option (((List Island) × Int) ⊕ (List Island))
  | (x59, x62) =>
    if ((decide (x62 < (len y40)))) = true then
    (idx y40 x62).bind fun y277 =>
    (idx x59 y277).bind fun y282 =>
    (app y282.Buses ([x62] : List Int)).bind fun y295 =>
    (setO x59 y277 { y282 with Buses := y295 }).bind fun y296 =>
    (idx y296 y277).bind fun y304 =>
    some (.inl ((y296, (W (x62 + 1)))))
    else
    some (.inr x59)
noncomputable def board_Islands (a0 : Board) (a1 : Power) : Option (List Island) :=
    (board_State a0 a1).bind fun y29 =>
    if (((y29 != 0))) = true then
    some ([] : List Island)
    else
    (board_groups a0 a1).bind fun y40 =>
    (mkL Island a0.Buses).bind fun y50 =>
    (loopR (board_Islands_L1 y40) (y50, 0)).bind fun x63 =>
    (loopR (board_Islands_L2 a0 a1 y40) (x63, 0)).bind fun x77 =>
    (loopR (board_Islands_L3 a0 a1 y40) (x77, 0)).bind fun x91 =>
    (slices_DeleteFunc_Island_Island x91 (fun z0_ => board_Islands_1 z0_)).bind fun y106 =>
    some y106

noncomputable def dynposlaw15_two : Option Board :=
    some ((⟨2, ([(⟨1, 0, 1⟩ : Breaker), (⟨2, 0, 0⟩ : Breaker), (⟨2, 1, 1⟩ : Breaker), (⟨3, 0, 0⟩ : Breaker)] : List Breaker), ([(⟨100, 0, 0⟩ : Source), (⟨100, 0, 0⟩ : Source)] : List Source), ([(⟨60, 0, 0, (-1), ([] : List Int)⟩ : Consumer)] : List Consumer), 50, 10⟩ : Board))

noncomputable def board_Fed (a0 : Board) (a1 : Power) (a2 : Int) : Option (Int × Bool) :=
    (board_State a0 a1).bind fun y28 =>
    if (((y28 != 0))) = true then
    some (0, false)
    else
    (board_fed a0 a1 a2).bind fun p_ => match p_ with
    | (y38, y39) =>
    some (y38, y39)

noncomputable def dynposref01_Ints_L1 (a0 : (List Int)) (a1 : (List Int)) : Int → Option (Int ⊕ (Unit ⊕ Bool))
  | x8 =>
    if ((decide (x8 < (len a0)))) = true then
    (idx a0 x8).bind fun y28 =>
    (idx a1 x8).bind fun y33 =>
    if (((y28 != y33))) = true then
    some (.inr (.inr false))
    else
    some (.inl ((W (x8 + 1))))
    else
    some (.inr (.inl ()))
noncomputable def dynposref01_Ints (a0 : (List Int)) (a1 : (List Int)) : Option Bool :=
    if ((((len a0) != (len a1)))) = true then
    some false
    else
    (loopR (dynposref01_Ints_L1 a0 a1) 0).bind (Sum.elim (fun _ =>
    some true) some)

noncomputable def dynposref15_Island (a0 : Island) (a1 : Island) : Option Bool :=
    (dynposref01_Ints a0.Buses a1.Buses).bind fun y25 =>
    (if y25 = true then
    (dynposref01_Ints a0.Sources a1.Sources).bind fun y38 =>
    (if y38 = true then
    (dynposref01_Ints a0.Consumers a1.Consumers).bind fun y52 =>
    some y52
    else
    some false : Option Bool).bind fun x45 =>
    some x45
    else
    some false : Option Bool).bind fun x32 =>
    some x32

noncomputable def board_Of_L1 (a2 : Int) (y36 : (List Island)) : Int → Option (Int ⊕ (Unit ⊕ (Island × Bool)))
  | x45 =>
    if ((decide (x45 < (len y36)))) = true then
    (idx y36 x45).bind fun y69 =>
    (slices_Contains_int_int y69.Buses a2).bind fun y93 =>
    if y93 = true then
    some (.inr (.inr (y69, true)))
    else
    some (.inl ((W (x45 + 1))))
    else
    some (.inr (.inl ()))
noncomputable def board_Of (a0 : Board) (a1 : Power) (a2 : Int) : Option (Island × Bool) :=
    (board_Islands a0 a1).bind fun y36 =>
    (loopR (board_Of_L1 a2 y36) 0).bind (Sum.elim (fun _ =>
    some (((⟨([] : List Int), ([] : List Int), ([] : List Int)⟩ : Island), false))) some)

noncomputable def board_Live (a0 : Board) (a1 : Power) (a2 : Int) : Option Bool :=
    (board_Of a0 a1 a2).bind fun p_ => match p_ with
    | (y27, y28) =>
    some ((decide ((len y27.Sources) > 0)))

noncomputable def board_Find_L1 (a0 : Board) (a1 : Int) (a2 : Int) : ((List Int) × Int) → Option (((List Int) × Int) ⊕ (List Int))
  | (x30, x33) =>
    if ((decide (x33 < (len a0.Breakers)))) = true then
    (idx a0.Breakers x33).bind fun y55 =>
    (if (((y55.Kind == a1))) = true then
    (if (((y55.B == a2))) = true then
    some (true, true)
    else
    (if (((a1 == 1))) = true then
    some ((((y55.A == a2)), ((y55.A == a2)), ((y55.A == a2))))
    else
    some (false, false, false) : Option (Bool × Bool × Bool)).bind fun p_ => match p_ with
    | (x109, x110, x111) =>
    some (x110, x111) : Option (Bool × Bool)).bind fun p_ => match p_ with
    | (x98, x99) =>
    some x99
    else
    some false : Option Bool).bind fun x70 =>
    (if x70 = true then
    (app x30 ([x33] : List Int)).bind fun y88 =>
    some y88
    else
    some x30 : Option (List Int)).bind fun x75 =>
    some (.inl ((x75, (W (x33 + 1)))))
    else
    some (.inr x30)
noncomputable def board_Find (a0 : Board) (a1 : Int) (a2 : Int) : Option (List Int) :=
    (board_Check a0).bind fun y16 =>
    if (((y16 != 0))) = true then
    some ([] : List Int)
    else
    (loopR (board_Find_L1 a0 a1 a2) ((([] : List Int), 0))).bind fun x34 =>
    some x34

noncomputable def dynposlaw15_sane : Option Bool :=
    (dynposlaw15_two).bind fun y31 =>
    (board_Islands y31 ((⟨([false, true, true, true] : List Bool), ([(⟨2, 0, 5000, 0⟩ : Running), (⟨2, 0, 5000, 0⟩ : Running)] : List Running), ([60] : List Int), ([] : List Part)⟩ : Power))).bind fun y44 =>
    (dynposlaw15_two).bind fun y57 =>
    (board_Fed y57 ((⟨([false, true, true, true] : List Bool), ([(⟨2, 0, 5000, 0⟩ : Running), (⟨2, 0, 5000, 0⟩ : Running)] : List Running), ([60] : List Int), ([] : List Part)⟩ : Power)) 0).bind fun p_ => match p_ with
    | (y70, y71) =>
    (dynposlaw15_two).bind fun y82 =>
    (board_State y82 ((⟨([false, true, true, true] : List Bool), ([(⟨2, 0, 5000, 0⟩ : Running), (⟨2, 0, 5000, 0⟩ : Running)] : List Running), ([60] : List Int), ([] : List Part)⟩ : Power))).bind fun y95 =>
    (if (((y95 == 0))) = true then
    (if ((((len y44) == 2))) = true then
    (idx y44 0).bind fun y115 =>
    (dynposref15_Island y115 ((⟨([0] : List Int), ([0] : List Int), ([0] : List Int)⟩ : Island))).bind fun y143 =>
    (if y143 = true then
    (if y71 = true then
    (if (((y70 == 0))) = true then
    (dynposlaw15_two).bind fun y171 =>
    (board_Live y171 ((⟨([false, true, true, true] : List Bool), ([(⟨2, 0, 5000, 0⟩ : Running), (⟨2, 0, 5000, 0⟩ : Running)] : List Running), ([60] : List Int), ([] : List Part)⟩ : Power)) 1).bind fun y184 =>
    (if y184 = true then
    (dynposlaw15_two).bind fun y198 =>
    (board_Find y198 2 1).bind fun y211 =>
    (dynposref01_Ints y211 ([2] : List Int)).bind fun y225 =>
    some y225
    else
    some false : Option Bool).bind fun x191 =>
    some x191
    else
    some false : Option Bool).bind fun x164 =>
    some x164
    else
    some false : Option Bool).bind fun x157 =>
    some x157
    else
    some false : Option Bool).bind fun x150 =>
    some x150
    else
    some false : Option Bool).bind fun x108 =>
    some x108
    else
    some false : Option Bool).bind fun x102 =>
    some x102

noncomputable def dynposref15_Copy (a0 : Power) : Option Power :=
    (app ([] : List Bool) a0.Closed).bind fun y26 =>
    (app ([] : List Running) a0.Sources).bind fun y34 =>
    (app ([] : List Int) a0.Limits).bind fun y42 =>
    (app ([] : List Part) a0.Broken).bind fun y50 =>
    some (⟨y26, y34, y42, y50⟩ : Power)

noncomputable def dynposref01_Has_L1 (a0 : (List Int)) (a1 : Int) : Int → Option (Int ⊕ (Unit ⊕ Bool))
  | x4 =>
    if ((decide (x4 < (len a0)))) = true then
    (idx a0 x4).bind fun y23 =>
    if (((y23 == a1))) = true then
    some (.inr (.inr true))
    else
    some (.inl ((W (x4 + 1))))
    else
    some (.inr (.inl ()))
noncomputable def dynposref01_Has (a0 : (List Int)) (a1 : Int) : Option Bool :=
    (loopR (dynposref01_Has_L1 a0 a1) 0).bind (Sum.elim (fun _ =>
    some false) some)

noncomputable def dynposlaw15_BoardTies_L1 (y13 : Board) : ((List Int) × Int) → Option (((List Int) × Int) ⊕ (List Int))
  | (x70, x73) =>
    if ((decide (x73 < (len y13.Breakers)))) = true then
    (idx y13.Breakers x73).bind fun y342 =>
    (if (((y342.Kind == 1))) = true then
    (app x70 ([x73] : List Int)).bind fun y370 =>
    some y370
    else
    some x70 : Option (List Int)).bind fun x357 =>
    some (.inl ((x357, (W (x73 + 1)))))
    else
    some (.inr x70)
noncomputable def dynposlaw15_BoardTies (a0 : (List Int)) (a1 : U8) : Option Bool :=
    (dynposmake_New a0).bind fun y3 =>
    (Src_Board y3).bind fun p_ => match p_ with
    | (y13, st14) =>
    (Src_Power st14 y13).bind fun p_ => match p_ with
    | (y39, st40) =>
    (loopR (dynposlaw15_BoardTies_L1 y13) ((([] : List Int), 0))).bind fun x74 =>
    if ((((len x74) == 0))) = true then
    (board_Islands y13 y39).bind fun y86 =>
    (if ((((len y86) == y13.Buses))) = true then
    (dynposlaw15_sane).bind fun y101 =>
    some y101
    else
    some false : Option Bool).bind fun x95 =>
    some x95
    else
    (remO (W a1.n) (len x74)).bind fun y117 =>
    (idx x74 y117).bind fun y119 =>
    (dynposref15_Copy y39).bind fun y125 =>
    (dynposref15_Copy y39).bind fun y140 =>
    (idx y125.Closed y119).bind fun y183 =>
    (setO y125.Closed y119 true).bind fun y189 =>
    (idx y140.Closed y119).bind fun y194 =>
    (setO y140.Closed y119 false).bind fun y200 =>
    (board_Islands y13 (⟨y189, y125.Sources, y125.Limits, y125.Broken⟩ : Power)).bind fun y209 =>
    (board_Islands y13 (⟨y200, y140.Sources, y140.Limits, y140.Broken⟩ : Power)).bind fun y218 =>
    (idx y13.Breakers y119).bind fun y231 =>
    (board_Of y13 (⟨y189, y125.Sources, y125.Limits, y125.Broken⟩ : Power) y231.A).bind fun p_ => match p_ with
    | (y236, y237) =>
    (if y237 = true then
    (dynposref01_Has y236.Buses y231.B).bind fun y275 =>
    (if y275 = true then
    (if ((decide ((len y209) ≤ (len y218)))) = true then
    (if ((decide ((len y218) ≤ ((W ((len y209) + 1)))))) = true then
    (dynposlaw15_sane).bind fun y303 =>
    some y303
    else
    some false : Option Bool).bind fun x296 =>
    some x296
    else
    some false : Option Bool).bind fun x289 =>
    some x289
    else
    some false : Option Bool).bind fun x282 =>
    some x282
    else
    some false : Option Bool).bind fun x265 =>
    some x265

noncomputable def Src_N_raw (a0 : Src) (a1 : Int) : Option (Int × Src) :=
    if ((decide (a0.At ≥ (len a0.L)))) = true then
    some (0, a0)
    else
    (idx a0.L ((W (((W (a0.At + 1))) - 1)))).bind fun y13 =>
    (dynposmake_Mod y13 a1).bind fun y18 =>
    some ((y18, (⟨a0.L, (W (a0.At + 1))⟩ : Src)))

end Go.Proofs.Ytnpghnnlcakbfaa
