/- The plain functions. Written by a program (wip/gen). -/
import Derived.Test.YtdfkfohpgakihaaHp
set_option linter.unusedVariables false
set_option linter.unusedSimpArgs false
namespace Go.Proofs.Ytdfkfohpgakihaa
open Go Go.RowKit Dp

noncomputable def dynposlaw16_pair : Option (Board × Power) :=
    some (((⟨2, ([(⟨1, 0, 1⟩ : Breaker), (⟨2, 0, 0⟩ : Breaker), (⟨2, 1, 1⟩ : Breaker)] : List Breaker), ([(⟨100, 0, 0⟩ : Source), (⟨100, 0, 0⟩ : Source)] : List Source), ([] : List Consumer), 50, 0⟩ : Board), (⟨([false, true, true] : List Bool), ([(⟨2, 0, 5000, 10⟩ : Running), (⟨2, 0, 5000, 100⟩ : Running)] : List Running), ([] : List Int), ([] : List Part)⟩ : Power)))

noncomputable def dynposmake_Mod (a0 : Int) (a1 : Int) : Option Int :=
    if ((decide (a1 < 1))) = true then
    some 0
    else
    (remO a0 a1).bind fun y7 =>
    (remO ((W (y7 + a1))) a1).bind fun y9 =>
    some y9

noncomputable def Src_Range (st0 : List Int) (a1 : Int) (a2 : Int) : Option (Int × List Int) :=
    (Src_N st0 ((W (((W (a2 - a1))) + 1)))).bind fun p_ => match p_ with
    | (y4, st5) =>
    some (((W (a1 + y4)), st5))

noncomputable def board_in (a0 : Int) (a1 : Int) (a2 : Int) : Option Bool :=
    (if ((decide (a0 ≥ a1))) = true then
    some (((decide (a0 ≤ a2))))
    else
    some false : Option Bool).bind fun x3 =>
    some x3

noncomputable def slices_Index_int_int_L1 (a0 : (List Int)) (a1 : Int) : Int → Option (Int ⊕ (Unit ⊕ Int))
  | x4 =>
    if ((decide (x4 < (len a0)))) = true then
    (idx a0 x4).bind fun y24 =>
    if (((a1 == y24))) = true then
    some (.inr (.inr x4))
    else
    some (.inl ((W (x4 + 1))))
    else
    some (.inr (.inl ()))
noncomputable def slices_Index_int_int (a0 : (List Int)) (a1 : Int) : Option Int :=
    (loopR (slices_Index_int_int_L1 a0 a1) 0).bind (Sum.elim (fun _ =>
    some (-1)) some)

noncomputable def slices_Contains_int_int (a0 : (List Int)) (a1 : Int) : Option Bool :=
    (slices_Index_int_int a0 a1).bind fun y3 =>
    some ((decide (y3 ≥ 0)))

noncomputable def slices_IndexFunc_int_int_L1 (a0 : (List (List Int))) (f1 : ((List Int) → Option Bool)) : Int → Option (Int ⊕ (Unit ⊕ Int))
  | x4 =>
    if ((decide (x4 < (len a0)))) = true then
    (idx a0 x4).bind fun y24 =>
    (f1 y24).bind fun y31 =>
    if y31 = true then
    some (.inr (.inr x4))
    else
    some (.inl ((W (x4 + 1))))
    else
    some (.inr (.inl ()))
noncomputable def slices_IndexFunc_int_int (a0 : (List (List Int))) (f1 : ((List Int) → Option Bool)) : Option Int :=
    (loopR (slices_IndexFunc_int_int_L1 a0 f1) 0).bind (Sum.elim (fun _ =>
    some (-1)) some)

noncomputable def slices_ContainsFunc_int_int (a0 : (List (List Int))) (f1 : ((List Int) → Option Bool)) : Option Bool :=
    (slices_IndexFunc_int_int a0 f1).bind fun y3 =>
    some ((decide (y3 ≥ 0)))

noncomputable def board_breakers_1 (a0 : (List Int)) : Option Bool :=
    some ((((len a0) == 0)))

noncomputable def board_breakers_L1 (a0 : Board) : ((List Int) × (List (List Int)) × Int) → Option (((List Int) × (List (List Int)) × Int) ⊕ (((List Int) × (List (List Int))) ⊕ Bool))
  | (x33, x36, x39) =>
    if ((decide (x39 < (len a0.Breakers)))) = true then
    (idx a0.Breakers x39).bind fun y87 =>
    (board_in y87.A 0 ((W (a0.Buses - 1)))).bind fun y103 =>
    if (!y103) = true then
    some (.inr (.inr false))
    else
    (if (((y87.Kind == 1))) = true then
    (board_in y87.B ((W (y87.A + 1))) ((W (a0.Buses - 1)))).bind fun y247 =>
    some y247
    else
    some false : Option Bool).bind fun x113 =>
    if x113 = true then
    some (.inl ((x33, x36, (W (x39 + 1)))))
    else
    (if (((y87.Kind == 2))) = true then
    (board_in y87.B 0 ((W ((len x33) - 1)))).bind fun y224 =>
    (if y224 = true then
    (idx x33 y87.B).bind fun y238 =>
    some ((((y238 == 0))))
    else
    some false : Option Bool).bind fun x231 =>
    some x231
    else
    some false : Option Bool).bind fun x120 =>
    if x120 = true then
    (idx x33 y87.B).bind fun y126 =>
    (setO x33 y87.B ((W (y126 + 1)))).bind fun y135 =>
    some (.inl ((y135, x36, (W (x39 + 1)))))
    else
    (if (((y87.Kind == 3))) = true then
    (board_in y87.B 0 ((W ((len x36) - 1)))).bind fun y182 =>
    (if y182 = true then
    (idx x36 y87.B).bind fun y196 =>
    (slices_Contains_int_int y196 y87.A).bind fun y204 =>
    some (!y204)
    else
    some false : Option Bool).bind fun x189 =>
    some x189
    else
    some false : Option Bool).bind fun x141 =>
    if x141 = true then
    (idx x36 y87.B).bind fun y147 =>
    (app y147 ([y87.A] : List Int)).bind fun y160 =>
    (setO x36 y87.B y160).bind fun y161 =>
    some (.inl ((x33, y161, (W (x39 + 1)))))
    else
    some (.inr (.inr false))
    else
    some (.inr (.inl (x33, x36)))
noncomputable def board_breakers (a0 : Board) : Option Bool :=
    (mkL Int (len a0.Sources)).bind fun y14 =>
    (mkL (List Int) (len a0.Consumers)).bind fun y21 =>
    (loopR (board_breakers_L1 a0) (y14, y21, 0)).bind (Sum.elim (fun p_ => match p_ with
    | (x40, x43) =>
    (slices_Contains_int_int x40 0).bind fun y52 =>
    (if (!y52) = true then
    (slices_ContainsFunc_int_int x43 (fun z0_ => board_breakers_1 z0_)).bind fun y66 =>
    some (!y66)
    else
    some false : Option Bool).bind fun x59 =>
    some x59) some)

noncomputable def board_source (a0 : Source) : Option Bool :=
    (board_in a0.Rating 1 50000).bind fun y8 =>
    (if y8 = true then
    (board_in a0.Least 0 a0.Rating).bind fun y21 =>
    (if y21 = true then
    (board_in a0.Start 0 600).bind fun y35 =>
    some y35
    else
    some false : Option Bool).bind fun x28 =>
    some x28
    else
    some false : Option Bool).bind fun x15 =>
    some x15

noncomputable def board_consumer_L1 (a0 : Consumer) (a1 : Int) : Int → Option (Int ⊕ (Unit ⊕ Bool))
  | x11 =>
    if ((decide (x11 < (len a0.Needs)))) = true then
    (idx a0.Needs x11).bind fun y90 =>
    (board_in y90 0 ((W (a1 - 1)))).bind fun y96 =>
    (if (!y96) = true then
    some true
    else
    (if ((decide (x11 > 0))) = true then
    (idx a0.Needs ((W (x11 - 1)))).bind fun y120 =>
    some (((decide (y120 ≥ y90)), (decide (y120 ≥ y90))))
    else
    some (false, false) : Option (Bool × Bool)).bind fun p_ => match p_ with
    | (x112, x113) =>
    some x113 : Option Bool).bind fun x103 =>
    if x103 = true then
    some (.inr (.inr false))
    else
    some (.inl ((W (x11 + 1))))
    else
    some (.inr (.inl ()))
noncomputable def board_consumer (a0 : Consumer) (a1 : Int) : Option Bool :=
    (loopR (board_consumer_L1 a0 a1) 0).bind (Sum.elim (fun _ =>
    (board_in a0.Load 0 50000).bind fun y18 =>
    (if y18 = true then
    (board_in a0.Least 0 a0.Load).bind fun y31 =>
    (if y31 = true then
    (board_in a0.Preference 0 15).bind fun y45 =>
    (if y45 = true then
    (board_in a0.Thruster (-1) 7).bind fun y59 =>
    (if y59 = true then
    some (((decide ((len a0.Needs) ≤ 4))))
    else
    some false : Option Bool).bind fun x66 =>
    some x66
    else
    some false : Option Bool).bind fun x52 =>
    some x52
    else
    some false : Option Bool).bind fun x38 =>
    some x38
    else
    some false : Option Bool).bind fun x25 =>
    some x25) some)

noncomputable def board_Check_L2 (a0 : Board) : (Bool × Int) → Option ((Bool × Int) ⊕ Bool)
  | (x54, x55) =>
    if ((decide (x55 < (len a0.Consumers)))) = true then
    (idx a0.Consumers x55).bind fun y79 =>
    (if x54 = true then
    (board_consumer y79 x55).bind fun y102 =>
    some y102
    else
    some false : Option Bool).bind fun x96 =>
    some (.inl ((x96, (W (x55 + 1)))))
    else
    some (.inr x54)
noncomputable def board_Check_L1 (a0 : Board) : (Bool × Int) → Option ((Bool × Int) ⊕ Bool)
  | (x44, x45) =>
    if ((decide (x45 < (len a0.Sources)))) = true then
    (idx a0.Sources x45).bind fun y123 =>
    (if x44 = true then
    (board_source y123).bind fun y143 =>
    some y143
    else
    some false : Option Bool).bind fun x137 =>
    some (.inl ((x137, (W (x45 + 1)))))
    else
    some (.inr x44)
noncomputable def board_Check (a0 : Board) : Option Int :=
    (board_in a0.Buses 1 6).bind fun y15 =>
    (if (!y15) = true then
    some true
    else
    (if ((decide ((len a0.Breakers) > 24))) = true then
    some true
    else
    (if ((decide ((len a0.Sources) > 8))) = true then
    some true
    else
    some (((decide ((len a0.Consumers) > 16)))) : Option Bool).bind fun x187 =>
    some x187 : Option Bool).bind fun x179 =>
    some x179 : Option Bool).bind fun x22 =>
    if x22 = true then
    some 2
    else
    (board_breakers a0).bind fun y30 =>
    (if y30 = true then
    (board_in a0.Phase 0 1800).bind fun y153 =>
    (if y153 = true then
    (board_in a0.Frequency 0 6000).bind fun y167 =>
    some y167
    else
    some false : Option Bool).bind fun x160 =>
    some x160
    else
    some false : Option Bool).bind fun x37 =>
    (loopR (board_Check_L1 a0) (x37, 0)).bind fun x46 =>
    (loopR (board_Check_L2 a0) (x46, 0)).bind fun x56 =>
    if (!x56) = true then
    some 14
    else
    some 0

noncomputable def board_size (a0 : Board) (a1 : Int) : Option Int :=
    if (((a1 == 1))) = true then
    some (len a0.Sources)
    else
    if (((a1 == 2))) = true then
    some (len a0.Breakers)
    else
    if (((a1 == 3))) = true then
    some a0.Buses
    else
    if (((a1 == 4))) = true then
    some (len a0.Consumers)
    else
    some 0

noncomputable def cmp_isNaN_int (a0 : Int) : Option Bool :=
    some (((a0 != a0)))

noncomputable def cmp_Compare_int (a0 : Int) (a1 : Int) : Option Int :=
    (cmp_isNaN_int a0).bind fun y3 =>
    (cmp_isNaN_int a1).bind fun y11 =>
    if y3 = true then
    if y11 = true then
    some 0
    else
    some (-1)
    else
    if y11 = true then
    some 1
    else
    if ((decide (a0 < a1))) = true then
    some (-1)
    else
    if ((decide (a0 > a1))) = true then
    some 1
    else
    some 0

noncomputable def cmp_Or_int_L1 (a0 : (List Int)) : Int → Option (Int ⊕ (Unit ⊕ Int))
  | x5 =>
    if ((decide (x5 < (len a0)))) = true then
    (idx a0 x5).bind fun y24 =>
    if (((y24 != 0))) = true then
    some (.inr (.inr y24))
    else
    some (.inl ((W (x5 + 1))))
    else
    some (.inr (.inl ()))
noncomputable def cmp_Or_int (a0 : (List Int)) : Option Int :=
    (loopR (cmp_Or_int_L1 a0) 0).bind (Sum.elim (fun _ =>
    some 0) some)

noncomputable def board_broken_L1 (a0 : Board) (a1 : (List Part)) : Int → Option (Int ⊕ (Unit ⊕ Bool))
  | x15 =>
    if ((decide (x15 < (len a1)))) = true then
    (idx a1 x15).bind fun y34 =>
    (board_size a0 y34.Kind).bind fun y49 =>
    (board_in y34.Number 0 ((W (y49 - 1)))).bind fun y56 =>
    (if (!y56) = true then
    some true
    else
    (if ((decide (x15 > 0))) = true then
    (idx a1 ((W (x15 - 1)))).bind fun y83 =>
    (cmp_Compare_int y83.Kind y34.Kind).bind fun y88 =>
    (cmp_Compare_int y83.Number y34.Number).bind fun y99 =>
    (cmp_Or_int ([y88, y99] : List Int)).bind fun y111 =>
    some (((decide (y111 ≥ 0)), (decide (y111 ≥ 0))))
    else
    some (false, false) : Option (Bool × Bool)).bind fun p_ => match p_ with
    | (x75, x76) =>
    some x76 : Option Bool).bind fun x63 =>
    if x63 = true then
    some (.inr (.inr false))
    else
    some (.inl ((W (x15 + 1))))
    else
    some (.inr (.inl ()))
noncomputable def board_broken (a0 : Board) (a1 : (List Part)) : Option Bool :=
    (loopR (board_broken_L1 a0 a1) 0).bind (Sum.elim (fun _ =>
    some ((decide ((len a1) ≤ 32)))) some)

noncomputable def slices_IndexFunc_Running_Running_L1 (a0 : (List Running)) (f1 : (Running → Option Bool)) : Int → Option (Int ⊕ (Unit ⊕ Int))
  | x4 =>
    if ((decide (x4 < (len a0)))) = true then
    (idx a0 x4).bind fun y24 =>
    (f1 y24).bind fun y31 =>
    if y31 = true then
    some (.inr (.inr x4))
    else
    some (.inl ((W (x4 + 1))))
    else
    some (.inr (.inl ()))
noncomputable def slices_IndexFunc_Running_Running (a0 : (List Running)) (f1 : (Running → Option Bool)) : Option Int :=
    (loopR (slices_IndexFunc_Running_Running_L1 a0 f1) 0).bind (Sum.elim (fun _ =>
    some (-1)) some)

noncomputable def slices_ContainsFunc_Running_Running (a0 : (List Running)) (f1 : (Running → Option Bool)) : Option Bool :=
    (slices_IndexFunc_Running_Running a0 f1).bind fun y3 =>
    some ((decide (y3 ≥ 0)))

noncomputable def board_running (a0 : Running) : Option Bool :=
    (board_in a0.State 0 3).bind fun y8 =>
    (if y8 = true then
    (board_in a0.Since 0 2147483648).bind fun y21 =>
    (if y21 = true then
    (board_in a0.Frequency 0 6000).bind fun y35 =>
    (if y35 = true then
    (board_in a0.Phase 0 3599).bind fun y49 =>
    some y49
    else
    some false : Option Bool).bind fun x42 =>
    some x42
    else
    some false : Option Bool).bind fun x28 =>
    some x28
    else
    some false : Option Bool).bind fun x15 =>
    some x15

noncomputable def board_State_1 (a0 : Running) : Option Bool :=
    (board_running a0).bind fun y8 =>
    some (!y8)

noncomputable def board_closed_L1 (a0 : Board) (a1 : Power) (a2 : Int) : (Int × Int) → Option ((Int × Int) ⊕ Int)
  | (x29, x30) =>
    if ((decide (x30 < (len a0.Breakers)))) = true then
    (idx a0.Breakers x30).bind fun y50 =>
    (if (((y50.Kind == 3))) = true then
    (if (((y50.B == a2))) = true then
    (idx a1.Closed x30).bind fun y86 =>
    some y86
    else
    some false : Option Bool).bind fun x79 =>
    some x79
    else
    some false : Option Bool).bind fun x65 =>
    (if x65 = true then
    some (((W (x29 + 1))))
    else
    some x29 : Option Int).bind fun x70 =>
    some (.inl ((x70, (W (x30 + 1)))))
    else
    some (.inr x29)
noncomputable def board_closed (a0 : Board) (a1 : Power) (a2 : Int) : Option Int :=
    (loopR (board_closed_L1 a0 a1 a2) (0, 0)).bind fun x31 =>
    some x31

noncomputable def board_State_L1 (a0 : Board) (a1 : Power) : (Bool × Int) → Option ((Bool × Int) ⊕ Bool)
  | (x62, x63) =>
    if ((decide (x63 < (len a1.Limits)))) = true then
    (idx a1.Limits x63).bind fun y87 =>
    (if x62 = true then
    (idx a0.Consumers x63).bind fun y98 =>
    (board_in y87 0 y98.Load).bind fun y103 =>
    (if y103 = true then
    (board_closed a0 a1 x63).bind fun y117 =>
    some (((decide (y117 ≤ 1))))
    else
    some false : Option Bool).bind fun x110 =>
    some x110
    else
    some false : Option Bool).bind fun x92 =>
    some (.inl ((x92, (W (x63 + 1)))))
    else
    some (.inr x62)
noncomputable def board_State (a0 : Board) (a1 : Power) : Option Int :=
    (board_Check a0).bind fun y28 =>
    if (((y28 != 0))) = true then
    some y28
    else
    (if ((((len a1.Closed) != (len a0.Breakers)))) = true then
    some true
    else
    (if ((((len a1.Sources) != (len a0.Sources)))) = true then
    some true
    else
    some (((((len a1.Limits) != (len a0.Consumers))))) : Option Bool).bind fun x140 =>
    some x140 : Option Bool).bind fun x40 =>
    if x40 = true then
    some 8
    else
    (board_broken a0 a1.Broken).bind fun y48 =>
    (if y48 = true then
    (slices_ContainsFunc_Running_Running a1.Sources (fun z0_ => board_State_1 z0_)).bind fun y129 =>
    some (!y129)
    else
    some false : Option Bool).bind fun x55 =>
    (loopR (board_State_L1 a0 a1) (x55, 0)).bind fun x64 =>
    if (!x64) = true then
    some 11
    else
    some 0

noncomputable def slices_Clone_bool_bool (a0 : (List Bool)) : Option (List Bool) :=
    app ([] : List Bool) a0

noncomputable def slices_Clone_Running_Running (a0 : (List Running)) : Option (List Running) :=
    app ([] : List Running) a0

noncomputable def slices_Clone_int_int (a0 : (List Int)) : Option (List Int) :=
    app ([] : List Int) a0

noncomputable def slices_Clone_Part_Part (a0 : (List Part)) : Option (List Part) :=
    app ([] : List Part) a0

noncomputable def states_Clone (a0 : Power) : Option Power :=
    (slices_Clone_bool_bool a0.Closed).bind fun y25 =>
    (slices_Clone_Running_Running a0.Sources).bind fun y34 =>
    (slices_Clone_int_int a0.Limits).bind fun y43 =>
    (slices_Clone_Part_Part a0.Broken).bind fun y52 =>
    some (⟨y25, y34, y43, y52⟩ : Power)

noncomputable def angle_Norm (a0 : Int) : Option Int :=
    (remO a0 3600).bind fun y3 =>
    (if ((decide (y3 < 0))) = true then
    some (((W (y3 + 3600))))
    else
    some y3 : Option Int).bind fun x7 =>
    some x7

noncomputable def sync_Turn_L1 (a1 : Power) : (Int × (List Running)) → Option ((Int × (List Running)) ⊕ (List Running))
  | (x82, x83) =>
    if ((decide (x82 < (len a1.Sources)))) = true then
    (idx a1.Sources x82).bind fun y109 =>
    (if (((y109.State == 2))) = true then
    (angle_Norm ((W (y109.Phase + ((W ((36 : Int) * ((W (y109.Frequency - 5000)))))))))).bind fun y132 =>
    (idx x83 x82).bind fun y139 =>
    (setO x83 x82 { y139 with Phase := y132 }).bind fun y144 =>
    some y144
    else
    some x83 : Option (List Running)).bind fun x124 =>
    some (.inl (((W (x82 + 1)), x124)))
    else
    some (.inr x83)
noncomputable def sync_Turn (a0 : Board) (a1 : Power) : Option (Power × Int) :=
    (board_State a0 a1).bind fun y37 =>
    if (((y37 != 0))) = true then
    some (((⟨([] : List Bool), ([] : List Running), ([] : List Int), ([] : List Part)⟩ : Power), y37))
    else
    (states_Clone a1).bind fun y54 =>
    (loopR (sync_Turn_L1 a1) (0, y54.Sources)).bind fun x86 =>
    some (((⟨y54.Closed, x86, y54.Limits, y54.Broken⟩ : Power), 0))

noncomputable def dynposref02_Norm (a0 : Int) : Option Int :=
    (remO a0 3600).bind fun y3 =>
    (remO ((W (y3 + 3600))) 3600).bind fun y5 =>
    some y5

noncomputable def board_groups_L3 (a0 : Board) (a1 : Power) : ((List Int) × Int) → Option (((List Int) × Int) ⊕ (List Int))
  | (x76, x79) =>
    if ((decide (x79 < (len a0.Breakers)))) = true then
    (idx a0.Breakers x79).bind fun y100 =>
    (if (((y100.Kind == 1))) = true then
    (idx a1.Closed x79).bind fun y168 =>
    some y168
    else
    some false : Option Bool).bind fun x115 =>
    (if x115 = true then
    (idx x76 y100.A).bind fun y129 =>
    (idx x76 y100.B).bind fun y134 =>
    (setO x76 y100.A (if y134 < y129 then y134 else y129)).bind fun y147 =>
    (setO y147 y100.B (if y134 < y129 then y134 else y129)).bind fun y157 =>
    some y157
    else
    some x76 : Option (List Int)).bind fun x120 =>
    some (.inl ((x120, (W (x79 + 1)))))
    else
    some (.inr x76)
noncomputable def board_groups_L2 (a0 : Board) (a1 : Power) (x41 : (List Int)) : ((List Int) × Int) → Option (((List Int) × Int) ⊕ (List Int))
  | (x51, x54) =>
    if ((decide (x54 < (len x41)))) = true then
    (loopR (board_groups_L3 a0 a1) (x51, 0)).bind fun x80 =>
    some (.inl ((x80, (W (x54 + 1)))))
    else
    some (.inr x51)
noncomputable def board_groups_L1 (y28 : List Int) : ((List Int) × Int) → Option (((List Int) × Int) ⊕ (List Int))
  | (x37, x40) =>
    if ((decide (x40 < (len y28)))) = true then
    (idx x37 x40).bind fun y187 =>
    (setO x37 x40 x40).bind fun y192 =>
    some (.inl ((y192, (W (x40 + 1)))))
    else
    some (.inr x37)
noncomputable def board_groups (a0 : Board) (a1 : Power) : Option (List Int) :=
    (mkL Int a0.Buses).bind fun y28 =>
    (loopR (board_groups_L1 y28) (y28, 0)).bind fun x41 =>
    (loopR (board_groups_L2 a0 a1 x41) (x41, 0)).bind fun x55 =>
    some x55

noncomputable def board_led_L1 (a0 : Board) (a1 : Power) (a2 : Int) (a3 : Int) : Int → Option (Int ⊕ (Unit ⊕ (Int × Bool)))
  | x28 =>
    if ((decide (x28 < (len a0.Breakers)))) = true then
    (idx a0.Breakers x28).bind fun y47 =>
    (if (((y47.Kind == a2))) = true then
    (if (((y47.B == a3))) = true then
    (idx a1.Closed x28).bind fun y77 =>
    some y77
    else
    some false : Option Bool).bind fun x70 =>
    some x70
    else
    some false : Option Bool).bind fun x62 =>
    if x62 = true then
    some (.inr (.inr (y47.A, true)))
    else
    some (.inl ((W (x28 + 1))))
    else
    some (.inr (.inl ()))
noncomputable def board_led (a0 : Board) (a1 : Power) (a2 : Int) (a3 : Int) : Option (Int × Bool) :=
    (loopR (board_led_L1 a0 a1 a2 a3) 0).bind (Sum.elim (fun _ =>
    some (0, false)) some)

noncomputable def board_connected (a0 : Board) (a1 : Power) (a2 : Int) : Option (Int × Bool) :=
    (board_in a2 0 ((W ((len a1.Sources) - 1)))).bind fun y28 =>
    (if (!y28) = true then
    some true
    else
    (idx a1.Sources a2).bind fun y53 =>
    some ((((y53.State != 2)))) : Option Bool).bind fun x35 =>
    if x35 = true then
    some (0, false)
    else
    (board_led a0 a1 2 a2).bind fun p_ => match p_ with
    | (y43, y44) =>
    some (y43, y44)

noncomputable def board_fed (a0 : Board) (a1 : Power) (a2 : Int) : Option (Int × Bool) :=
    (board_led a0 a1 3 a2).bind fun p_ => match p_ with
    | (y27, y28) =>
    some (y27, y28)

noncomputable def slices_IndexFunc_Island_Island_L1 (a0 : (List Island)) (f1 : (Island → Option Bool)) : Int → Option (Int ⊕ (Unit ⊕ Int))
  | x4 =>
    if ((decide (x4 < (len a0)))) = true then
    (idx a0 x4).bind fun y24 =>
    (f1 y24).bind fun y37 =>
    if y37 = true then
    some (.inr (.inr x4))
    else
    some (.inl ((W (x4 + 1))))
    else
    some (.inr (.inl ()))
noncomputable def slices_IndexFunc_Island_Island (a0 : (List Island)) (f1 : (Island → Option Bool)) : Option Int :=
    (loopR (slices_IndexFunc_Island_Island_L1 a0 f1) 0).bind (Sum.elim (fun _ =>
    some (-1)) some)

noncomputable def slices_DeleteFunc_Island_Island_L1 (f1 : (Island → Option Bool)) : ((List Island) × Int × Int) → Option (((List Island) × Int × Int) ⊕ ((List Island) × Int))
  | (x17, x20, x21) =>
    if ((decide (x21 < (len x17)))) = true then
    (idx x17 x21).bind fun y59 =>
    (f1 y59).bind fun y83 =>
    (if (!y83) = true then
    (idx x17 x20).bind fun y102 =>
    (setO x17 x20 y59).bind fun y107 =>
    some ((y107, (W (x20 + 1))))
    else
    some (x17, x20) : Option ((List Island) × Int)).bind fun p_ => match p_ with
    | (x92, x95) =>
    some (.inl ((x92, x95, (W (x21 + 1)))))
    else
    some (.inr (x17, x20))
noncomputable def slices_DeleteFunc_Island_Island (a0 : (List Island)) (f1 : (Island → Option Bool)) : Option (List Island) :=
    (slices_IndexFunc_Island_Island a0 f1).bind fun y4 =>
    if (((y4 == (-1)))) = true then
    some a0
    else
    (loopR (slices_DeleteFunc_Island_Island_L1 f1) ((a0, y4, (W (y4 + 1))))).bind fun p_ => match p_ with
    | (x22, x25) =>
    (slc x22 x25 (len x22)).bind fun y32 =>
    (slc ((x22.take (x25).toNat ++ List.replicate (x22.length - (x25).toNat) Rep.zero)) 0 x25).bind fun y41 =>
    some y41

noncomputable def board_Islands_1 (a0 : Island) : Option Bool :=
    some ((((len a0.Buses) == 0)))

noncomputable def board_Islands_L3 (a0 : Board) (a1 : Power) (y40 : (List Int)) : ((List Island) × Int) → Option (((List Island) × Int) ⊕ (List Island))
  | (x87, x90) =>
    if ((decide (x90 < (len a0.Consumers)))) = true then
    (board_fed a0 a1 x90).bind fun p_ => match p_ with
    | (y128, y129) =>
    (if y129 = true then
    (idx y40 y128).bind fun y145 =>
    (idx x87 y145).bind fun y154 =>
    (app y154.Consumers ([x90] : List Int)).bind fun y167 =>
    (setO x87 y145 { y154 with Consumers := y167 }).bind fun y168 =>
    (idx y168 y145).bind fun y176 =>
    some y168
    else
    some x87 : Option (List Island)).bind fun x137 =>
    some (.inl ((x137, (W (x90 + 1)))))
    else
    some (.inr x87)
noncomputable def board_Islands_L2 (a0 : Board) (a1 : Power) (y40 : (List Int)) : ((List Island) × Int) → Option (((List Island) × Int) ⊕ (List Island))
  | (x73, x76) =>
    if ((decide (x76 < (len a0.Sources)))) = true then
    (board_connected a0 a1 x76).bind fun p_ => match p_ with
    | (y203, y204) =>
    (if y204 = true then
    (idx y40 y203).bind fun y220 =>
    (idx x73 y220).bind fun y229 =>
    (app y229.Sources ([x76] : List Int)).bind fun y242 =>
    (setO x73 y220 { y229 with Sources := y242 }).bind fun y243 =>
    (idx y243 y220).bind fun y251 =>
    some y243
    else
    some x73 : Option (List Island)).bind fun x212 =>
    some (.inl ((x212, (W (x76 + 1)))))
    else
    some (.inr x73)
noncomputable def board_Islands_L1 (y40 : (List Int)) : ((List Island) × Int) → Option (((List Island) × Int) ⊕ (List Island))
  | (x59, x62) =>
    if ((decide (x62 < (len y40)))) = true then
    (idx y40 x62).bind fun y277 =>
    (idx x59 y277).bind fun y282 =>
    (app y282.Buses ([x62] : List Int)).bind fun y295 =>
    (setO x59 y277 { y282 with Buses := y295 }).bind fun y296 =>
    (idx y296 y277).bind fun y304 =>
    some (.inl ((y296, (W (x62 + 1)))))
    else
    some (.inr x59)
noncomputable def board_Islands (a0 : Board) (a1 : Power) : Option (List Island) :=
    (board_State a0 a1).bind fun y29 =>
    if (((y29 != 0))) = true then
    some ([] : List Island)
    else
    (board_groups a0 a1).bind fun y40 =>
    (mkL Island a0.Buses).bind fun y50 =>
    (loopR (board_Islands_L1 y40) (y50, 0)).bind fun x63 =>
    (loopR (board_Islands_L2 a0 a1 y40) (x63, 0)).bind fun x77 =>
    (loopR (board_Islands_L3 a0 a1 y40) (x77, 0)).bind fun x91 =>
    (slices_DeleteFunc_Island_Island x91 (fun z0_ => board_Islands_1 z0_)).bind fun y106 =>
    some y106

noncomputable def board_Of_L1 (a2 : Int) (y36 : (List Island)) : Int → Option (Int ⊕ (Unit ⊕ (Island × Bool)))
  | x45 =>
    if ((decide (x45 < (len y36)))) = true then
    (idx y36 x45).bind fun y69 =>
    (slices_Contains_int_int y69.Buses a2).bind fun y93 =>
    if y93 = true then
    some (.inr (.inr (y69, true)))
    else
    some (.inl ((W (x45 + 1))))
    else
    some (.inr (.inl ()))
noncomputable def board_Of (a0 : Board) (a1 : Power) (a2 : Int) : Option (Island × Bool) :=
    (board_Islands a0 a1).bind fun y36 =>
    (loopR (board_Of_L1 a2 y36) 0).bind (Sum.elim (fun _ =>
    some (((⟨([] : List Int), ([] : List Int), ([] : List Int)⟩ : Island), false))) some)

noncomputable def sync_Leader (a0 : Board) (a1 : Power) (a2 : Int) : Option (Int × Bool) :=
    (board_Of a0 a1 a2).bind fun p_ => match p_ with
    | (y27, y28) =>
    if ((((len y27.Sources) == 0))) = true then
    some (0, false)
    else
    (idx y27.Sources 0).bind fun y56 =>
    some (y56, true)

noncomputable def board_Connected (a0 : Board) (a1 : Power) (a2 : Int) : Option (Int × Bool) :=
    (board_State a0 a1).bind fun y28 =>
    if (((y28 != 0))) = true then
    some (0, false)
    else
    (board_connected a0 a1 a2).bind fun p_ => match p_ with
    | (y38, y39) =>
    some (y38, y39)

noncomputable def sync_set_L1 (a1 : (List Int)) (a2 : Running) : ((List Running) × Int) → Option (((List Running) × Int) ⊕ (List Running))
  | (x13, x16) =>
    if ((decide (x16 < (len a1)))) = true then
    (idx a1 x16).bind fun y37 =>
    (idx x13 y37).bind fun y42 =>
    (setO x13 y37 { y42 with Frequency := a2.Frequency }).bind fun y47 =>
    (idx y47 y37).bind fun y52 =>
    (setO y47 y37 { y52 with Phase := a2.Phase }).bind fun y57 =>
    some (.inl ((y57, (W (x16 + 1)))))
    else
    some (.inr x13)
noncomputable def sync_set (a0 : Power) (a1 : (List Int)) (a2 : Running) : Option (List Running) :=
    (loopR (sync_set_L1 a1 a2) (a0.Sources, 0)).bind fun x17 =>
    some x17

noncomputable def sync_Match (a0 : Board) (a1 : Power) (a2 : Int) (a3 : Int) : Option (Power × Int) :=
    (board_State a0 a1).bind fun y37 =>
    if (((y37 != 0))) = true then
    some (((⟨([] : List Bool), ([] : List Running), ([] : List Int), ([] : List Part)⟩ : Power), y37))
    else
    (if ((decide (a2 < 0))) = true then
    some true
    else
    (if ((decide (a2 ≥ (len a0.Sources)))) = true then
    some true
    else
    (if ((decide (a3 < 0))) = true then
    some true
    else
    some (((decide (a3 ≥ a0.Buses)))) : Option Bool).bind fun x215 =>
    some x215 : Option Bool).bind fun x207 =>
    some x207 : Option Bool).bind fun x55 =>
    if x55 = true then
    some (((⟨([] : List Bool), ([] : List Running), ([] : List Int), ([] : List Part)⟩ : Power), 10))
    else
    (sync_Leader a0 a1 a3).bind fun p_ => match p_ with
    | (y69, y70) =>
    (if (!y70) = true then
    some true
    else
    (idx a1.Sources a2).bind fun y199 =>
    some ((((y199.State != 2)))) : Option Bool).bind fun x79 =>
    if x79 = true then
    some (((⟨([] : List Bool), ([] : List Running), ([] : List Int), ([] : List Part)⟩ : Power), 11))
    else
    (states_Clone a1).bind fun y93 =>
    (board_Connected a0 a1 a2).bind fun p_ => match p_ with
    | (y127, y128) =>
    (if y128 = true then
    (board_Of a0 a1 y127).bind fun p_ => match p_ with
    | (y171, y172) =>
    some y171.Sources
    else
    some ([a2] : List Int) : Option (List Int)).bind fun x136 =>
    (idx a1.Sources y69).bind fun y144 =>
    (sync_set y93 x136 y144).bind fun y155 =>
    some (((⟨y93.Closed, y155, y93.Limits, y93.Broken⟩ : Power), 0))

noncomputable def slices_Index_Part_Part_L1 (a0 : (List Part)) (a1 : Part) : Int → Option (Int ⊕ (Unit ⊕ Int))
  | x9 =>
    if ((decide (x9 < (len a0)))) = true then
    (idx a0 x9).bind fun y29 =>
    if ((decide (a1 = y29))) = true then
    some (.inr (.inr x9))
    else
    some (.inl ((W (x9 + 1))))
    else
    some (.inr (.inl ()))
noncomputable def slices_Index_Part_Part (a0 : (List Part)) (a1 : Part) : Option Int :=
    (loopR (slices_Index_Part_Part_L1 a0 a1) 0).bind (Sum.elim (fun _ =>
    some (-1)) some)

noncomputable def slices_Contains_Part_Part (a0 : (List Part)) (a1 : Part) : Option Bool :=
    (slices_Index_Part_Part a0 a1).bind fun y8 =>
    some ((decide (y8 ≥ 0)))

noncomputable def board_Broken (a0 : Power) (a1 : Int) (a2 : Int) : Option Bool :=
    (slices_Contains_Part_Part a0.Broken (⟨a1, a2⟩ : Part)).bind fun y16 =>
    some y16

noncomputable def board_Fed (a0 : Board) (a1 : Power) (a2 : Int) : Option (Int × Bool) :=
    (board_State a0 a1).bind fun y28 =>
    if (((y28 != 0))) = true then
    some (0, false)
    else
    (board_fed a0 a1 a2).bind fun p_ => match p_ with
    | (y38, y39) =>
    some (y38, y39)

noncomputable def sync_sound (a0 : Board) (a1 : Power) (a2 : Int) : Option Bool :=
    (idx a0.Breakers a2).bind fun y27 =>
    (idx a1.Closed a2).bind fun y43 =>
    (if y43 = true then
    some true
    else
    (board_Broken a1 2 a2).bind fun y117 =>
    (if y117 = true then
    some true
    else
    (board_Broken a1 3 y27.A).bind fun y132 =>
    some y132 : Option Bool).bind fun x124 =>
    some x124 : Option Bool).bind fun x48 =>
    if x48 = true then
    some false
    else
    if (((y27.Kind == 1))) = true then
    (board_Broken a1 3 y27.B).bind fun y60 =>
    some (!y60)
    else
    if (((y27.Kind == 2))) = true then
    (board_Broken a1 1 y27.B).bind fun y70 =>
    (if (!y70) = true then
    (idx a1.Sources y27.B).bind fun y83 =>
    some ((((y83.State == 2))))
    else
    some false : Option Bool).bind fun x77 =>
    some x77
    else
    (board_Fed a0 a1 y27.B).bind fun p_ => match p_ with
    | (y91, y92) =>
    (board_Broken a1 4 y27.B).bind fun y100 =>
    (if (!y100) = true then
    some (!y92)
    else
    some false : Option Bool).bind fun x107 =>
    some x107

noncomputable def angle_Diff (a0 : Int) (a1 : Int) : Option Int :=
    (angle_Norm a1).bind fun y3 =>
    (angle_Norm a0).bind fun y10 =>
    (angle_Norm ((W (y3 - y10)))).bind fun y17 =>
    (if ((decide (y17 > 1800))) = true then
    some (((W (y17 - 3600))))
    else
    some y17 : Option Int).bind fun x26 =>
    some x26

noncomputable def sync_Agree (a0 : Board) (a1 : Running) (a2 : Running) : Option Bool :=
    (if ((decide ((if a2.Frequency < a1.Frequency then a2.Frequency else a1.Frequency) < 0))) = true then
    some true
    else
    some (((decide ((if a1.Frequency < a2.Frequency then a2.Frequency else a1.Frequency) > 6000)))) : Option Bool).bind fun x25 =>
    if x25 = true then
    some false
    else
    (angle_Diff a1.Phase a2.Phase).bind fun y34 =>
    (if ((decide (((if (W (a1.Frequency - a2.Frequency)) < (W (a2.Frequency - a1.Frequency)) then (W (a2.Frequency - a1.Frequency)) else (W (a1.Frequency - a2.Frequency)))) ≤ a0.Frequency))) = true then
    some (((decide (((if y34 < (W (-y34)) then (W (-y34)) else y34)) ≤ a0.Phase))))
    else
    some false : Option Bool).bind fun x42 =>
    some x42

noncomputable def sync_synchronous (a0 : Board) (a1 : Power) (a2 : Breaker) : Option Bool :=
    (sync_Leader a0 a1 a2.A).bind fun p_ => match p_ with
    | (y32, y33) =>
    if (!y33) = true then
    some true
    else
    if (((a2.Kind == 1))) = true then
    (sync_Leader a0 a1 a2.B).bind fun p_ => match p_ with
    | (y49, y50) =>
    (if (!y50) = true then
    some true
    else
    (idx a1.Sources y32).bind fun y68 =>
    (idx a1.Sources y49).bind fun y75 =>
    (sync_Agree a0 y68 y75).bind fun y82 =>
    some y82 : Option Bool).bind fun x58 =>
    some x58
    else
    if (((a2.Kind == 2))) = true then
    (idx a1.Sources y32).bind fun y96 =>
    (idx a1.Sources a2.B).bind fun y103 =>
    (sync_Agree a0 y96 y103).bind fun y110 =>
    some y110
    else
    some true

noncomputable def sync_May (a0 : Board) (a1 : Power) (a2 : Int) : Option Int :=
    (board_State a0 a1).bind fun y28 =>
    if (((y28 != 0))) = true then
    some y28
    else
    (if ((decide (a2 < 0))) = true then
    some true
    else
    some (((decide (a2 ≥ (len a0.Breakers))))) : Option Bool).bind fun x39 =>
    if x39 = true then
    some 10
    else
    (sync_sound a0 a1 a2).bind fun y47 =>
    if (!y47) = true then
    some 11
    else
    (idx a0.Breakers a2).bind fun y57 =>
    (board_Of a0 a1 y57.A).bind fun p_ => match p_ with
    | (y72, y73) =>
    (if (((y57.Kind == 1))) = true then
    (slices_Contains_int_int y72.Buses y57.B).bind fun y123 =>
    some y123
    else
    some false : Option Bool).bind fun x97 =>
    (if (!x97) = true then
    (sync_synchronous a0 a1 y57).bind fun y113 =>
    some (!y113)
    else
    some false : Option Bool).bind fun x104 =>
    if x104 = true then
    some 12
    else
    some 0

noncomputable def sync_Follow_L1 (a1 : Power) (y54 : Power) (y82 : (List Island)) : (Int × (List Running)) → Option ((Int × (List Running)) ⊕ (List Running))
  | (x91, x92) =>
    if ((decide (x91 < (len y82)))) = true then
    (idx y82 x91).bind fun y118 =>
    (if ((decide ((len y118.Sources) > 0))) = true then
    (idx y118.Sources 0).bind fun y150 =>
    (idx a1.Sources y150).bind fun y155 =>
    (sync_set (⟨y54.Closed, x92, y54.Limits, y54.Broken⟩ : Power) y118.Sources y155).bind fun y166 =>
    some y166
    else
    some x92 : Option (List Running)).bind fun x142 =>
    some (.inl (((W (x91 + 1)), x142)))
    else
    some (.inr x92)
noncomputable def sync_Follow (a0 : Board) (a1 : Power) : Option (Power × Int) :=
    (board_State a0 a1).bind fun y37 =>
    if (((y37 != 0))) = true then
    some (((⟨([] : List Bool), ([] : List Running), ([] : List Int), ([] : List Part)⟩ : Power), y37))
    else
    (states_Clone a1).bind fun y54 =>
    (board_Islands a0 a1).bind fun y82 =>
    (loopR (sync_Follow_L1 a1 y54 y82) (0, y54.Sources)).bind fun x95 =>
    some (((⟨y54.Closed, x95, y54.Limits, y54.Broken⟩ : Power), 0))

noncomputable def sync_Close (a0 : Board) (a1 : Power) (a2 : Int) : Option (Power × Int) :=
    (sync_May a0 a1 a2).bind fun y37 =>
    if (((y37 != 0))) = true then
    some (((⟨([] : List Bool), ([] : List Running), ([] : List Int), ([] : List Part)⟩ : Power), y37))
    else
    (states_Clone a1).bind fun y54 =>
    (idx y54.Closed a2).bind fun y81 =>
    (setO y54.Closed a2 true).bind fun y86 =>
    (sync_Follow a0 (⟨y86, y54.Sources, y54.Limits, y54.Broken⟩ : Power)).bind fun p_ => match p_ with
    | (y92, y93) =>
    some (y92, y93)

noncomputable def sync_together (a0 : Board) (a1 : Power) (a2 : Int) (a3 : Int) : Option Bool :=
    (board_Connected a0 a1 a2).bind fun p_ => match p_ with
    | (y27, y28) =>
    if (!y28) = true then
    some false
    else
    (board_Of a0 a1 y27).bind fun p_ => match p_ with
    | (y40, y41) =>
    (slices_Contains_int_int y40.Sources a3).bind fun y65 =>
    some y65

noncomputable def sync_Bad_L2 (a0 : Board) (a1 : Power) (a2 : Power) (x57 : Int) : Int → Option (Int ⊕ (Unit ⊕ Bool))
  | x77 =>
    if ((decide (x77 < x57))) = true then
    (sync_together a0 a2 x57 x77).bind fun y96 =>
    (if y96 = true then
    (sync_together a0 a1 x57 x77).bind fun y111 =>
    (if (!y111) = true then
    (idx a1.Sources x57).bind fun y125 =>
    (idx a1.Sources x77).bind fun y132 =>
    (sync_Agree a0 y125 y132).bind fun y139 =>
    some (!y139)
    else
    some false : Option Bool).bind fun x118 =>
    some x118
    else
    some false : Option Bool).bind fun x103 =>
    if x103 = true then
    some (.inr (.inr true))
    else
    some (.inl ((W (x77 + 1))))
    else
    some (.inr (.inl ()))
noncomputable def sync_Bad_L1 (a0 : Board) (a1 : Power) (a2 : Power) : Int → Option (Int ⊕ (Unit ⊕ Bool))
  | x57 =>
    if ((decide (x57 < (len a0.Sources)))) = true then
    (loopR (sync_Bad_L2 a0 a1 a2 x57) 0).bind (Sum.elim (fun _ =>
    some (.inl ((W (x57 + 1))))) (fun r_ => some (.inr (.inr r_))))
    else
    some (.inr (.inl ()))
noncomputable def sync_Bad (a0 : Board) (a1 : Power) (a2 : Power) : Option Bool :=
    (board_State a0 a1).bind fun y41 =>
    (if (((y41 != 0))) = true then
    some true
    else
    (board_State a0 a2).bind fun y160 =>
    some ((((y160 != 0)))) : Option Bool).bind fun x48 =>
    if x48 = true then
    some false
    else
    (loopR (sync_Bad_L1 a0 a1 a2) 0).bind (Sum.elim (fun _ =>
    some false) some)

noncomputable def dynposlaw16_sane : Option Bool :=
    (dynposlaw16_pair).bind fun p_ => match p_ with
    | (y3, y4) =>
    (sync_Match y3 y4 1 0).bind fun p_ => match p_ with
    | (y47, y48) =>
    (sync_Close y3 y47 0).bind fun p_ => match p_ with
    | (y75, y76) =>
    (sync_May y3 y4 0).bind fun y103 =>
    (if (((y103 == 12))) = true then
    (if (((y48 == 0))) = true then
    (if (((y76 == 0))) = true then
    (if ((((len y75.Closed) == 3))) = true then
    (idx y75.Closed 0).bind fun y137 =>
    (if y137 = true then
    (sync_Bad y3 y47 y75).bind fun y149 =>
    some (!y149)
    else
    some false : Option Bool).bind fun x142 =>
    some x142
    else
    some false : Option Bool).bind fun x130 =>
    some x130
    else
    some false : Option Bool).bind fun x123 =>
    some x123
    else
    some false : Option Bool).bind fun x116 =>
    some x116
    else
    some false : Option Bool).bind fun x110 =>
    some x110

noncomputable def dynposlaw16_SyncTurns_L1 (a1 : U8) (y3 : Board) : (Int × (List Bool) × (List Running) × (List Int) × (List Part)) → Option ((Int × (List Bool) × (List Running) × (List Int) × (List Part)) ⊕ (((List Bool) × (List Running) × (List Int) × (List Part)) ⊕ Bool))
  | (x112, x113, x116, x119, x122) =>
    (remO a1.n 50).bind fun y217 =>
    if ((decide (x112 < (W y217)))) = true then
    (sync_Turn y3 (⟨x113, x116, x119, x122⟩ : Power)).bind fun p_ => match p_ with
    | (y222, y223) =>
    (if (((y223 != 0))) = true then
    some true
    else
    some (((((len y222.Sources) != 2)))) : Option Bool).bind fun x251 =>
    if x251 = true then
    some (.inr (.inr false))
    else
    some (.inl (((W (x112 + 1)), y222.Closed, y222.Sources, y222.Limits, y222.Broken)))
    else
    some (.inr (.inl (x113, x116, x119, x122)))
noncomputable def dynposlaw16_SyncTurns (a0 : (List Int)) (a1 : U8) : Option Bool :=
    (dynposlaw16_pair).bind fun p_ => match p_ with
    | (y3, y4) =>
    (dynposmake_New a0).bind fun y47 =>
    (Src_Range y47 4900 5100).bind fun p_ => match p_ with
    | (y57, st58) =>
    (Src_Range st58 4900 5100).bind fun p_ => match p_ with
    | (y66, st67) =>
    (idx y4.Sources 0).bind fun y75 =>
    (setO y4.Sources 0 { y75 with Frequency := y57 }).bind fun y80 =>
    (idx y80 1).bind fun y85 =>
    (setO y80 1 { y85 with Frequency := y66 }).bind fun y90 =>
    (loopR (dynposlaw16_SyncTurns_L1 a1 y3) (0, y4.Closed, y90, y4.Limits, y4.Broken)).bind (Sum.elim (fun p_ => match p_ with
    | (x125, x128, x131, x134) =>
    (remO a1.n 50).bind fun y143 =>
    (dynposref02_Norm ((W ((10 : Int) + ((W (((W ((36 : Int) * ((W (y57 - 5000)))))) * (W y143)))))))).bind fun y145 =>
    (remO a1.n 50).bind fun y153 =>
    (dynposref02_Norm ((W ((100 : Int) + ((W (((W ((36 : Int) * ((W (y66 - 5000)))))) * (W y153)))))))).bind fun y155 =>
    (idx x128 0).bind fun y163 =>
    (if (((y163.Phase == y145))) = true then
    (idx x128 1).bind fun y174 =>
    (if (((y174.Phase == y155))) = true then
    (if (((y163.Frequency == y57))) = true then
    (dynposlaw16_sane).bind fun y197 =>
    some y197
    else
    some false : Option Bool).bind fun x190 =>
    some x190
    else
    some false : Option Bool).bind fun x179 =>
    some x179
    else
    some false : Option Bool).bind fun x168 =>
    some x168) some)

noncomputable def Src_N_raw (a0 : Src) (a1 : Int) : Option (Int × Src) :=
    if ((decide (a0.At ≥ (len a0.L)))) = true then
    some (0, a0)
    else
    (idx a0.L ((W (((W (a0.At + 1))) - 1)))).bind fun y13 =>
    (dynposmake_Mod y13 a1).bind fun y18 =>
    some ((y18, (⟨a0.L, (W (a0.At + 1))⟩ : Src)))

end Go.Proofs.Ytdfkfohpgakihaa
