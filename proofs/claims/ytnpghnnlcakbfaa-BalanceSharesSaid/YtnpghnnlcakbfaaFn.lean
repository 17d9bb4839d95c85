/- The plain functions. Written by a program (wip/gen). -/
import Derived.Test.YtnpghnnlcakbfaaHp
namespace Go.Proofs.Ytnpghnnlcakbfaa
open Go Go.RowKit Dp

noncomputable def dynposmake_Mod (a0 : Int) (a1 : Int) : Option Int :=
    if ((decide (a1 < 1))) = true then
    some 0
    else
    (remO a0 a1).bind fun y7 =>
    (remO ((W (y7 + a1))) a1).bind fun y9 =>
    some y9

noncomputable def Src_Pick (st0 : List Int) (a1 : (List Int)) : Option (Int × List Int) :=
    (Src_N st0 (len a1)).bind fun p_ => match p_ with
    | (y3, st4) =>
    (idx a1 y3).bind fun y11 =>
    some (y11, st4)

noncomputable def dynposlaw17_ratings_L1 : ((List Int) × Int × List Int) → Option (((List Int) × Int × List Int) ⊕ ((List Int) × List Int))
  | (x15, x18, st19) =>
    if ((decide (x18 > 0))) = true then
    (Src_Pick st19 ([1, 3, 10, 50, 100] : List Int)).bind fun p_ => match p_ with
    | (y46, st47) =>
    (app x15 ([y46] : List Int)).bind fun y59 =>
    some (.inl ((y59, (W (x18 - 1)), st47)))
    else
    some (.inr (x15, st19))
noncomputable def dynposlaw17_ratings (st0 : List Int) : Option ((List Int) × List Int) :=
    (Src_N st0 6).bind fun p_ => match p_ with
    | (y7, st8) =>
    (loopR (dynposlaw17_ratings_L1) ((([] : List Int), y7, st8))).bind fun p_ => match p_ with
    | (x20, st23) =>
    some (x20, st23)

noncomputable def balance_check_L1 (a1 : (List Int)) : (Int × Int) → Option ((Int × Int) ⊕ (Int ⊕ (Int × Int)))
  | (x9, x10) =>
    if ((decide (x10 < (len a1)))) = true then
    (idx a1 x10).bind fun y53 =>
    (if ((decide (y53 < 1))) = true then
    some true
    else
    some (((decide (y53 > 50000)))) : Option Bool).bind fun x60 =>
    if x60 = true then
    some (.inr (.inr (0, 1)))
    else
    some (.inl (((W (x9 + y53)), (W (x10 + 1)))))
    else
    some (.inr (.inl x9))
noncomputable def balance_check (a0 : Int) (a1 : (List Int)) : Option (Int × Int) :=
    if ((decide ((len a1) > 8))) = true then
    some (0, 2)
    else
    (loopR (balance_check_L1 a1) (0, 0)).bind (Sum.elim (fun x11 =>
    (if ((decide (a0 < 0))) = true then
    some true
    else
    some (((decide (a0 > 800000)))) : Option Bool).bind fun x19 =>
    if x19 = true then
    some (0, 1)
    else
    (if ((((len a1) == 0))) = true then
    some ((((a0 != 0))))
    else
    some false : Option Bool).bind fun x27 =>
    if x27 = true then
    some (0, 9)
    else
    some (x11, 0)) some)

noncomputable def balance_Split_1 (a0 : Int) (c0 : Int) (c1 : (List Int)) (c2 : Int) : Option Int :=
    (idx c1 a0).bind fun y5 =>
    (remO ((W (c0 * y5))) c2).bind fun y10 =>
    some y10

noncomputable def balance_Split_2 (a0 : Int) (a1 : Int) (c0 : (Int → Option Int)) : Option Int :=
    (c0 a1).bind fun y3 =>
    (c0 a0).bind fun y12 =>
    some ((W (y3 - y12)))

noncomputable def slices_insertionSortCmpFunc_int_L2 (a1 : Int) (f3 : (Int → Int → Option Int)) : ((List Int) × Int) → Option (((List Int) × Int) ⊕ (List Int))
  | (x26, x29) =>
    (if ((decide (x29 > a1))) = true then
    (idx x26 x29).bind fun y93 =>
    (idx x26 ((W (x29 - 1)))).bind fun y98 =>
    (f3 y93 y98).bind fun y103 =>
    some ((x26, (decide (y103 < 0))))
    else
    some (x26, false) : Option ((List Int) × Bool)).bind fun p_ => match p_ with
    | (x47, x50) =>
    if x50 = true then
    (idx x47 ((W (x29 - 1)))).bind fun y57 =>
    (idx x47 x29).bind fun y62 =>
    (idx x47 x29).bind fun y67 =>
    (setO x47 x29 y57).bind fun y73 =>
    (idx x47 ((W (x29 - 1)))).bind fun y78 =>
    (setO y73 ((W (x29 - 1))) y62).bind fun y84 =>
    some (.inl ((y84, (W (x29 - 1)))))
    else
    some (.inr x47)
noncomputable def slices_insertionSortCmpFunc_int_L1 (a1 : Int) (a2 : Int) (f3 : (Int → Int → Option Int)) : ((List Int) × Int) → Option (((List Int) × Int) ⊕ (List Int))
  | (x2, x5) =>
    if ((decide (x5 < a2))) = true then
    (loopR (slices_insertionSortCmpFunc_int_L2 a1 f3) (x2, x5)).bind fun x30 =>
    some (.inl ((x30, (W (x5 + 1)))))
    else
    some (.inr x2)
noncomputable def slices_insertionSortCmpFunc_int (a0 : (List Int)) (a1 : Int) (a2 : Int) (f3 : (Int → Int → Option Int)) : Option (List Int) :=
    (loopR (slices_insertionSortCmpFunc_int_L1 a1 a2 f3) ((a0, (W (a1 + 1))))).bind fun x6 =>
    some x6

noncomputable def slices_swapRangeCmpFunc_int (_a0 : (List Int)) (_a1 : Int) (_a2 : Int) (_a3 : Int) (_f4 : (Int → Int → Option Int)) : Option (List Int) := none

noncomputable def slices_rotateCmpFunc_int (_a0 : (List Int)) (_a1 : Int) (_a2 : Int) (_a3 : Int) (_f4 : (Int → Int → Option Int)) : Option (List Int) := none

noncomputable def slices_symMergeCmpFunc_int (_a0 : (List Int)) (_a1 : Int) (_a2 : Int) (_a3 : Int) (_f4 : (Int → Int → Option Int)) : Option (List Int) := none

noncomputable def slices_stableCmpFunc_int_L3 (a1 : Int) (f2 : (Int → Int → Option Int)) (x34 : Int) : ((List Int) × Int × Int) → Option (((List Int) × Int × Int) ⊕ ((List Int) × Int))
  | (x55, x58, x59) =>
    if ((decide (x59 ≤ a1))) = true then
    (slices_symMergeCmpFunc_int x55 x58 ((W (x58 + x34))) x59 f2).bind fun y109 =>
    some (.inl ((y109, x59, (W (x59 + ((W ((2 : Int) * x34))))))))
    else
    some (.inr (x55, x58))
noncomputable def slices_stableCmpFunc_int_L2 (a1 : Int) (f2 : (Int → Int → Option Int)) : ((List Int) × Int) → Option (((List Int) × Int) ⊕ (List Int))
  | (x31, x34) =>
    if ((decide (x34 < a1))) = true then
    (loopR (slices_stableCmpFunc_int_L3 a1 f2 x34) ((x31, 0, (W ((2 : Int) * x34))))).bind fun p_ => match p_ with
    | (x60, x63) =>
    (if ((decide (((W (x63 + x34))) < a1))) = true then
    (slices_symMergeCmpFunc_int x60 x63 ((W (x63 + x34))) a1 f2).bind fun y84 =>
    some y84
    else
    some x60 : Option (List Int)).bind fun x72 =>
    some (.inl ((x72, (W (x34 * 2)))))
    else
    some (.inr x31)
noncomputable def slices_stableCmpFunc_int_L1 (a1 : Int) (f2 : (Int → Int → Option Int)) : ((List Int) × Int × Int) → Option (((List Int) × Int × Int) ⊕ ((List Int) × Int))
  | (x4, x7, x8) =>
    if ((decide (x8 ≤ a1))) = true then
    (slices_insertionSortCmpFunc_int x4 x7 x8 f2).bind fun y133 =>
    some (.inl ((y133, x8, (W (x8 + 20)))))
    else
    some (.inr (x4, x7))
noncomputable def slices_stableCmpFunc_int (a0 : (List Int)) (a1 : Int) (f2 : (Int → Int → Option Int)) : Option (List Int) :=
    (loopR (slices_stableCmpFunc_int_L1 a1 f2) (a0, 0, 20)).bind fun p_ => match p_ with
    | (x9, x12) =>
    (slices_insertionSortCmpFunc_int x9 x12 a1 f2).bind fun y23 =>
    (loopR (slices_stableCmpFunc_int_L2 a1 f2) (y23, 20)).bind fun x35 =>
    some x35

noncomputable def slices_SortStableFunc_int_int (a0 : (List Int)) (f1 : (Int → Int → Option Int)) : Option (List Int) :=
    (slices_stableCmpFunc_int a0 (len a0) f1).bind fun y5 =>
    some y5

noncomputable def balance_Split_L2 (y100 : List Int) : ((List Int) × (List Int) × Int) → Option (((List Int) × (List Int) × Int) ⊕ (List Int))
  | (x104, x107, x110) =>
    if ((decide (x110 < (len y100)))) = true then
    (idx x107 x110).bind fun y132 =>
    (idx x104 y132).bind fun y137 =>
    (idx x104 y132).bind fun y142 =>
    (setO x104 y132 ((W (y137 + 1)))).bind fun y147 =>
    some (.inl ((y147, x107, (W (x110 + 1)))))
    else
    some (.inr x104)
noncomputable def balance_Split_L1 (a0 : Int) (a1 : (List Int)) (y14 : Int) : ((List Int) × (List Int) × Int × Int) → Option (((List Int) × (List Int) × Int × Int) ⊕ ((List Int) × (List Int) × Int))
  | (x55, x58, x61, x62) =>
    if ((decide (x62 < (len a1)))) = true then
    (idx a1 x62).bind fun y164 =>
    (quoO ((W (a0 * y164))) y14).bind fun y170 =>
    (idx x55 x62).bind fun y172 =>
    (setO x55 x62 y170).bind fun y177 =>
    (idx x58 x62).bind fun y182 =>
    (setO x58 x62 x62).bind fun y187 =>
    (idx y177 x62).bind fun y192 =>
    some (.inl ((y177, y187, (W (x61 - y192)), (W (x62 + 1)))))
    else
    some (.inr (x55, x58, x61))
noncomputable def balance_Split (a0 : Int) (a1 : (List Int)) : Option ((List Int) × Int) :=
    (balance_check a0 a1).bind fun p_ => match p_ with
    | (y14, y15) =>
    if (((y15 != 0))) = true then
    some ((([] : List Int), y15))
    else
    (mkL Int (len a1)).bind fun y35 =>
    (mkL Int (len a1)).bind fun y42 =>
    (loopR (balance_Split_L1 a0 a1 y14) (y35, y42, a0, 0)).bind fun p_ => match p_ with
    | (x63, x66, x69) =>
    (slices_SortStableFunc_int_int x66 ((fun z0_ z1_ => balance_Split_2 z0_ z1_ (fun z0_ => balance_Split_1 z0_ a0 a1 y14)))).bind fun y90 =>
    (slc y90 0 x69).bind fun y100 =>
    (loopR (balance_Split_L2 y100) (x63, y100, 0)).bind fun x111 =>
    some (x111, 0)

noncomputable def dynposref01_Ints_L1 (a0 : (List Int)) (a1 : (List Int)) : Int → Option (Int ⊕ (Unit ⊕ Bool))
  | x8 =>
    if ((decide (x8 < (len a0)))) = true then
    (idx a0 x8).bind fun y28 =>
    (idx a1 x8).bind fun y33 =>
    if (((y28 != y33))) = true then
    some (.inr (.inr false))
    else
    some (.inl ((W (x8 + 1))))
    else
    some (.inr (.inl ()))
noncomputable def dynposref01_Ints (a0 : (List Int)) (a1 : (List Int)) : Option Bool :=
    if ((((len a0) != (len a1)))) = true then
    some false
    else
    (loopR (dynposref01_Ints_L1 a0 a1) 0).bind (Sum.elim (fun _ =>
    some true) some)

noncomputable def balance_Check_L1 (a0 : Int) (a1 : (List Int)) (a2 : (List Int)) (y3 : Int) : (Int × Int) → Option ((Int × Int) ⊕ (Int ⊕ Bool))
  | (x23, x24) =>
    if ((decide (x24 < (len a2)))) = true then
    (idx a2 x24).bind fun y44 =>
    (idx a1 x24).bind fun y50 =>
    (quoO ((W (a0 * y50))) y3).bind fun y57 =>
    (if ((decide (y44 < y57))) = true then
    some true
    else
    (quoO ((W (((W (((W (a0 * y50))) + y3))) - 1))) y3).bind fun y68 =>
    some (((decide (y44 > y68)))) : Option Bool).bind fun x59 =>
    if x59 = true then
    some (.inr (.inr false))
    else
    some (.inl (((W (x23 + y44)), (W (x24 + 1)))))
    else
    some (.inr (.inl x23))
noncomputable def balance_Check (a0 : Int) (a1 : (List Int)) (a2 : (List Int)) : Option Bool :=
    (balance_check a0 a1).bind fun p_ => match p_ with
    | (y3, y4) =>
    (if (((y4 != 0))) = true then
    some true
    else
    some (((((len a2) != (len a1))))) : Option Bool).bind fun x13 =>
    if x13 = true then
    some false
    else
    (loopR (balance_Check_L1 a0 a1 a2 y3) (0, 0)).bind (Sum.elim (fun x25 =>
    some (((x25 == a0)))) some)

noncomputable def dynposlaw17_sane : Option Bool :=
    (balance_Split 10 ([2, 2, 2] : List Int)).bind fun p_ => match p_ with
    | (y8, y9) =>
    (if (((y9 == 0))) = true then
    (dynposref01_Ints y8 ([4, 3, 3] : List Int)).bind fun y30 =>
    (if y30 = true then
    (balance_Check 10 ([2, 2, 2] : List Int) y8).bind fun y49 =>
    some y49
    else
    some false : Option Bool).bind fun x37 =>
    some x37
    else
    some false : Option Bool).bind fun x19 =>
    some x19

noncomputable def Src_Range (st0 : List Int) (a1 : Int) (a2 : Int) : Option (Int × List Int) :=
    (Src_N st0 ((W (((W (a2 - a1))) + 1)))).bind fun p_ => match p_ with
    | (y3, st4) =>
    some (((W (a1 + y3)), st4))

noncomputable def dynposlaw17_BalanceScales_L1 (y12 : (List Int)) (y34 : Int) : ((List Int) × Int × (List Int) × (List Int) × Int) → Option (((List Int) × Int × (List Int) × (List Int) × Int) ⊕ ((List Int) × Int × (List Int)))
  | (x46, x49, x50, x53, x56) =>
    if ((decide (x56 < (len y12)))) = true then
    (idx x53 x56).bind fun y185 =>
    (app x50 (([(W (y34 * y185))] : List Int))).bind fun y195 =>
    some (.inl ((x46, (W (x49 + y185)), y195, x53, (W (x56 + 1)))))
    else
    some (.inr (x46, x49, x50))
noncomputable def dynposlaw17_BalanceScales (a0 : (List Int)) : Option Bool :=
    (dynposmake_New a0).bind fun y3 =>
    (dynposlaw17_ratings y3).bind fun p_ => match p_ with
    | (y12, st13) =>
    if ((((len y12) == 0))) = true then
    (dynposlaw17_sane).bind fun y26 =>
    some y26
    else
    (Src_Range st13 1 5).bind fun p_ => match p_ with
    | (y34, st35) =>
    (loopR (dynposlaw17_BalanceScales_L1 y12 y34) ((y12, 0, ([] : List Int), y12, 0))).bind fun p_ => match p_ with
    | (x57, x60, x61) =>
    (Src_N st35 ((W ((3 : Int) * x60)))).bind fun p_ => match p_ with
    | (y70, st71) =>
    (balance_Split y70 x57).bind fun p_ => match p_ with
    | (y79, y80) =>
    (balance_Split y70 x61).bind fun p_ => match p_ with
    | (y90, y91) =>
    (balance_Split ((W (y34 * x60))) x57).bind fun p_ => match p_ with
    | (y101, y102) =>
    (if (((y80 == 0))) = true then
    (if (((y91 == 0))) = true then
    (if (((y102 == 0))) = true then
    (dynposref01_Ints y79 y90).bind fun y132 =>
    (if y132 = true then
    (dynposref01_Ints y101 x61).bind fun y146 =>
    (if y146 = true then
    (dynposlaw17_sane).bind fun y160 =>
    some y160
    else
    some false : Option Bool).bind fun x153 =>
    some x153
    else
    some false : Option Bool).bind fun x139 =>
    some x139
    else
    some false : Option Bool).bind fun x125 =>
    some x125
    else
    some false : Option Bool).bind fun x118 =>
    some x118
    else
    some false : Option Bool).bind fun x112 =>
    some x112

noncomputable def dynposlaw17_BalanceShares_L3 (x149 : Int) (y282 : Int) (x293 : (List Int)) : ((List Int) × (List Int) × (List Int) × Int) → Option (((List Int) × (List Int) × (List Int) × Int) ⊕ (((List Int) × (List Int) × (List Int)) ⊕ Bool))
  | (x307, x310, x313, x316) =>
    if ((decide (x316 < (len x293)))) = true then
    (idx x307 x149).bind fun y344 =>
    (idx x307 x316).bind fun y349 =>
    (if (((y344 == y349))) = true then
    (idx x310 x316).bind fun y371 =>
    (if ((decide (((W (y282 - y371))) > 1))) = true then
    some (x307, x310, x313, x310, true, true, true, true)
    else
    (idx x310 x316).bind fun y422 =>
    (if ((decide (((W (y422 - y282))) > 1))) = true then
    some (x307, x310, x313, x310, x310, true, true)
    else
    (if ((decide (x149 < x316))) = true then
    (idx x310 x316).bind fun y516 =>
    some ((x307, x310, x313, x310, x310, (decide (y282 < y516)), (decide (y282 < y516)), (decide (y282 < y516))))
    else
    some (x307, x310, x313, x310, x310, false, false, false) : Option ((List Int) × (List Int) × (List Int) × (List Int) × (List Int) × Bool × Bool × Bool)).bind fun p_ => match p_ with
    | (x480, x483, x486, x489, x492, x495, x496, x497) =>
    some (x480, x483, x486, x489, x492, x496, x497) : Option ((List Int) × (List Int) × (List Int) × (List Int) × (List Int) × Bool × Bool)).bind fun p_ => match p_ with
    | (x427, x430, x433, x436, x439, x442, x443) =>
    some ((x427, x430, x433, x436, (decide (((W (y422 - y282))) > 1)), (decide (((W (y422 - y282))) > 1)), x442, x443)) : Option ((List Int) × (List Int) × (List Int) × (List Int) × Bool × Bool × Bool × Bool)).bind fun p_ => match p_ with
    | (x376, x379, x382, x385, x388, x389, x390, x391) =>
    some (x376, x379, x382, x391)
    else
    some (x307, x310, x313, false) : Option ((List Int) × (List Int) × (List Int) × Bool)).bind fun p_ => match p_ with
    | (x354, x357, x360, x363) =>
    if x363 = true then
    some (.inr (.inr false))
    else
    some (.inl ((x354, x357, x360, (W (x316 + 1)))))
    else
    some (.inr (.inl (x307, x310, x313)))
noncomputable def dynposlaw17_BalanceShares_L2 (x95 : Int) (y102 : Int) (x126 : (List Int)) : ((List Int) × (List Int) × Int × (List Int) × Int) → Option (((List Int) × (List Int) × Int × (List Int) × Int) ⊕ (((List Int) × (List Int) × Int) ⊕ Bool))
  | (x139, x142, x145, x146, x149) =>
    if ((decide (x149 < (len x126)))) = true then
    (idx x146 x149).bind fun y282 =>
    (if ((decide (y282 < 0))) = true then
    some (x139, x142, x146, true)
    else
    (if ((decide (y102 ≤ x95))) = true then
    (idx x139 x149).bind fun y598 =>
    some ((x139, x142, x146, (decide (y282 > y598)), (decide (y282 > y598))))
    else
    some (x139, x142, x146, false, false) : Option ((List Int) × (List Int) × (List Int) × Bool × Bool)).bind fun p_ => match p_ with
    | (x575, x578, x581, x584, x585) =>
    some (x575, x578, x581, x585) : Option ((List Int) × (List Int) × (List Int) × Bool)).bind fun p_ => match p_ with
    | (x290, x293, x296, x299) =>
    if x299 = true then
    some (.inr (.inr false))
    else
    (loopR (dynposlaw17_BalanceShares_L3 x149 y282 x293) (x290, x293, x296, 0)).bind (Sum.elim (fun p_ => match p_ with
    | (x317, x320, x323) =>
    some (.inl ((x317, x320, (W (x145 + y282)), x323, (W (x149 + 1)))))) (fun r_ => some (.inr (.inr r_))))
    else
    some (.inr (.inl (x139, x142, x145)))
noncomputable def dynposlaw17_BalanceShares_L1 (y12 : (List Int)) : ((List Int) × Int × (List Int) × Int) → Option (((List Int) × Int × (List Int) × Int) ⊕ ((List Int) × Int))
  | (x84, x87, x88, x91) =>
    if ((decide (x91 < (len y12)))) = true then
    (idx x88 x91).bind fun y673 =>
    some (.inl ((x84, (W (x87 + y673)), x88, (W (x91 + 1)))))
    else
    some (.inr (x84, x87))
noncomputable def dynposlaw17_BalanceShares (a0 : (List Int)) : Option Bool :=
    (dynposmake_New a0).bind fun y3 =>
    (dynposlaw17_ratings y3).bind fun p_ => match p_ with
    | (y12, st13) =>
    if ((((len y12) == 0))) = true then
    (balance_Split 1 ([] : List Int)).bind fun p_ => match p_ with
    | (y27, y28) =>
    (balance_Split 0 ([] : List Int)).bind fun p_ => match p_ with
    | (y39, y40) =>
    (if (((y28 == 9))) = true then
    (if (((y40 == 0))) = true then
    (if ((((len y39) == 0))) = true then
    (dynposlaw17_sane).bind fun y70 =>
    some y70
    else
    some false : Option Bool).bind fun x63 =>
    some x63
    else
    some false : Option Bool).bind fun x56 =>
    some x56
    else
    some false : Option Bool).bind fun x50 =>
    some x50
    else
    (loopR (dynposlaw17_BalanceShares_L1 y12) (y12, 0, y12, 0)).bind fun p_ => match p_ with
    | (x92, x95) =>
    (Src_N st13 ((W (((W ((2 : Int) * x95))) + 1)))).bind fun p_ => match p_ with
    | (y102, st103) =>
    (balance_Split y102 x92).bind fun p_ => match p_ with
    | (y111, y112) =>
    (if (((y112 != 0))) = true then
    some (x92, y111, true)
    else
    (if ((((len y111) != (len x92)))) = true then
    some (x92, y111, true)
    else
    (balance_Check y102 x92 y111).bind fun y649 =>
    some ((x92, y111, (!y649))) : Option ((List Int) × (List Int) × Bool)).bind fun p_ => match p_ with
    | (x627, x630, x633) =>
    some (x627, x630, x633) : Option ((List Int) × (List Int) × Bool)).bind fun p_ => match p_ with
    | (x123, x126, x129) =>
    if x129 = true then
    some false
    else
    (loopR (dynposlaw17_BalanceShares_L2 x95 y102 x126) (x123, x126, 0, x126, 0)).bind (Sum.elim (fun p_ => match p_ with
    | (x150, x153, x156) =>
    (app ([] : List Int) x153).bind fun y164 =>
    (Src_N st103 (len x153)).bind fun p_ => match p_ with
    | (y172, st173) =>
    (Src_N st173 (len x153)).bind fun p_ => match p_ with
    | (y180, st181) =>
    (idx y164 y172).bind fun y189 =>
    (idx y164 y180).bind fun y194 =>
    (idx y164 y172).bind fun y199 =>
    (setO y164 y172 ((W (y189 + 2)))).bind fun y205 =>
    (idx y164 y180).bind fun y210 =>
    (setO y205 y180 ((W (y194 - 2)))).bind fun y216 =>
    (if (((x156 == y102))) = true then
    (if (((y172 == y180))) = true then
    (dynposlaw17_sane).bind fun y238 =>
    some y238
    else
    (balance_Check y102 x150 y216).bind fun y246 =>
    (if (!y246) = true then
    (dynposlaw17_sane).bind fun y260 =>
    some y260
    else
    some false : Option Bool).bind fun x253 =>
    some x253 : Option Bool).bind fun x231 =>
    some x231
    else
    some false : Option Bool).bind fun x225 =>
    some x225) some)

noncomputable def Src_Board_L3 (y11 : Int) : (Int × (List Breaker) × (List Source) × (List Consumer) × (List Breaker) × (List Source) × (List Consumer) × List Int) → Option ((Int × (List Breaker) × (List Source) × (List Consumer) × (List Breaker) × (List Source) × (List Consumer) × List Int) ⊕ ((List Breaker) × (List Source) × (List Consumer) × (List Breaker) × (List Source) × (List Consumer) × List Int))
  | (x216, x217, x220, x223, x226, x229, x232, st235) =>
    if ((decide (x216 > 0))) = true then
    (Src_N st235 y11).bind fun p_ => match p_ with
    | (y276, st277) =>
    (app x226 (([(⟨3, y276, len x232⟩ : Breaker)] : List Breaker))).bind fun y290 =>
    (if ((decide (y11 > 1))) = true then
    (Src_N st277 4).bind fun p_ => match p_ with
    | (y604, st605) =>
    some ((((y604 == 3)), x217, x220, x223, y290, x229, x232, st605))
    else
    some (false, x217, x220, x223, y290, x229, x232, st277) : Option (Bool × (List Breaker) × (List Source) × (List Consumer) × (List Breaker) × (List Source) × (List Consumer) × List Int)).bind fun p_ => match p_ with
    | (x301, x302, x305, x308, x311, x314, x317, st320) =>
    (if x301 = true then
    (remO ((W (y276 + 1))) y11).bind fun y561 =>
    (app x311 (([(⟨3, y561, len x232⟩ : Breaker)] : List Breaker))).bind fun y568 =>
    some (x302, x305, x308, y568, x314, x317)
    else
    some (x302, x305, x308, x311, x314, x317) : Option ((List Breaker) × (List Source) × (List Consumer) × (List Breaker) × (List Source) × (List Consumer))).bind fun p_ => match p_ with
    | (x325, x328, x331, x334, x337, x340) =>
    (Src_Pick st320 ([0, 5, 20, 40] : List Int)).bind fun p_ => match p_ with
    | (y353, st354) =>
    (quoO y353 2).bind fun y362 =>
    (Src_Pick st354 ([0, y362, y353] : List Int)).bind fun p_ => match p_ with
    | (y369, st370) =>
    (Src_N st370 3).bind fun p_ => match p_ with
    | (y377, st378) =>
    (Src_Range st378 (-1) 2).bind fun p_ => match p_ with
    | (y385, st386) =>
    (if ((decide ((len x232) > 0))) = true then
    (Src_N st386 4).bind fun p_ => match p_ with
    | (y518, st519) =>
    some ((((y518 == 3)), x325, x328, x331, x334, x337, x340, ([] : List Int), st519))
    else
    some ((false, x325, x328, x331, x334, x337, x340, ([] : List Int), st386)) : Option (Bool × (List Breaker) × (List Source) × (List Consumer) × (List Breaker) × (List Source) × (List Consumer) × (List Int) × List Int)).bind fun p_ => match p_ with
    | (x404, x405, x408, x411, x414, x417, x420, x423, st426) =>
    (if x404 = true then
    (Src_N st426 (len x232)).bind fun p_ => match p_ with
    | (y472, st473) =>
    some ((x405, x408, x411, x414, x417, x420, ([y472] : List Int), st473))
    else
    some (x405, x408, x411, x414, x417, x420, x423, st426) : Option ((List Breaker) × (List Source) × (List Consumer) × (List Breaker) × (List Source) × (List Consumer) × (List Int) × List Int)).bind fun p_ => match p_ with
    | (x431, x434, x437, x440, x443, x446, x449, st452) =>
    (app x446 (([(⟨y353, y369, y377, y385, x449⟩ : Consumer)] : List Consumer))).bind fun y462 =>
    some (.inl (((W (x216 - 1)), x431, x434, x437, x440, x443, y462, st452)))
    else
    some (.inr (x217, x220, x223, x226, x229, x232, st235))
noncomputable def Src_Board_L2 (y11 : Int) : (Int × (List Breaker) × (List Source) × (List Consumer) × (List Breaker) × (List Source) × (List Consumer) × List Int) → Option ((Int × (List Breaker) × (List Source) × (List Consumer) × (List Breaker) × (List Source) × (List Consumer) × List Int) ⊕ ((List Breaker) × (List Source) × (List Consumer) × (List Breaker) × (List Source) × (List Consumer) × List Int))
  | (x162, x163, x166, x169, x172, x175, x178, st181) =>
    if ((decide (x162 > 0))) = true then
    (Src_N st181 y11).bind fun p_ => match p_ with
    | (y654, st655) =>
    (app x172 (([(⟨2, y654, len x175⟩ : Breaker)] : List Breaker))).bind fun y668 =>
    (Src_Pick st655 ([10, 50, 100] : List Int)).bind fun p_ => match p_ with
    | (y687, st688) =>
    (Src_Pick st688 ([0, 5, y687] : List Int)).bind fun p_ => match p_ with
    | (y700, st701) =>
    (Src_Pick st701 ([0, 1, 3] : List Int)).bind fun p_ => match p_ with
    | (y714, st715) =>
    (app x175 (([(⟨y687, y700, y714⟩ : Source)] : List Source))).bind fun y728 =>
    some (.inl (((W (x162 - 1)), x163, x166, x169, y668, y728, x178, st715)))
    else
    some (.inr (x163, x166, x169, x172, x175, x178, st181))
noncomputable def Src_Board_L1 (y11 : Int) : (Int × (List Breaker) × (List Source) × (List Consumer) × (List Breaker) × (List Source) × (List Consumer) × List Int) → Option ((Int × (List Breaker) × (List Source) × (List Consumer) × (List Breaker) × (List Source) × (List Consumer) × List Int) ⊕ ((List Breaker) × (List Source) × (List Consumer) × (List Breaker) × (List Source) × (List Consumer) × List Int))
  | (x60, x61, x64, x67, x70, x73, x76, st79) =>
    if ((decide (x60 < y11))) = true then
    (Src_N st79 6).bind fun p_ => match p_ with
    | (y829, st830) =>
    (if ((decide (y829 < 5))) = true then
    (Src_N st830 x60).bind fun p_ => match p_ with
    | (y861, st862) =>
    (app x70 (([(⟨1, y861, x60⟩ : Breaker)] : List Breaker))).bind fun y875 =>
    some (x61, x64, x67, y875, x73, x76, st862)
    else
    some (x61, x64, x67, x70, x73, x76, st830) : Option ((List Breaker) × (List Source) × (List Consumer) × (List Breaker) × (List Source) × (List Consumer) × List Int)).bind fun p_ => match p_ with
    | (x837, x840, x843, x846, x849, x852, st855) =>
    some (.inl (((W (x60 + 1)), x837, x840, x843, x846, x849, x852, st855)))
    else
    some (.inr (x61, x64, x67, x70, x73, x76, st79))
noncomputable def Src_Board (st0 : List Int) : Option (Board × List Int) :=
    (Src_Range st0 1 4).bind fun p_ => match p_ with
    | (y11, st12) =>
    (Src_Pick st12 ([0, 50, 200, 1800] : List Int)).bind fun p_ => match p_ with
    | (y24, st25) =>
    (Src_Pick st25 ([0, 10, 50] : List Int)).bind fun p_ => match p_ with
    | (y37, st38) =>
    (loopR (Src_Board_L1 y11) ((1, ([] : List Breaker), ([] : List Source), ([] : List Consumer), ([] : List Breaker), ([] : List Source), ([] : List Consumer), st38))).bind fun p_ => match p_ with
    | (x80, x83, x86, x89, x92, x95, st98) =>
    (if ((decide (y11 > 2))) = true then
    (Src_N st98 2).bind fun p_ => match p_ with
    | (y779, st780) =>
    some ((((y779 == 1)), x80, x83, x86, x89, x92, x95, st780))
    else
    some (false, x80, x83, x86, x89, x92, x95, st98) : Option (Bool × (List Breaker) × (List Source) × (List Consumer) × (List Breaker) × (List Source) × (List Consumer) × List Int)).bind fun p_ => match p_ with
    | (x106, x107, x110, x113, x116, x119, x122, st125) =>
    (if x106 = true then
    (app x116 (([(⟨1, 0, (W (y11 - 1))⟩ : Breaker)] : List Breaker))).bind fun y747 =>
    some (x107, x110, x113, y747, x119, x122)
    else
    some (x107, x110, x113, x116, x119, x122) : Option ((List Breaker) × (List Source) × (List Consumer) × (List Breaker) × (List Source) × (List Consumer))).bind fun p_ => match p_ with
    | (x130, x133, x136, x139, x142, x145) =>
    (Src_N st125 5).bind fun p_ => match p_ with
    | (y154, st155) =>
    (loopR (Src_Board_L2 y11) (y154, x130, x133, x136, x139, x142, x145, st155)).bind fun p_ => match p_ with
    | (x182, x185, x188, x191, x194, x197, st200) =>
    (Src_N st200 6).bind fun p_ => match p_ with
    | (y208, st209) =>
    (loopR (Src_Board_L3 y11) (y208, x182, x185, x188, x191, x194, x197, st209)).bind fun p_ => match p_ with
    | (x236, x239, x242, x245, x248, x251, st254) =>
    some (((⟨y11, x245, x248, x251, y24, y37⟩ : Board), st254))

noncomputable def dynposref15_within (a0 : Int) (a1 : Int) (a2 : Int) : Option Bool :=
    (if ((decide (a0 ≥ a1))) = true then
    some (((decide (a0 ≤ a2))))
    else
    some false : Option Bool).bind fun x3 =>
    some x3

noncomputable def dynposref15_Exists (a0 : Board) (a1 : Part) : Option Bool :=
    if (((a1.Kind == 1))) = true then
    (dynposref15_within a1.Number 0 ((W ((len a0.Sources) - 1)))).bind fun y23 =>
    some y23
    else
    if (((a1.Kind == 2))) = true then
    (dynposref15_within a1.Number 0 ((W ((len a0.Breakers) - 1)))).bind fun y33 =>
    some y33
    else
    if (((a1.Kind == 3))) = true then
    (dynposref15_within a1.Number 0 ((W (a0.Buses - 1)))).bind fun y43 =>
    some y43
    else
    if (((a1.Kind == 4))) = true then
    (dynposref15_within a1.Number 0 ((W ((len a0.Consumers) - 1)))).bind fun y53 =>
    some y53
    else
    some false

noncomputable def Src_Power_L5 (a1 : Board) : (Int × (List Bool) × (List Running) × (List Int) × (List Part) × (List Bool) × (List Running) × (List Int) × (List Part) × List Int) → Option ((Int × (List Bool) × (List Running) × (List Int) × (List Part) × (List Bool) × (List Running) × (List Int) × (List Part) × List Int) ⊕ ((List Bool) × (List Running) × (List Int) × (List Part) × (List Bool) × (List Running) × (List Int) × (List Part) × List Int))
  | (x264, x265, x268, x271, x274, x277, x280, x283, x286, st289) =>
    if ((decide (x264 ≤ 4))) = true then
    (Src_N st289 5).bind fun p_ => match p_ with
    | (y335, st336) =>
    (if (((y335 == 4))) = true then
    (Src_N st336 4).bind fun p_ => match p_ with
    | (y374, st375) =>
    (dynposref15_Exists a1 (⟨x264, y374⟩ : Part)).bind fun y390 =>
    (if y390 = true then
    (app x286 (([(⟨x264, y374⟩ : Part)] : List Part))).bind fun y448 =>
    some (x265, x268, x271, x274, x277, x280, x283, y448)
    else
    some (x265, x268, x271, x274, x277, x280, x283, x286) : Option ((List Bool) × (List Running) × (List Int) × (List Part) × (List Bool) × (List Running) × (List Int) × (List Part))).bind fun p_ => match p_ with
    | (x397, x400, x403, x406, x409, x412, x415, x418) =>
    some (x397, x400, x403, x406, x409, x412, x415, x418, st375)
    else
    some (x265, x268, x271, x274, x277, x280, x283, x286, st336) : Option ((List Bool) × (List Running) × (List Int) × (List Part) × (List Bool) × (List Running) × (List Int) × (List Part) × List Int)).bind fun p_ => match p_ with
    | (x343, x346, x349, x352, x355, x358, x361, x364, st367) =>
    some (.inl (((W (x264 + 1)), x343, x346, x349, x352, x355, x358, x361, x364, st367)))
    else
    some (.inr (x265, x268, x271, x274, x277, x280, x283, x286, st289))
noncomputable def Src_Power_L4 (a1 : Board) : (Int × (List Bool) × (List Running) × (List Int) × (List Part) × (List Bool) × (List Running) × (List Int) × (List Part) × List Int) → Option ((Int × (List Bool) × (List Running) × (List Int) × (List Part) × (List Bool) × (List Running) × (List Int) × (List Part) × List Int) ⊕ ((List Bool) × (List Running) × (List Int) × (List Part) × (List Bool) × (List Running) × (List Int) × (List Part) × List Int))
  | (x206, x207, x210, x213, x216, x219, x222, x225, x228, st231) =>
    if ((decide (x206 < (len a1.Consumers)))) = true then
    (idx a1.Consumers x206).bind fun y516 =>
    (quoO y516.Load 3).bind fun y533 =>
    (Src_Pick st231 ([y516.Load, y516.Load, y516.Least, y533] : List Int)).bind fun p_ => match p_ with
    | (y540, st541) =>
    (app x225 ([y540] : List Int)).bind fun y554 =>
    some (.inl (((W (x206 + 1)), x207, x210, x213, x216, x219, x222, y554, x228, st541)))
    else
    some (.inr (x207, x210, x213, x216, x219, x222, x225, x228, st231))
noncomputable def Src_Power_L3 (a1 : Board) : (Int × (List Bool) × (List Running) × (List Int) × (List Part) × (List Bool) × (List Running) × (List Int) × (List Part) × List Int) → Option ((Int × (List Bool) × (List Running) × (List Int) × (List Part) × (List Bool) × (List Running) × (List Int) × (List Part) × List Int) ⊕ ((List Bool) × (List Running) × (List Int) × (List Part) × (List Bool) × (List Running) × (List Int) × (List Part) × List Int))
  | (x148, x149, x152, x155, x158, x161, x164, x167, x170, st173) =>
    if ((decide (x148 < (len a1.Sources)))) = true then
    (Src_Pick st173 ([0, 1, 2, 2, 2, 3] : List Int)).bind fun p_ => match p_ with
    | (y583, st584) =>
    (Src_N st584 5).bind fun p_ => match p_ with
    | (y592, st593) =>
    (Src_Pick st593 ([5000, 5000, 5005, 4950] : List Int)).bind fun p_ => match p_ with
    | (y606, st607) =>
    (Src_Pick st607 ([0, 0, 40, 1800, 3590] : List Int)).bind fun p_ => match p_ with
    | (y620, st621) =>
    (app x164 (([(⟨y583, y592, y606, y620⟩ : Running)] : List Running))).bind fun y634 =>
    some (.inl (((W (x148 + 1)), x149, x152, x155, x158, x161, y634, x167, x170, st621)))
    else
    some (.inr (x149, x152, x155, x158, x161, x164, x167, x170, st173))
noncomputable def Src_Power_L6 (a1 : Board) (x92 : Int) : (Bool × Int × (List Bool) × (List Running) × (List Int) × (List Part) × (List Bool) × (List Running) × (List Int) × (List Part)) → Option ((Bool × Int × (List Bool) × (List Running) × (List Int) × (List Part) × (List Bool) × (List Running) × (List Int) × (List Part)) ⊕ ((List Bool) × (List Running) × (List Int) × (List Part) × (List Bool) × (List Running) × (List Int) × (List Part)))
  | (x661, x662, x663, x666, x669, x672, x675, x678, x681, x684) =>
    if ((decide (x662 < (len a1.Breakers)))) = true then
    (idx a1.Breakers x662).bind fun y728 =>
    (if (((y728.Kind == 3))) = true then
    (if (((y728.B == x92))) = true then
    (idx x675 x662).bind fun y895 =>
    some (y895, x663, x666, x669, x672, x675, x678, x681, x684)
    else
    some (false, x663, x666, x669, x672, x675, x678, x681, x684) : Option (Bool × (List Bool) × (List Running) × (List Int) × (List Part) × (List Bool) × (List Running) × (List Int) × (List Part))).bind fun p_ => match p_ with
    | (x848, x849, x852, x855, x858, x861, x864, x867, x870) =>
    some (x848, x849, x852, x855, x858, x861, x864, x867, x870)
    else
    some (false, x663, x666, x669, x672, x675, x678, x681, x684) : Option (Bool × (List Bool) × (List Running) × (List Int) × (List Part) × (List Bool) × (List Running) × (List Int) × (List Part))).bind fun p_ => match p_ with
    | (x743, x744, x747, x750, x753, x756, x759, x762, x765) =>
    (if x743 = true then
    (idx x756 x662).bind fun y803 =>
    (setO x756 x662 x661).bind fun y808 =>
    some (false, x744, x747, x750, x753, y808, x759, x762, x765)
    else
    some (x661, x744, x747, x750, x753, x756, x759, x762, x765) : Option (Bool × (List Bool) × (List Running) × (List Int) × (List Part) × (List Bool) × (List Running) × (List Int) × (List Part))).bind fun p_ => match p_ with
    | (x772, x773, x776, x779, x782, x785, x788, x791, x794) =>
    some (.inl ((x772, (W (x662 + 1)), x773, x776, x779, x782, x785, x788, x791, x794)))
    else
    some (.inr (x663, x666, x669, x672, x675, x678, x681, x684))
noncomputable def Src_Power_L2 (a1 : Board) : (Int × (List Bool) × (List Running) × (List Int) × (List Part) × (List Bool) × (List Running) × (List Int) × (List Part)) → Option ((Int × (List Bool) × (List Running) × (List Int) × (List Part) × (List Bool) × (List Running) × (List Int) × (List Part)) ⊕ ((List Bool) × (List Running) × (List Int) × (List Part) × (List Bool) × (List Running) × (List Int) × (List Part)))
  | (x92, x93, x96, x99, x102, x105, x108, x111, x114) =>
    if ((decide (x92 < (len a1.Consumers)))) = true then
    (loopR (Src_Power_L6 a1 x92) (true, 0, x93, x96, x99, x102, x105, x108, x111, x114)).bind fun p_ => match p_ with
    | (x687, x690, x693, x696, x699, x702, x705, x708) =>
    some (.inl (((W (x92 + 1)), x687, x690, x693, x696, x699, x702, x705, x708)))
    else
    some (.inr (x93, x96, x99, x102, x105, x108, x111, x114))
noncomputable def Src_Power_L1 (a1 : Board) : (Int × (List Bool) × (List Running) × (List Int) × (List Part) × (List Bool) × (List Running) × (List Int) × (List Part) × List Int) → Option ((Int × (List Bool) × (List Running) × (List Int) × (List Part) × (List Bool) × (List Running) × (List Int) × (List Part) × List Int) ⊕ ((List Bool) × (List Running) × (List Int) × (List Part) × (List Bool) × (List Running) × (List Int) × (List Part) × List Int))
  | (x34, x35, x38, x41, x44, x47, x50, x53, x56, st59) =>
    if ((decide (x34 < (len a1.Breakers)))) = true then
    (Src_N st59 2).bind fun p_ => match p_ with
    | (y962, st963) =>
    (app x47 (([((y962 == 1))] : List Bool))).bind fun y976 =>
    some (.inl (((W (x34 + 1)), x35, x38, x41, x44, y976, x50, x53, x56, st963)))
    else
    some (.inr (x35, x38, x41, x44, x47, x50, x53, x56, st59))
noncomputable def Src_Power (st0 : List Int) (a1 : Board) : Option (Power × List Int) :=
    (loopR (Src_Power_L1 a1) ((0, ([] : List Bool), ([] : List Running), ([] : List Int), ([] : List Part), ([] : List Bool), ([] : List Running), ([] : List Int), ([] : List Part), st0))).bind fun p_ => match p_ with
    | (x60, x63, x66, x69, x72, x75, x78, x81, st84) =>
    (loopR (Src_Power_L2 a1) (0, x60, x63, x66, x69, x72, x75, x78, x81)).bind fun p_ => match p_ with
    | (x117, x120, x123, x126, x129, x132, x135, x138) =>
    (loopR (Src_Power_L3 a1) (0, x117, x120, x123, x126, x129, x132, x135, x138, st84)).bind fun p_ => match p_ with
    | (x174, x177, x180, x183, x186, x189, x192, x195, st198) =>
    (loopR (Src_Power_L4 a1) (0, x174, x177, x180, x183, x186, x189, x192, x195, st198)).bind fun p_ => match p_ with
    | (x232, x235, x238, x241, x244, x247, x250, x253, st256) =>
    (loopR (Src_Power_L5 a1) (1, x232, x235, x238, x241, x244, x247, x250, x253, st256)).bind fun p_ => match p_ with
    | (x290, x293, x296, x299, x302, x305, x308, x311, st314) =>
    some (((⟨x302, x305, x308, x311⟩ : Power), st314))

noncomputable def board_in (a0 : Int) (a1 : Int) (a2 : Int) : Option Bool :=
    (if ((decide (a0 ≥ a1))) = true then
    some (((decide (a0 ≤ a2))))
    else
    some false : Option Bool).bind fun x3 =>
    some x3

noncomputable def slices_Index_int_int_L1 (a0 : (List Int)) (a1 : Int) : Int → Option (Int ⊕ (Unit ⊕ Int))
  | x4 =>
    if ((decide (x4 < (len a0)))) = true then
    (idx a0 x4).bind fun y24 =>
    if (((a1 == y24))) = true then
    some (.inr (.inr x4))
    else
    some (.inl ((W (x4 + 1))))
    else
    some (.inr (.inl ()))
noncomputable def slices_Index_int_int (a0 : (List Int)) (a1 : Int) : Option Int :=
    (loopR (slices_Index_int_int_L1 a0 a1) 0).bind (Sum.elim (fun _ =>
    some (-1)) some)

noncomputable def slices_Contains_int_int (a0 : (List Int)) (a1 : Int) : Option Bool :=
    (slices_Index_int_int a0 a1).bind fun y3 =>
    some ((decide (y3 ≥ 0)))

noncomputable def slices_IndexFunc_int_int_L1 (a0 : (List (List Int))) (f1 : ((List Int) → Option Bool)) : Int → Option (Int ⊕ (Unit ⊕ Int))
  | x4 =>
    if ((decide (x4 < (len a0)))) = true then
    (idx a0 x4).bind fun y24 =>
    (f1 y24).bind fun y31 =>
    if y31 = true then
    some (.inr (.inr x4))
    else
    some (.inl ((W (x4 + 1))))
    else
    some (.inr (.inl ()))
noncomputable def slices_IndexFunc_int_int (a0 : (List (List Int))) (f1 : ((List Int) → Option Bool)) : Option Int :=
    (loopR (slices_IndexFunc_int_int_L1 a0 f1) 0).bind (Sum.elim (fun _ =>
    some (-1)) some)

noncomputable def slices_ContainsFunc_int_int (a0 : (List (List Int))) (f1 : ((List Int) → Option Bool)) : Option Bool :=
    (slices_IndexFunc_int_int a0 f1).bind fun y3 =>
    some ((decide (y3 ≥ 0)))

noncomputable def board_source (a0 : Source) : Option Bool :=
    (board_in a0.Rating 1 50000).bind fun y8 =>
    (if y8 = true then
    (board_in a0.Least 0 a0.Rating).bind fun y21 =>
    (if y21 = true then
    (board_in a0.Start 0 600).bind fun y35 =>
    some y35
    else
    some false : Option Bool).bind fun x28 =>
    some x28
    else
    some false : Option Bool).bind fun x15 =>
    some x15

noncomputable def board_consumer_L1 (a0 : Consumer) (a1 : Int) : Int → Option (Int ⊕ (Unit ⊕ Bool))
  | x11 =>
    if ((decide (x11 < (len a0.Needs)))) = true then
    (idx a0.Needs x11).bind fun y90 =>
    (board_in y90 0 ((W (a1 - 1)))).bind fun y96 =>
    (if (!y96) = true then
    some true
    else
    (if ((decide (x11 > 0))) = true then
    (idx a0.Needs ((W (x11 - 1)))).bind fun y120 =>
    some (((decide (y120 ≥ y90)), (decide (y120 ≥ y90))))
    else
    some (false, false) : Option (Bool × Bool)).bind fun p_ => match p_ with
    | (x112, x113) =>
    some x113 : Option Bool).bind fun x103 =>
    if x103 = true then
    some (.inr (.inr false))
    else
    some (.inl ((W (x11 + 1))))
    else
    some (.inr (.inl ()))
noncomputable def board_consumer (a0 : Consumer) (a1 : Int) : Option Bool :=
    (loopR (board_consumer_L1 a0 a1) 0).bind (Sum.elim (fun _ =>
    (board_in a0.Load 0 50000).bind fun y18 =>
    (if y18 = true then
    (board_in a0.Least 0 a0.Load).bind fun y31 =>
    (if y31 = true then
    (board_in a0.Preference 0 15).bind fun y45 =>
    (if y45 = true then
    (board_in a0.Thruster (-1) 7).bind fun y59 =>
    (if y59 = true then
    some (((decide ((len a0.Needs) ≤ 4))))
    else
    some false : Option Bool).bind fun x66 =>
    some x66
    else
    some false : Option Bool).bind fun x52 =>
    some x52
    else
    some false : Option Bool).bind fun x38 =>
    some x38
    else
    some false : Option Bool).bind fun x25 =>
    some x25) some)

noncomputable def board_size (a0 : Board) (a1 : Int) : Option Int :=
    if (((a1 == 1))) = true then
    some (len a0.Sources)
    else
    if (((a1 == 2))) = true then
    some (len a0.Breakers)
    else
    if (((a1 == 3))) = true then
    some a0.Buses
    else
    if (((a1 == 4))) = true then
    some (len a0.Consumers)
    else
    some 0

noncomputable def cmp_isNaN_int (a0 : Int) : Option Bool :=
    some (((a0 != a0)))

noncomputable def cmp_Compare_int (a0 : Int) (a1 : Int) : Option Int :=
    (cmp_isNaN_int a0).bind fun y3 =>
    (cmp_isNaN_int a1).bind fun y11 =>
    if y3 = true then
    if y11 = true then
    some 0
    else
    some (-1)
    else
    if y11 = true then
    some 1
    else
    if ((decide (a0 < a1))) = true then
    some (-1)
    else
    if ((decide (a0 > a1))) = true then
    some 1
    else
    some 0

noncomputable def cmp_Or_int_L1 (a0 : (List Int)) : Int → Option (Int ⊕ (Unit ⊕ Int))
  | x5 =>
    if ((decide (x5 < (len a0)))) = true then
    (idx a0 x5).bind fun y24 =>
    if (((y24 != 0))) = true then
    some (.inr (.inr y24))
    else
    some (.inl ((W (x5 + 1))))
    else
    some (.inr (.inl ()))
noncomputable def cmp_Or_int (a0 : (List Int)) : Option Int :=
    (loopR (cmp_Or_int_L1 a0) 0).bind (Sum.elim (fun _ =>
    some 0) some)

noncomputable def board_broken_L1 (a0 : Board) (a1 : (List Part)) : Int → Option (Int ⊕ (Unit ⊕ Bool))
  | x15 =>
    if ((decide (x15 < (len a1)))) = true then
    (idx a1 x15).bind fun y34 =>
    (board_size a0 y34.Kind).bind fun y49 =>
    (board_in y34.Number 0 ((W (y49 - 1)))).bind fun y56 =>
    (if (!y56) = true then
    some true
    else
    (if ((decide (x15 > 0))) = true then
    (idx a1 ((W (x15 - 1)))).bind fun y83 =>
    (cmp_Compare_int y83.Kind y34.Kind).bind fun y88 =>
    (idx a1 ((W (x15 - 1)))).bind fun y95 =>
    (cmp_Compare_int y95.Number y34.Number).bind fun y100 =>
    (cmp_Or_int ([y88, y100] : List Int)).bind fun y112 =>
    some (((decide (y112 ≥ 0)), (decide (y112 ≥ 0))))
    else
    some (false, false) : Option (Bool × Bool)).bind fun p_ => match p_ with
    | (x75, x76) =>
    some x76 : Option Bool).bind fun x63 =>
    if x63 = true then
    some (.inr (.inr false))
    else
    some (.inl ((W (x15 + 1))))
    else
    some (.inr (.inl ()))
noncomputable def board_broken (a0 : Board) (a1 : (List Part)) : Option Bool :=
    (loopR (board_broken_L1 a0 a1) 0).bind (Sum.elim (fun _ =>
    some ((decide ((len a1) ≤ 32)))) some)

noncomputable def slices_IndexFunc_Running_Running_L1 (a0 : (List Running)) (f1 : (Running → Option Bool)) : Int → Option (Int ⊕ (Unit ⊕ Int))
  | x4 =>
    if ((decide (x4 < (len a0)))) = true then
    (idx a0 x4).bind fun y24 =>
    (f1 y24).bind fun y31 =>
    if y31 = true then
    some (.inr (.inr x4))
    else
    some (.inl ((W (x4 + 1))))
    else
    some (.inr (.inl ()))
noncomputable def slices_IndexFunc_Running_Running (a0 : (List Running)) (f1 : (Running → Option Bool)) : Option Int :=
    (loopR (slices_IndexFunc_Running_Running_L1 a0 f1) 0).bind (Sum.elim (fun _ =>
    some (-1)) some)

noncomputable def slices_ContainsFunc_Running_Running (a0 : (List Running)) (f1 : (Running → Option Bool)) : Option Bool :=
    (slices_IndexFunc_Running_Running a0 f1).bind fun y3 =>
    some ((decide (y3 ≥ 0)))

noncomputable def board_closed_L1 (a0 : Board) (a1 : Power) (a2 : Int) : (Int × Int) → Option ((Int × Int) ⊕ Int)
  | (x29, x30) =>
    if ((decide (x30 < (len a0.Breakers)))) = true then
    (idx a0.Breakers x30).bind fun y50 =>
    (if (((y50.Kind == 3))) = true then
    (if (((y50.B == a2))) = true then
    (idx a1.Closed x30).bind fun y86 =>
    some y86
    else
    some false : Option Bool).bind fun x79 =>
    some x79
    else
    some false : Option Bool).bind fun x65 =>
    (if x65 = true then
    some (((W (x29 + 1))))
    else
    some x29 : Option Int).bind fun x70 =>
    some (.inl ((x70, (W (x30 + 1)))))
    else
    some (.inr x29)
noncomputable def board_closed (a0 : Board) (a1 : Power) (a2 : Int) : Option Int :=
    (loopR (board_closed_L1 a0 a1 a2) (0, 0)).bind fun x31 =>
    some x31

noncomputable def board_groups_L3 (a0 : Board) (a1 : Power) : ((List Int) × Int) → Option (((List Int) × Int) ⊕ (List Int))
  | (x76, x79) =>
    if ((decide (x79 < (len a0.Breakers)))) = true then
    (idx a0.Breakers x79).bind fun y100 =>
    (if (((y100.Kind == 1))) = true then
    (idx a1.Closed x79).bind fun y173 =>
    some (x76, y173)
    else
    some (x76, false) : Option ((List Int) × Bool)).bind fun p_ => match p_ with
    | (x115, x118) =>
    (if x118 = true then
    (idx x115 y100.A).bind fun y132 =>
    (idx x115 y100.B).bind fun y137 =>
    (idx x115 y100.A).bind fun y145 =>
    (setO x115 y100.A (if y137 < y132 then y137 else y132)).bind fun y151 =>
    (idx x115 y100.B).bind fun y156 =>
    (setO y151 y100.B (if y137 < y132 then y137 else y132)).bind fun y162 =>
    some y162
    else
    some x115 : Option (List Int)).bind fun x123 =>
    some (.inl ((x123, (W (x79 + 1)))))
    else
    some (.inr x76)
noncomputable def board_groups_L2 (a0 : Board) (a1 : Power) (x41 : (List Int)) : ((List Int) × Int) → Option (((List Int) × Int) ⊕ (List Int))
  | (x51, x54) =>
    if ((decide (x54 < (len x41)))) = true then
    (loopR (board_groups_L3 a0 a1) (x51, 0)).bind fun x80 =>
    some (.inl ((x80, (W (x54 + 1)))))
    else
    some (.inr x51)
noncomputable def board_groups_L1 (y28 : List Int) : ((List Int) × Int) → Option (((List Int) × Int) ⊕ (List Int))
  | (x37, x40) =>
    if ((decide (x40 < (len y28)))) = true then
    (idx x37 x40).bind fun y196 =>
    (setO x37 x40 x40).bind fun y201 =>
    some (.inl ((y201, (W (x40 + 1)))))
    else
    some (.inr x37)
noncomputable def board_groups (a0 : Board) (a1 : Power) : Option (List Int) :=
    (mkL Int a0.Buses).bind fun y28 =>
    (loopR (board_groups_L1 y28) (y28, 0)).bind fun x41 =>
    (loopR (board_groups_L2 a0 a1 x41) (x41, 0)).bind fun x55 =>
    some x55

noncomputable def board_led_L1 (a0 : Board) (a1 : Power) (a2 : Int) (a3 : Int) : Int → Option (Int ⊕ (Unit ⊕ (Int × Bool)))
  | x28 =>
    if ((decide (x28 < (len a0.Breakers)))) = true then
    (idx a0.Breakers x28).bind fun y47 =>
    (if (((y47.Kind == a2))) = true then
    (if (((y47.B == a3))) = true then
    (idx a1.Closed x28).bind fun y77 =>
    some y77
    else
    some false : Option Bool).bind fun x70 =>
    some x70
    else
    some false : Option Bool).bind fun x62 =>
    if x62 = true then
    some (.inr (.inr (y47.A, true)))
    else
    some (.inl ((W (x28 + 1))))
    else
    some (.inr (.inl ()))
noncomputable def board_led (a0 : Board) (a1 : Power) (a2 : Int) (a3 : Int) : Option (Int × Bool) :=
    (loopR (board_led_L1 a0 a1 a2 a3) 0).bind (Sum.elim (fun _ =>
    some (0, false)) some)

noncomputable def board_connected (a0 : Board) (a1 : Power) (a2 : Int) : Option (Int × Bool) :=
    (board_in a2 0 ((W ((len a1.Sources) - 1)))).bind fun y28 =>
    (if (!y28) = true then
    some true
    else
    (idx a1.Sources a2).bind fun y53 =>
    some ((((y53.State != 2)))) : Option Bool).bind fun x35 =>
    if x35 = true then
    some (0, false)
    else
    (board_led a0 a1 2 a2).bind fun p_ => match p_ with
    | (y43, y44) =>
    some (y43, y44)

noncomputable def board_fed (a0 : Board) (a1 : Power) (a2 : Int) : Option (Int × Bool) :=
    (board_led a0 a1 3 a2).bind fun p_ => match p_ with
    | (y27, y28) =>
    some (y27, y28)

noncomputable def slices_IndexFunc_Island_Island_L1 (a0 : (List Island)) (f1 : (Island → Option Bool)) : Int → Option (Int ⊕ (Unit ⊕ Int))
  | x4 =>
    if ((decide (x4 < (len a0)))) = true then
    (idx a0 x4).bind fun y24 =>
    (f1 y24).bind fun y37 =>
    if y37 = true then
    some (.inr (.inr x4))
    else
    some (.inl ((W (x4 + 1))))
    else
    some (.inr (.inl ()))
noncomputable def slices_IndexFunc_Island_Island (a0 : (List Island)) (f1 : (Island → Option Bool)) : Option Int :=
    (loopR (slices_IndexFunc_Island_Island_L1 a0 f1) 0).bind (Sum.elim (fun _ =>
    some (-1)) some)

noncomputable def dynposlaw15_two : Option Board :=
    some ((⟨2, ([(⟨1, 0, 1⟩ : Breaker), (⟨2, 0, 0⟩ : Breaker), (⟨2, 1, 1⟩ : Breaker), (⟨3, 0, 0⟩ : Breaker)] : List Breaker), ([(⟨100, 0, 0⟩ : Source), (⟨100, 0, 0⟩ : Source)] : List Source), ([(⟨60, 0, 0, (-1), ([] : List Int)⟩ : Consumer)] : List Consumer), 50, 10⟩ : Board))

noncomputable def dynposref15_Island (a0 : Island) (a1 : Island) : Option Bool :=
    (dynposref01_Ints a0.Buses a1.Buses).bind fun y25 =>
    (if y25 = true then
    (dynposref01_Ints a0.Sources a1.Sources).bind fun y38 =>
    (if y38 = true then
    (dynposref01_Ints a0.Consumers a1.Consumers).bind fun y52 =>
    some y52
    else
    some false : Option Bool).bind fun x45 =>
    some x45
    else
    some false : Option Bool).bind fun x32 =>
    some x32

noncomputable def dynposref15_Copy (a0 : Power) : Option Power :=
    (app ([] : List Bool) a0.Closed).bind fun y26 =>
    (app ([] : List Running) a0.Sources).bind fun y34 =>
    (app ([] : List Int) a0.Limits).bind fun y42 =>
    (app ([] : List Part) a0.Broken).bind fun y50 =>
    some (⟨y26, y34, y42, y50⟩ : Power)

noncomputable def dynposref01_Has_L1 (a0 : (List Int)) (a1 : Int) : Int → Option (Int ⊕ (Unit ⊕ Bool))
  | x4 =>
    if ((decide (x4 < (len a0)))) = true then
    (idx a0 x4).bind fun y23 =>
    if (((y23 == a1))) = true then
    some (.inr (.inr true))
    else
    some (.inl ((W (x4 + 1))))
    else
    some (.inr (.inl ()))
noncomputable def dynposref01_Has (a0 : (List Int)) (a1 : Int) : Option Bool :=
    (loopR (dynposref01_Has_L1 a0 a1) 0).bind (Sum.elim (fun _ =>
    some false) some)

noncomputable def slices_Index_Part_Part_L1 (a0 : (List Part)) (a1 : Part) : Int → Option (Int ⊕ (Unit ⊕ Int))
  | x9 =>
    if ((decide (x9 < (len a0)))) = true then
    (idx a0 x9).bind fun y29 =>
    if ((decide (a1 = y29))) = true then
    some (.inr (.inr x9))
    else
    some (.inl ((W (x9 + 1))))
    else
    some (.inr (.inl ()))
noncomputable def slices_Index_Part_Part (a0 : (List Part)) (a1 : Part) : Option Int :=
    (loopR (slices_Index_Part_Part_L1 a0 a1) 0).bind (Sum.elim (fun _ =>
    some (-1)) some)

noncomputable def slices_Contains_Part_Part (a0 : (List Part)) (a1 : Part) : Option Bool :=
    (slices_Index_Part_Part a0 a1).bind fun y8 =>
    some ((decide (y8 ≥ 0)))

noncomputable def board_Broken (a0 : Power) (a1 : Int) (a2 : Int) : Option Bool :=
    (slices_Contains_Part_Part a0.Broken (⟨a1, a2⟩ : Part)).bind fun y16 =>
    some y16

noncomputable def dynposmake_Small_L1 (a0 : Board) : Int → Option (Int ⊕ (Unit ⊕ Bool))
  | x28 =>
    if ((decide (x28 < (len a0.Consumers)))) = true then
    (idx a0.Consumers x28).bind fun y95 =>
    if ((decide ((len y95.Needs) > 8))) = true then
    some (.inr (.inr false))
    else
    some (.inl ((W (x28 + 1))))
    else
    some (.inr (.inl ()))
noncomputable def dynposmake_Small (a0 : Board) (a1 : Power) : Option Bool :=
    (loopR (dynposmake_Small_L1 a0) 0).bind (Sum.elim (fun _ =>
    (if ((decide ((len a0.Breakers) ≤ 14))) = true then
    (if ((decide ((len a0.Sources) ≤ 10))) = true then
    (if ((decide ((len a0.Consumers) ≤ 8))) = true then
    (if ((decide ((len a1.Closed) ≤ 14))) = true then
    (if ((decide ((len a1.Sources) ≤ 10))) = true then
    (if ((decide ((len a1.Limits) ≤ 10))) = true then
    some (((decide ((len a1.Broken) ≤ 10))))
    else
    some false : Option Bool).bind fun x69 =>
    some x69
    else
    some false : Option Bool).bind fun x62 =>
    some x62
    else
    some false : Option Bool).bind fun x55 =>
    some x55
    else
    some false : Option Bool).bind fun x48 =>
    some x48
    else
    some false : Option Bool).bind fun x41 =>
    some x41
    else
    some false : Option Bool).bind fun x35 =>
    some x35) some)

noncomputable def dynposref15_of_L1 (a0 : Board) (a1 : Int) (a2 : Int) : ((List Int) × Int) → Option (((List Int) × Int) ⊕ (List Int))
  | (x18, x21) =>
    if ((decide (x21 < (len a0.Breakers)))) = true then
    (idx a0.Breakers x21).bind fun y43 =>
    (if (((y43.Kind == a1))) = true then
    (if (((y43.B == a2))) = true then
    some (x18, true, true)
    else
    (if (((a1 == 1))) = true then
    some ((x18, ((y43.A == a2)), ((y43.A == a2)), ((y43.A == a2))))
    else
    some (x18, false, false, false) : Option ((List Int) × Bool × Bool × Bool)).bind fun p_ => match p_ with
    | (x107, x110, x111, x112) =>
    some (x107, x111, x112) : Option ((List Int) × Bool × Bool)).bind fun p_ => match p_ with
    | (x89, x92, x93) =>
    some (x89, x93)
    else
    some (x18, false) : Option ((List Int) × Bool)).bind fun p_ => match p_ with
    | (x58, x61) =>
    (if x61 = true then
    (app x58 ([x21] : List Int)).bind fun y79 =>
    some y79
    else
    some x58 : Option (List Int)).bind fun x66 =>
    some (.inl ((x66, (W (x21 + 1)))))
    else
    some (.inr x18)
noncomputable def dynposref15_of (a0 : Board) (a1 : Int) (a2 : Int) : Option (List Int) :=
    (loopR (dynposref15_of_L1 a0 a1 a2) ((([] : List Int), 0))).bind fun x22 =>
    some x22

noncomputable def dynposref15_breakers_L3 (a0 : Board) : Int → Option (Int ⊕ (Unit ⊕ Bool))
  | x31 =>
    if ((decide (x31 < (len a0.Consumers)))) = true then
    (dynposref15_of a0 3 x31).bind fun y51 =>
    if ((decide ((len y51) < 1))) = true then
    some (.inr (.inr false))
    else
    some (.inl ((W (x31 + 1))))
    else
    some (.inr (.inl ()))
noncomputable def dynposref15_breakers_L2 (a0 : Board) : Int → Option (Int ⊕ (Unit ⊕ Bool))
  | x23 =>
    if ((decide (x23 < (len a0.Sources)))) = true then
    (dynposref15_of a0 2 x23).bind fun y75 =>
    if ((((len y75) != 1))) = true then
    some (.inr (.inr false))
    else
    some (.inl ((W (x23 + 1))))
    else
    some (.inr (.inl ()))
noncomputable def dynposref15_breakers_L4 (y98 : Breaker) (y162 : List Breaker) : ((List Breaker) × Int) → Option (((List Breaker) × Int) ⊕ (Unit ⊕ Bool))
  | (x166, x169) =>
    if ((decide (x169 < (len y162)))) = true then
    (idx x166 x169).bind fun y187 =>
    if ((decide (y187 = y98))) = true then
    some (.inr (.inr false))
    else
    some (.inl ((x166, (W (x169 + 1)))))
    else
    some (.inr (.inl ()))
noncomputable def dynposref15_breakers_L1 (a0 : Board) : Int → Option (Int ⊕ (Unit ⊕ Bool))
  | x15 =>
    if ((decide (x15 < (len a0.Breakers)))) = true then
    (idx a0.Breakers x15).bind fun y98 =>
    (dynposref15_within y98.A 0 ((W (a0.Buses - 1)))).bind fun y114 =>
    if (!y114) = true then
    some (.inr (.inr false))
    else
    if (((y98.Kind == 1))) = true then
    (dynposref15_within y98.B ((W (y98.A + 1))) ((W (a0.Buses - 1)))).bind fun y127 =>
    if (!y127) = true then
    some (.inr (.inr false))
    else
    some (.inl ((W (x15 + 1))))
    else
    if (((y98.Kind == 2))) = true then
    (dynposref15_within y98.B 0 ((W ((len a0.Sources) - 1)))).bind fun y139 =>
    if (!y139) = true then
    some (.inr (.inr false))
    else
    some (.inl ((W (x15 + 1))))
    else
    if (((y98.Kind == 3))) = true then
    (dynposref15_within y98.B 0 ((W ((len a0.Consumers) - 1)))).bind fun y152 =>
    if (!y152) = true then
    some (.inr (.inr false))
    else
    (slc a0.Breakers 0 x15).bind fun y162 =>
    (loopR (dynposref15_breakers_L4 y98 y162) (y162, 0)).bind (Sum.elim (fun _ =>
    some (.inl ((W (x15 + 1))))) (fun r_ => some (.inr (.inr r_))))
    else
    some (.inr (.inr false))
    else
    some (.inr (.inl ()))
noncomputable def dynposref15_breakers (a0 : Board) : Option Bool :=
    (loopR (dynposref15_breakers_L1 a0) 0).bind (Sum.elim (fun _ =>
    (loopR (dynposref15_breakers_L2 a0) 0).bind (Sum.elim (fun _ =>
    (loopR (dynposref15_breakers_L3 a0) 0).bind (Sum.elim (fun _ =>
    some true) some)) some)) some)

noncomputable def dynposref15_sources_L1 (a0 : Board) : Int → Option (Int ⊕ (Unit ⊕ Bool))
  | x15 =>
    if ((decide (x15 < (len a0.Sources)))) = true then
    (idx a0.Sources x15).bind fun y34 =>
    (dynposref15_within y34.Rating 1 50000).bind fun y49 =>
    (if (!y49) = true then
    some true
    else
    (dynposref15_within y34.Least 0 y34.Rating).bind fun y65 =>
    (if (!y65) = true then
    some true
    else
    (dynposref15_within y34.Start 0 600).bind fun y80 =>
    some (!y80) : Option Bool).bind fun x72 =>
    some x72 : Option Bool).bind fun x56 =>
    if x56 = true then
    some (.inr (.inr false))
    else
    some (.inl ((W (x15 + 1))))
    else
    some (.inr (.inl ()))
noncomputable def dynposref15_sources (a0 : Board) : Option Bool :=
    (loopR (dynposref15_sources_L1 a0) 0).bind (Sum.elim (fun _ =>
    some true) some)

noncomputable def dynposref15_consumers_L2 (x15 : Int) (x61 : (List Int)) : ((List Int) × Int × (List Int)) → Option (((List Int) × Int × (List Int)) ⊕ (Unit ⊕ Bool))
  | (x71, x74, x75) =>
    if ((decide (x74 < (len x61)))) = true then
    (idx x71 x74).bind fun y95 =>
    (dynposref15_within y95 0 ((W (x15 - 1)))).bind fun y101 =>
    (if (!y101) = true then
    some (x71, true, x75)
    else
    (if ((decide (x74 > 0))) = true then
    (idx x75 ((W (x74 - 1)))).bind fun y145 =>
    some ((x71, (decide (y145 ≥ y95)), (decide (y145 ≥ y95)), x75))
    else
    some (x71, false, false, x75) : Option ((List Int) × Bool × Bool × (List Int))).bind fun p_ => match p_ with
    | (x127, x130, x131, x132) =>
    some (x127, x131, x132) : Option ((List Int) × Bool × (List Int))).bind fun p_ => match p_ with
    | (x108, x111, x112) =>
    if x111 = true then
    some (.inr (.inr false))
    else
    some (.inl ((x108, (W (x74 + 1)), x112)))
    else
    some (.inr (.inl ()))
noncomputable def dynposref15_consumers_L1 (a0 : Board) : Int → Option (Int ⊕ (Unit ⊕ Bool))
  | x15 =>
    if ((decide (x15 < (len a0.Consumers)))) = true then
    (idx a0.Consumers x15).bind fun y34 =>
    (dynposref15_within y34.Load 0 50000).bind fun y53 =>
    (if (!y53) = true then
    some (true, y34.Needs)
    else
    (dynposref15_within y34.Least 0 y34.Load).bind fun y168 =>
    (if (!y168) = true then
    some (true, y34.Needs)
    else
    (dynposref15_within y34.Preference 0 15).bind fun y190 =>
    (if (!y190) = true then
    some (true, y34.Needs)
    else
    (dynposref15_within y34.Thruster (-1) 7).bind fun y212 =>
    (if (!y212) = true then
    some (true, y34.Needs)
    else
    some (((decide ((len y34.Needs) > 4)), y34.Needs)) : Option (Bool × (List Int))).bind fun p_ => match p_ with
    | (x219, x220) =>
    some (x219, x220) : Option (Bool × (List Int))).bind fun p_ => match p_ with
    | (x197, x198) =>
    some (x197, x198) : Option (Bool × (List Int))).bind fun p_ => match p_ with
    | (x175, x176) =>
    some (x175, x176) : Option (Bool × (List Int))).bind fun p_ => match p_ with
    | (x60, x61) =>
    if x60 = true then
    some (.inr (.inr false))
    else
    (loopR (dynposref15_consumers_L2 x15 x61) (x61, 0, x61)).bind (Sum.elim (fun _ =>
    some (.inl ((W (x15 + 1))))) (fun r_ => some (.inr (.inr r_))))
    else
    some (.inr (.inl ()))
noncomputable def dynposref15_consumers (a0 : Board) : Option Bool :=
    (loopR (dynposref15_consumers_L1 a0) 0).bind (Sum.elim (fun _ =>
    some true) some)

noncomputable def dynposref15_Check (a0 : Board) : Option Int :=
    (if ((decide (a0.Buses < 1))) = true then
    some true
    else
    (if ((decide (a0.Buses > 6))) = true then
    some true
    else
    (if ((decide ((len a0.Breakers) > 24))) = true then
    some true
    else
    (if ((decide ((len a0.Sources) > 8))) = true then
    some true
    else
    some (((decide ((len a0.Consumers) > 16)))) : Option Bool).bind fun x114 =>
    some x114 : Option Bool).bind fun x106 =>
    some x106 : Option Bool).bind fun x98 =>
    some x98 : Option Bool).bind fun x15 =>
    if x15 = true then
    some 2
    else
    (dynposref15_breakers a0).bind fun y24 =>
    (if (!y24) = true then
    some true
    else
    (dynposref15_sources a0).bind fun y41 =>
    (if (!y41) = true then
    some true
    else
    (dynposref15_consumers a0).bind fun y56 =>
    (if (!y56) = true then
    some true
    else
    (if ((decide (a0.Phase < 0))) = true then
    some true
    else
    (if ((decide (a0.Phase > 1800))) = true then
    some true
    else
    (if ((decide (a0.Frequency < 0))) = true then
    some true
    else
    some (((decide (a0.Frequency > 6000)))) : Option Bool).bind fun x87 =>
    some x87 : Option Bool).bind fun x79 =>
    some x79 : Option Bool).bind fun x71 =>
    some x71 : Option Bool).bind fun x63 =>
    some x63 : Option Bool).bind fun x48 =>
    some x48 : Option Bool).bind fun x31 =>
    if x31 = true then
    some 14
    else
    some 0

noncomputable def Src_Odd (st0 : List Int) : Option (Int × List Int) :=
    (Src_Pick st0 (([(-1), 0, 1, 4611686018427387904, (-4611686018427387904), 9223372036854775807, (-9223372036854775808), 1000000000, 1000000001, (-1000000001), 3600, 1800, 100000000, 100000001, 5001] : List Int))).bind fun p_ => match p_ with
    | (y8, st9) =>
    some (y8, st9)

noncomputable def dynposref15_Before (a0 : Part) (a1 : Part) : Option Bool :=
    (if ((decide (a0.Kind < a1.Kind))) = true then
    some true
    else
    (if (((a0.Kind == a1.Kind))) = true then
    some (((decide (a0.Number < a1.Number))))
    else
    some false : Option Bool).bind fun x20 =>
    some x20 : Option Bool).bind fun x13 =>
    some x13

noncomputable def dynposref15_State_L5 (a1 : Power) (y99 : (List Int)) : (Int × (List Int) × Int) → Option ((Int × (List Int) × Int) ⊕ Int)
  | (x108, x109, x112) =>
    if ((decide (x112 < (len y99)))) = true then
    (idx x109 x112).bind fun y134 =>
    (idx a1.Closed y134).bind fun y140 =>
    (if y140 = true then
    some (((W (x108 + 1)), x109))
    else
    some (x108, x109) : Option (Int × (List Int))).bind fun p_ => match p_ with
    | (x145, x146) =>
    some (.inl ((x145, x146, (W (x112 + 1)))))
    else
    some (.inr x108)
noncomputable def dynposref15_State_L4 (a0 : Board) (a1 : Power) : Int → Option (Int ⊕ (Unit ⊕ Int))
  | x77 =>
    if ((decide (x77 < (len a0.Consumers)))) = true then
    (dynposref15_of a0 3 x77).bind fun y99 =>
    (loopR (dynposref15_State_L5 a1 y99) (0, y99, 0)).bind fun x113 =>
    if ((decide (x113 > 1))) = true then
    some (.inr (.inr 11))
    else
    some (.inl ((W (x77 + 1))))
    else
    some (.inr (.inl ()))
noncomputable def dynposref15_State_L3 (a0 : Board) (a1 : Power) : Int → Option (Int ⊕ (Unit ⊕ Int))
  | x69 =>
    if ((decide (x69 < (len a1.Broken)))) = true then
    (idx a1.Broken x69).bind fun y172 =>
    (dynposref15_Exists a0 y172).bind fun y187 =>
    (if (!y187) = true then
    some true
    else
    (if ((decide (x69 > 0))) = true then
    (idx a1.Broken ((W (x69 - 1)))).bind fun y214 =>
    (dynposref15_Before y214 y172).bind fun y221 =>
    some (((!y221), (!y221)))
    else
    some (false, false) : Option (Bool × Bool)).bind fun p_ => match p_ with
    | (x206, x207) =>
    some x207 : Option Bool).bind fun x194 =>
    if x194 = true then
    some (.inr (.inr 11))
    else
    some (.inl ((W (x69 + 1))))
    else
    some (.inr (.inl ()))
noncomputable def dynposref15_State_L2 (a0 : Board) (a1 : Power) : Int → Option (Int ⊕ (Unit ⊕ Int))
  | x57 =>
    if ((decide (x57 < (len a1.Limits)))) = true then
    (idx a1.Limits x57).bind fun y252 =>
    (idx a0.Consumers x57).bind fun y258 =>
    (dynposref15_within y252 0 y258.Load).bind fun y263 =>
    if (!y263) = true then
    some (.inr (.inr 11))
    else
    some (.inl ((W (x57 + 1))))
    else
    some (.inr (.inl ()))
noncomputable def dynposref15_State_L1 (a1 : Power) : Int → Option (Int ⊕ (Unit ⊕ Int))
  | x49 =>
    if ((decide (x49 < (len a1.Sources)))) = true then
    (idx a1.Sources x49).bind fun y284 =>
    (dynposref15_within y284.State 0 3).bind fun y299 =>
    (if (!y299) = true then
    some true
    else
    (dynposref15_within y284.Since 0 2147483648).bind fun y315 =>
    (if (!y315) = true then
    some true
    else
    (dynposref15_within y284.Frequency 0 6000).bind fun y330 =>
    (if (!y330) = true then
    some true
    else
    (dynposref15_within y284.Phase 0 3599).bind fun y345 =>
    some (!y345) : Option Bool).bind fun x337 =>
    some x337 : Option Bool).bind fun x322 =>
    some x322 : Option Bool).bind fun x306 =>
    if x306 = true then
    some (.inr (.inr 11))
    else
    some (.inl ((W (x49 + 1))))
    else
    some (.inr (.inl ()))
noncomputable def dynposref15_State (a0 : Board) (a1 : Power) : Option Int :=
    (dynposref15_Check a0).bind fun y28 =>
    if (((y28 != 0))) = true then
    some y28
    else
    (if ((((len a1.Closed) != (len a0.Breakers)))) = true then
    some true
    else
    (if ((((len a1.Sources) != (len a0.Sources)))) = true then
    some true
    else
    some (((((len a1.Limits) != (len a0.Consumers))))) : Option Bool).bind fun x355 =>
    some x355 : Option Bool).bind fun x40 =>
    if x40 = true then
    some 8
    else
    (loopR (dynposref15_State_L1 a1) 0).bind (Sum.elim (fun _ =>
    (loopR (dynposref15_State_L2 a0 a1) 0).bind (Sum.elim (fun _ =>
    if ((decide ((len a1.Broken) > 32))) = true then
    some 11
    else
    (loopR (dynposref15_State_L3 a0 a1) 0).bind (Sum.elim (fun _ =>
    (loopR (dynposref15_State_L4 a0 a1) 0).bind (Sum.elim (fun _ =>
    some 0) some)) some)) some)) some)

noncomputable def dynposref15_reach_L2 (x52 : (List Bool)) : ((List Bool) × (List Int) × Int) → Option (((List Bool) × (List Int) × Int) ⊕ (List Int))
  | (x64, x67, x70) =>
    if ((decide (x70 < (len x52)))) = true then
    (idx x64 x70).bind fun y93 =>
    (if y93 = true then
    (app x67 ([x70] : List Int)).bind fun y114 =>
    some (x64, y114)
    else
    some (x64, x67) : Option ((List Bool) × (List Int))).bind fun p_ => match p_ with
    | (x98, x101) =>
    some (.inl ((x98, x101, (W (x70 + 1)))))
    else
    some (.inr x67)
noncomputable def dynposref15_reach_L3 (a0 : Board) (a1 : Power) : ((List Bool) × Int) → Option (((List Bool) × Int) ⊕ (List Bool))
  | (x139, x142) =>
    if ((decide (x142 < (len a0.Breakers)))) = true then
    (idx a0.Breakers x142).bind fun y163 =>
    (if (((y163.Kind == 1))) = true then
    (idx a1.Closed x142).bind fun y222 =>
    (if y222 = true then
    (idx x139 y163.A).bind fun y239 =>
    (if y239 = true then
    some (x139, x139, true, true)
    else
    (idx x139 y163.B).bind fun y267 =>
    some (x139, x139, y267, y267) : Option ((List Bool) × (List Bool) × Bool × Bool)).bind fun p_ => match p_ with
    | (x244, x247, x250, x251) =>
    some (x244, x251)
    else
    some (x139, false) : Option ((List Bool) × Bool)).bind fun p_ => match p_ with
    | (x227, x230) =>
    some (x227, x230)
    else
    some (x139, false) : Option ((List Bool) × Bool)).bind fun p_ => match p_ with
    | (x178, x181) =>
    (if x181 = true then
    (idx x178 y163.A).bind fun y194 =>
    (setO x178 y163.A true).bind fun y200 =>
    (idx x178 y163.B).bind fun y205 =>
    (setO y200 y163.B true).bind fun y211 =>
    some y211
    else
    some x178 : Option (List Bool)).bind fun x186 =>
    some (.inl ((x186, (W (x142 + 1)))))
    else
    some (.inr x139)
noncomputable def dynposref15_reach_L1 (a0 : Board) (a1 : Power) (y41 : List Bool) : ((List Bool) × Int) → Option (((List Bool) × Int) ⊕ (List Bool))
  | (x48, x51) =>
    if ((decide (x51 < (len y41)))) = true then
    (loopR (dynposref15_reach_L3 a0 a1) (x48, 0)).bind fun x143 =>
    some (.inl ((x143, (W (x51 + 1)))))
    else
    some (.inr x48)
noncomputable def dynposref15_reach (a0 : Board) (a1 : Power) (a2 : Int) : Option (List Int) :=
    (mkL Bool a0.Buses).bind fun y28 =>
    (idx y28 a2).bind fun y36 =>
    (setO y28 a2 true).bind fun y41 =>
    (loopR (dynposref15_reach_L1 a0 a1 y41) (y41, 0)).bind fun x52 =>
    (loopR (dynposref15_reach_L2 x52) ((x52, ([] : List Int), 0))).bind fun x71 =>
    some x71

noncomputable def dynposref15_Connected (a0 : Board) (a1 : Power) (a2 : Int) : Option (Int × Bool) :=
    (dynposref15_State a0 a1).bind fun y28 =>
    (if (((y28 != 0))) = true then
    some true
    else
    (if ((decide (a2 < 0))) = true then
    some true
    else
    (if ((decide (a2 ≥ (len a0.Sources)))) = true then
    some true
    else
    (idx a1.Sources a2).bind fun y90 =>
    some ((((y90.State != 2)))) : Option Bool).bind fun x82 =>
    some x82 : Option Bool).bind fun x74 =>
    some x74 : Option Bool).bind fun x35 =>
    if x35 = true then
    some (0, false)
    else
    (dynposref15_of a0 2 a2).bind fun y43 =>
    (idx y43 0).bind fun y52 =>
    (idx a1.Closed y52).bind fun y59 =>
    if (!y59) = true then
    some (0, false)
    else
    (idx a0.Breakers y52).bind fun y67 =>
    some (y67.A, true)

noncomputable def dynposref15_Fed_L1 (a0 : Board) (a1 : Power) (y44 : (List Int)) : ((List Int) × Int) → Option (((List Int) × Int) ⊕ (Unit ⊕ (Int × Bool)))
  | (x53, x56) =>
    if ((decide (x56 < (len y44)))) = true then
    (idx x53 x56).bind fun y75 =>
    (idx a1.Closed y75).bind fun y81 =>
    if y81 = true then
    (idx a0.Breakers y75).bind fun y88 =>
    some (.inr (.inr (y88.A, true)))
    else
    some (.inl ((x53, (W (x56 + 1)))))
    else
    some (.inr (.inl ()))
noncomputable def dynposref15_Fed (a0 : Board) (a1 : Power) (a2 : Int) : Option (Int × Bool) :=
    (dynposref15_State a0 a1).bind fun y28 =>
    (if (((y28 != 0))) = true then
    some true
    else
    (if ((decide (a2 < 0))) = true then
    some true
    else
    some (((decide (a2 ≥ (len a0.Consumers))))) : Option Bool).bind fun x95 =>
    some x95 : Option Bool).bind fun x35 =>
    if x35 = true then
    some (0, false)
    else
    (dynposref15_of a0 3 a2).bind fun y44 =>
    (loopR (dynposref15_Fed_L1 a0 a1 y44) (y44, 0)).bind (Sum.elim (fun _ =>
    some (0, false)) some)

noncomputable def dynposref15_Of_L2 (a0 : Board) (a1 : Power) : (Int × (List Int) × (List Int) × (List Int) × (List Int) × (List Int) × (List Int)) → Option ((Int × (List Int) × (List Int) × (List Int) × (List Int) × (List Int) × (List Int)) ⊕ ((List Int) × (List Int) × (List Int) × (List Int) × (List Int) × (List Int)))
  | (x132, x133, x136, x139, x142, x145, x148) =>
    if ((decide (x132 < (len a0.Consumers)))) = true then
    (dynposref15_Fed a0 a1 x132).bind fun p_ => match p_ with
    | (y190, y191) =>
    (if y191 = true then
    (dynposref01_Has x142 y190).bind fun y282 =>
    some (y282, x133, x136, x139, x142, x145, x148)
    else
    some (false, x133, x136, x139, x142, x145, x148) : Option (Bool × (List Int) × (List Int) × (List Int) × (List Int) × (List Int) × (List Int))).bind fun p_ => match p_ with
    | (x199, x200, x203, x206, x209, x212, x215) =>
    (if x199 = true then
    (app x215 ([x132] : List Int)).bind fun y250 =>
    some (x200, x203, x206, x209, x212, y250)
    else
    some (x200, x203, x206, x209, x212, x215) : Option ((List Int) × (List Int) × (List Int) × (List Int) × (List Int) × (List Int))).bind fun p_ => match p_ with
    | (x222, x225, x228, x231, x234, x237) =>
    some (.inl (((W (x132 + 1)), x222, x225, x228, x231, x234, x237)))
    else
    some (.inr (x133, x136, x139, x142, x145, x148))
noncomputable def dynposref15_Of_L1 (a0 : Board) (a1 : Power) : (Int × (List Int) × (List Int) × (List Int) × (List Int) × (List Int) × (List Int)) → Option ((Int × (List Int) × (List Int) × (List Int) × (List Int) × (List Int) × (List Int)) ⊕ ((List Int) × (List Int) × (List Int) × (List Int) × (List Int) × (List Int)))
  | (x88, x89, x92, x95, x98, x101, x104) =>
    if ((decide (x88 < (len a0.Sources)))) = true then
    (dynposref15_Connected a0 a1 x88).bind fun p_ => match p_ with
    | (y328, y329) =>
    (if y329 = true then
    (dynposref01_Has x98 y328).bind fun y420 =>
    some (y420, x89, x92, x95, x98, x101, x104)
    else
    some (false, x89, x92, x95, x98, x101, x104) : Option (Bool × (List Int) × (List Int) × (List Int) × (List Int) × (List Int) × (List Int))).bind fun p_ => match p_ with
    | (x337, x338, x341, x344, x347, x350, x353) =>
    (if x337 = true then
    (app x350 ([x88] : List Int)).bind fun y388 =>
    some (x338, x341, x344, x347, y388, x353)
    else
    some (x338, x341, x344, x347, x350, x353) : Option ((List Int) × (List Int) × (List Int) × (List Int) × (List Int) × (List Int))).bind fun p_ => match p_ with
    | (x360, x363, x366, x369, x372, x375) =>
    some (.inl (((W (x88 + 1)), x360, x363, x366, x369, x372, x375)))
    else
    some (.inr (x89, x92, x95, x98, x101, x104))
noncomputable def dynposref15_Of (a0 : Board) (a1 : Power) (a2 : Int) : Option (Island × Bool) :=
    (dynposref15_State a0 a1).bind fun y36 =>
    (if (((y36 != 0))) = true then
    some ((true, ([] : List Int), ([] : List Int), ([] : List Int)))
    else
    (if ((decide (a2 < 0))) = true then
    some ((true, ([] : List Int), ([] : List Int), ([] : List Int)))
    else
    some (((decide (a2 ≥ a0.Buses)), ([] : List Int), ([] : List Int), ([] : List Int))) : Option (Bool × (List Int) × (List Int) × (List Int))).bind fun p_ => match p_ with
    | (x461, x462, x465, x468) =>
    some (x461, x462, x465, x468) : Option (Bool × (List Int) × (List Int) × (List Int))).bind fun p_ => match p_ with
    | (x43, x44, x47, x50) =>
    if x43 = true then
    some (((⟨([] : List Int), ([] : List Int), ([] : List Int)⟩ : Island), false))
    else
    (dynposref15_reach a0 a1 a2).bind fun y65 =>
    (loopR (dynposref15_Of_L1 a0 a1) ((0, x44, x47, x50, y65, ([] : List Int), ([] : List Int)))).bind fun p_ => match p_ with
    | (x107, x110, x113, x116, x119, x122) =>
    (loopR (dynposref15_Of_L2 a0 a1) (0, x107, x110, x113, x116, x119, x122)).bind fun p_ => match p_ with
    | (x151, x154, x157, x160, x163, x166) =>
    some (((⟨x160, x163, x166⟩ : Island), true))

noncomputable def dynposref15_Islands_L1 (a0 : Board) (a1 : Power) : ((List Island) × Int) → Option (((List Island) × Int) ⊕ (List Island))
  | (x43, x46) =>
    if ((decide (x46 < a0.Buses))) = true then
    (dynposref15_Of a0 a1 x46).bind fun p_ => match p_ with
    | (y68, y69) =>
    (idx y68.Buses 0).bind fun y95 =>
    (if (((y95 == x46))) = true then
    (app x43 ([y68] : List Island)).bind fun y113 =>
    some y113
    else
    some x43 : Option (List Island)).bind fun x100 =>
    some (.inl ((x100, (W (x46 + 1)))))
    else
    some (.inr x43)
noncomputable def dynposref15_Islands (a0 : Board) (a1 : Power) : Option (List Island) :=
    (dynposref15_State a0 a1).bind fun y29 =>
    if (((y29 != 0))) = true then
    some ([] : List Island)
    else
    (loopR (dynposref15_Islands_L1 a0 a1) ((([] : List Island), 0))).bind fun x47 =>
    some x47

noncomputable def dynposref15_Live (a0 : Board) (a1 : Power) (a2 : Int) : Option Bool :=
    (dynposref15_Of a0 a1 a2).bind fun p_ => match p_ with
    | (y27, y28) =>
    (if y28 = true then
    some (((decide ((len y27.Sources) > 0))))
    else
    some false : Option Bool).bind fun x54 =>
    some x54

noncomputable def dynposref15_Broken_L1 (a0 : Power) (a1 : Int) (a2 : Int) : Int → Option (Int ⊕ (Unit ⊕ Bool))
  | x17 =>
    if ((decide (x17 < (len a0.Broken)))) = true then
    (idx a0.Broken x17).bind fun y36 =>
    (if (((y36.Kind == a1))) = true then
    some ((((y36.Number == a2))))
    else
    some false : Option Bool).bind fun x51 =>
    if x51 = true then
    some (.inr (.inr true))
    else
    some (.inl ((W (x17 + 1))))
    else
    some (.inr (.inl ()))
noncomputable def dynposref15_Broken (a0 : Power) (a1 : Int) (a2 : Int) : Option Bool :=
    (loopR (dynposref15_Broken_L1 a0 a1 a2) 0).bind (Sum.elim (fun _ =>
    some false) some)

noncomputable def dynposref15_Find (a0 : Board) (a1 : Int) (a2 : Int) : Option (List Int) :=
    (dynposref15_Check a0).bind fun y16 =>
    if (((y16 != 0))) = true then
    some ([] : List Int)
    else
    (dynposref15_of a0 a1 a2).bind fun y27 =>
    some y27

noncomputable def board_Islands_1 (a0 : Island) : Option Bool :=
    some ((((len a0.Buses) == 0)))

noncomputable def board_running (a0 : Running) : Option Bool :=
    (board_in a0.State 0 3).bind fun y8 =>
    (if y8 = true then
    (board_in a0.Since 0 2147483648).bind fun y21 =>
    (if y21 = true then
    (board_in a0.Frequency 0 6000).bind fun y35 =>
    (if y35 = true then
    (board_in a0.Phase 0 3599).bind fun y49 =>
    some y49
    else
    some false : Option Bool).bind fun x42 =>
    some x42
    else
    some false : Option Bool).bind fun x28 =>
    some x28
    else
    some false : Option Bool).bind fun x15 =>
    some x15

noncomputable def board_State_1 (a0 : Running) : Option Bool :=
    (board_running a0).bind fun y8 =>
    some (!y8)

noncomputable def board_breakers_1 (a0 : (List Int)) : Option Bool :=
    some ((((len a0) == 0)))

noncomputable def Src_N_raw (sL : List Int) (sk : Int) (a1 : Int) : Option (Int × Int) :=
    if ((decide (sk ≥ (len sL)))) = true then
    some (0, sk)
    else
    (idx sL ((W (((W (sk + 1))) - 1)))).bind fun y13 =>
    (dynposmake_Mod y13 a1).bind fun y18 =>
    some ((y18, (W (sk + 1))))

end Go.Proofs.Ytnpghnnlcakbfaa
