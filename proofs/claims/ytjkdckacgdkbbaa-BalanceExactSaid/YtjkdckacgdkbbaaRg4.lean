/- Plain functions, walks. Written by a program (wip/gen). -/
import Derived.Test.YtjkdckacgdkbbaaRt
import Derived.Test.YtjkdckacgdkbbaaRg1
import Derived.Test.YtjkdckacgdkbbaaRg2
import Derived.Test.YtjkdckacgdkbbaaRg3
set_option linter.unusedVariables false
set_option maxRecDepth 100000
namespace Go.Proofs.Ytjkdckacgdkbbaa
open Go Go.RowKit Dp
namespace Rx

noncomputable def Src_BentPower_L1 (x1 : List Bool ×
  List Running ×
    List Int ×
      List
        Part) : Int × List Bool →
  Option
    (Int × List Bool ⊕
      List
        Bool) := fun x3 =>
  if decide (x3.1 < len x1.1) = true then
    Option.bind (idx x3.2 x3.1) fun x4 =>
      Option.bind (idx x3.2 x3.1) fun x5 =>
        Option.bind (setO x3.2 x3.1 true) fun x6 => some (.inl (W (x3.1 + 1), x6))
  else some (.inr x3.2)
noncomputable def Src_BentPower (a0 : Src) (a1 : Power) : Option ((List Int) × Int × (List Bool) × (List Running) × (List Int) × (List Part)) :=
  Option.bind (dynposref15_Copy a1) fun x1 =>
    Option.bind (Src_N a0 6) fun x2 =>
      Option.bind
        (if (x2.1 == 0) = true then
          Option.bind (app x1.1 [true]) fun x33 =>
            some (x2.2.1, x2.2.2, x1.2.1, x1.2.2.1, x33, x1.2.2.2)
        else
          Option.bind
            (if (x2.1 == 1) = true then
              Option.bind
                (if decide (len x1.2.1 > 0) = true then
                  Option.bind (Src_N (Src.mk x2.2.1 x2.2.2) (len x1.2.1)) fun x26 =>
                    Option.bind (Src_Range (Src.mk x26.2.1 x26.2.2) (-1) 5) fun x27 =>
                      Option.bind (idx x1.2.1 x26.1) fun x28 =>
                        Option.bind (idx x1.2.1 x26.1) fun x29 =>
                          Option.bind (setO x1.2.1 x26.1 (Running.mk x27.1 x29.Since x29.Frequency x29.Phase))
                            fun x30 => some (x27.2.1, x27.2.2, x30)
                else some (x2.2.1, x2.2.2, x1.2.1))
                fun x31 => some (x31.1, x31.2.1, x1.1, x31.2.2, x1.2.2.1, x1.2.2.2)
            else
              Option.bind
                (if (x2.1 == 2) = true then
                  Option.bind
                    (if decide (len x1.2.1 > 0) = true then
                      Option.bind (Src_N (Src.mk x2.2.1 x2.2.2) (len x1.2.1)) fun x19 =>
                        Option.bind (Src_Odd (Src.mk x19.2.1 x19.2.2)) fun x20 =>
                          Option.bind (idx x1.2.1 x19.1) fun x21 =>
                            Option.bind (idx x1.2.1 x19.1) fun x22 =>
                              Option.bind
                                (setO x1.2.1 x19.1 (Running.mk x22.State x22.Since x22.Frequency x20.1))
                                fun x23 => some (x20.2.1, x20.2.2, x23)
                    else some (x2.2.1, x2.2.2, x1.2.1))
                    fun x24 => some (x24.1, x24.2.1, x1.1, x24.2.2, x1.2.2.1, x1.2.2.2)
                else
                  Option.bind
                    (if (x2.1 == 3) = true then
                      Option.bind
                        (if decide (len x1.2.2.1 > 0) = true then
                          Option.bind (Src_N (Src.mk x2.2.1 x2.2.2) (len x1.2.2.1)) fun x12 =>
                            Option.bind (Src_Odd (Src.mk x12.2.1 x12.2.2)) fun x13 =>
                              Option.bind (idx x1.2.2.1 x12.1) fun x14 =>
                                Option.bind (idx x1.2.2.1 x12.1) fun x15 =>
                                  Option.bind (setO x1.2.2.1 x12.1 x13.1) fun x16 =>
                                    some (x13.2.1, x13.2.2, x16)
                        else some (x2.2.1, x2.2.2, x1.2.2.1))
                        fun x17 => some (x17.1, x17.2.1, x1.1, x17.2.2, x1.2.2.2)
                    else
                      Option.bind
                        (if (x2.1 == 4) = true then
                          Option.bind (Src_Range (Src.mk x2.2.1 x2.2.2) 0 5) fun x8 =>
                            Option.bind (Src_Range (Src.mk x8.2.1 x8.2.2) (-1) 5)
                              fun x9 =>
                              Option.bind (app x1.2.2.2 [Part.mk x8.1 x9.1]) fun x10 =>
                                some (x9.2.1, x9.2.2, x1.1, x10)
                        else
                          Option.bind (loopO (Src_BentPower_L1 x1) (0, x1.1)) fun x7 =>
                            some (x2.2.1, x2.2.2, x7, x1.2.2.2))
                        fun x11 => some (x11.1, x11.2.1, x11.2.2.1, x1.2.2.1, x11.2.2.2))
                    fun x18 =>
                    some (x18.1, x18.2.1, x18.2.2.1, x1.2.1, x18.2.2.2.1, x18.2.2.2.2))
                fun x25 =>
                some
                  (x25.1, x25.2.1, x25.2.2.1, x25.2.2.2.1, x25.2.2.2.2.1,
                    x25.2.2.2.2.2))
            fun x32 =>
            some
              (x32.1, x32.2.1, x32.2.2.2.1, x32.2.2.2.2.1, x32.2.2.1,
                x32.2.2.2.2.2))
        fun x34 =>
        some
          (x34.1, x34.2.1, x34.2.2.2.2.1, x34.2.2.1, x34.2.2.2.1, x34.2.2.2.2.2)
noncomputable def c17_1 : Con D := ⟨17, [.lf (.sl 0), .lf (.int .i64), .lf (.sl 1), .lf (.sl 8), .lf (.sl 0), .lf (.sl 9)], [.lf (.sl 0), .lf (.int .i64), .lf (.sl 1), .lf (.sl 8), .lf (.sl 0), .lf (.sl 9)], [.one (.ptr 1000 0), .agg [.h 2 [0], .h 3 [0], .h 4 [0], .h 5 [0]]], [(1000, .box [.h 0 [0], .h 1 []])], [.agg [.own 1001, .own 1002, .own 1003, .own 1004]], [(1000, .box [.h 0 [0], .h 1 []]), (1001, .sl 1 4 2 [0]), (1002, .sl 8 67 3 [0]), (1003, .sl 0 3 4 [0]), (1004, .sl 9 69 5 [0])], fun h => Src_BentPower ⟨h.1, h.2.1⟩ ⟨h.2.2.1, h.2.2.2.1, h.2.2.2.2.1, h.2.2.2.2.2⟩⟩
theorem c17_1_ok : ConOk Try.prog T c17_1 := fn_ok (Φ := [c10, c11, c26, c35_1]) (rs := [.cell 4 32]) (an := (.n none .o (.n none .o (.n none (.n none .o (.n none (.n none .o (.n (some (true, [(.normal, ⟨[.lf (.sl 0), .lf (.int .i64), .lf (.sl 8), .lf (.sl 0), .lf (.sl 1), .lf (.sl 9)], [], [(1000, .box [.h 0 [0], .h 1 []]), (2201, .sl 8 67 2 [0]), (2202, .sl 0 3 3 [0]), (2256, .box [.own 2640, .own 2201, .own 2202, .own 2641]), (2640, .sl 1 4 4 [0]), (2641, .sl 9 69 5 [0])], [1000, 2200, 2201, 2202, 2203, 2256], 2704⟩)])) .o (.n none .o (.n (some (true, [(.normal, ⟨[.lf (.sl 0), .lf (.int .i64), .lf (.sl 1), .lf (.sl 8), .lf (.sl 0), .lf (.sl 9)], [], [(1000, .box [.h 0 [0], .h 1 []]), (2200, .sl 1 4 2 [0]), (2201, .sl 8 67 3 [0]), (2202, .sl 0 3 4 [0]), (2256, .box [.own 2200, .own 2201, .own 2202, .own 2768]), (2768, .sl 9 69 5 [0])], [1000, 2200, 2201, 2202, 2203, 2256], 2832⟩)])) (.n none .o (.n (some (true, [(.normal, ⟨[.lf (.sl 0), .lf (.int .i64), .lf (.sl 8)], [], [(1000, .box [.h 0 [0], .h 1 []]), (2201, .sl 8 67 2 [0])], [1000, 2201], 3088⟩)])) .o .o)) (.n none .o (.n (some (true, [(.normal, ⟨[.lf (.sl 0), .lf (.int .i64), .lf (.sl 1), .lf (.sl 8), .lf (.sl 0), .lf (.sl 9)], [], [(1000, .box [.h 0 [0], .h 1 []]), (2200, .sl 1 4 2 [0]), (2201, .sl 8 67 3 [0]), (2202, .sl 0 3 4 [0]), (2256, .box [.own 2200, .own 2201, .own 2202, .own 2896]), (2896, .sl 9 69 5 [0])], [1000, 2200, 2201, 2202, 2203, 2256], 2960⟩)])) (.n none .o (.n (some (true, [(.normal, ⟨[.lf (.sl 0), .lf (.int .i64), .lf (.sl 8)], [], [(1000, .box [.h 0 [0], .h 1 []]), (2201, .sl 8 67 2 [0])], [1000, 2201], 3216⟩)])) .o .o)) (.n none .o (.n (some (true, [(.normal, ⟨[.lf (.sl 0), .lf (.int .i64), .lf (.sl 1), .lf (.sl 0), .lf (.sl 9)], [], [(1000, .box [.h 0 [0], .h 1 []]), (2200, .sl 1 4 2 [0]), (2202, .sl 0 3 3 [0]), (2256, .box [.own 2200, .own 2201, .own 2202, .own 3024]), (3024, .sl 9 69 4 [0])], [1000, 2200, 2202, 2203, 2256], 3088⟩)])) (.n none .o (.n (some (true, [(.normal, ⟨[.lf (.sl 0), .lf (.int .i64), .lf (.sl 0)], [], [(1000, .box [.h 0 [0], .h 1 []]), (2202, .sl 0 3 2 [0])], [1000, 2202], 3344⟩)])) .o .o)) (.n none .o (.n (some (true, [(.normal, ⟨[.lf (.sl 0), .lf (.int .i64), .lf (.sl 1), .lf (.sl 9)], [], [(1000, .box [.h 0 [0], .h 1 []]), (2200, .sl 1 4 2 [0]), (2256, .box [.own 2200, .own 2201, .own 2202, .own 3152]), (3152, .sl 9 69 3 [0])], [1000, 2200, 2203, 2256], 3216⟩)])) .o (.n none .o (.n none (.loop ⟨[.lf (.int .i64), .lf (.sl 1)], [(14, .one (.h 0 []))], [(2200, .sl 1 4 1 [0])], [2200], 3472⟩ true [(.exit 1, ⟨[.lf (.sl 1)], [], [(2200, .sl 1 4 0 [0])], [2200], 3472⟩)] .o) .o)))))))))))) .o)) .o)))) pOk repOk (AllC.mem (⟨c10_ok, c11_ok, c26_ok, c35_1_ok, trivial⟩ : AllC _ _ [c10, c11, c26, c35_1])) hmix Try.call17 Try.func17 rfl rfl (by kernel_rfl) (fun h => by kernel_rfl)

noncomputable def dynposlaw17_BalanceExact_L2 (a4 : List
  Int) (a5 : List
  Int) (x6 : List Int ×
  Int ×
    List
      Int) (x10 : Int) (x13 : List
  Int) : Int →
  Option
    (Int ⊕
      Unit ⊕
        Int × List Int × Int ⊕
          List Int × Int ⊕
            Bool) := fun x14 =>
  if decide (x14 < 3) = true then
    Option.bind (idx [x6.2.2, a4, x13] x14) fun x15 =>
      Option.bind (balance_Split x10 x15) fun x16 =>
        Option.bind (dynposref17_Split x10 x15) fun x17 =>
          Option.bind
            (Option.bind (dynposref01_Ints x16.2 x17.2) fun x18 =>
              if (!x18) = true then some true
              else
                if (x16.1 != x17.1) = true then some true
                else
                  Option.bind (balance_Check x10 x15 x17.2) fun x19 =>
                    Option.bind (dynposref17_Check x10 x15 x17.2) fun x20 =>
                      if (!x19 == x20) = true then some true
                      else
                        Option.bind (balance_Check x10 x15 a5) fun x21 =>
                          Option.bind (dynposref17_Check x10 x15 a5) fun x22 => some !x21 == x22)
            fun x23 =>
            if x23 = true then some (.inr (.inr (.inr (.inr false))))
            else some (.inl (W (x14 + 1)))
  else some (.inr (.inl ()))
noncomputable def dynposlaw17_BalanceExact_L1 (a3 : Int) (a4 : List
  Int) (a5 : List
  Int) (x6 : List Int ×
  Int ×
    List
      Int) (x7 : Int ×
  List Int ×
    Int) (x8 : Int ×
  List Int ×
    Int) : Int × List Int × Int →
  Option
    (Int × List Int × Int ⊕
      List Int × Int ⊕
        Bool) := fun x9 =>
  if decide (x9.1 < 3) = true then
    Option.bind (idx [a3, x7.1, x8.1] x9.1) fun x10 =>
      Option.bind (dynposlaw17_ratings (Src.mk x9.2.1 x9.2.2)) fun x11 =>
        Option.bind (Src_Odd (Src.mk x11.1 x11.2.1)) fun x12 =>
          Option.bind (app x11.2.2 [x12.1]) fun x13 =>
            Option.bind (loopO (dynposlaw17_BalanceExact_L2 a4 a5 x6 x10 x13) 0) fun x24 =>
              Sum.elim (fun x25 => some (.inl (W (x9.1 + 1), x12.2.1, x12.2.2)))
                (fun x26 => some x26) x24
  else some (.inr (.inl (x9.2.1, x9.2.2)))
noncomputable def dynposlaw17_BalanceExact_L5 (a3 : Int) (x30 : Board) (x33 : Power) (x38 : Int ×
  List Int ×
    Int) : Int →
  Option
    (Int ⊕
      Unit ⊕
        Int × List Int × Int ⊕
          List Int × Int ⊕
            Int × List Int × Int ⊕
              List Int × Int ⊕
                Bool) := fun x39 =>
  if decide (x39 < 3) = true then
    Option.bind (idx [a3, x38.1, 0] x39) fun x40 =>
      Option.bind
        (Option.bind (balance_Load x30 x33 x40) fun x41 =>
          Option.bind (dynposref17_Load x30 x33 x40) fun x42 =>
            if (x41 != x42) = true then some true
            else
              Option.bind (balance_Rating x30 x33 x40) fun x43 =>
                Option.bind (dynposref17_Rating x30 x33 x40) fun x44 =>
                  if (x43 != x44) = true then some true
                  else
                    Option.bind (balance_Overloaded x30 x33 x40) fun x45 =>
                      Option.bind (dynposref17_Overloaded x30 x33 x40) fun x46 => some !x45 == x46)
        fun x47 =>
        if x47 = true then some (.inr (.inr (.inr (.inr (.inr (.inr false))))))
        else some (.inl (W (x39 + 1)))
  else some (.inr (.inl ()))
noncomputable def dynposlaw17_BalanceExact_L4 (a2 : Power) (a3 : Int) (x5 : List Int ×
  Int ×
    List Breaker ×
      List Source ×
        List Consumer ×
          List Bool ×
            List Running ×
              List Int ×
                List
                  Part) (x30 : Board) (x31 : List Int ×
  Int ×
    List Bool ×
      List Running ×
        List Int ×
          List
            Part) : Int × List Int × Int →
  Option
    (Int × List Int × Int ⊕
      List Int × Int ⊕
        Int × List Int × Int ⊕
          List Int × Int ⊕
            Bool) := fun x32 =>
  if decide (x32.1 < 3) = true then
    Option.bind
      (idx
        [Power.mk x5.2.2.2.2.2.1 x5.2.2.2.2.2.2.1 x5.2.2.2.2.2.2.2.1
            x5.2.2.2.2.2.2.2.2,
          Power.mk x31.2.2.1 x31.2.2.2.1 x31.2.2.2.2.1 x31.2.2.2.2.2, a2]
        x32.1)
      fun x33 =>
      Option.bind (balance_Of x30 x33) fun x34 =>
        Option.bind (dynposref17_Of x30 x33) fun x35 =>
          Option.bind
            (Option.bind (dynposref01_Ints x34.2 x35.2) fun x36 =>
              if (!x36) = true then some true else some (x34.1 != x35.1))
            fun x37 =>
            if x37 = true then some (.inr (.inr (.inr (.inr false))))
            else
              Option.bind (Src_N (Src.mk x32.2.1 x32.2.2) 5) fun x38 =>
                Option.bind (loopO (dynposlaw17_BalanceExact_L5 a3 x30 x33 x38) 0) fun x48 =>
                  Sum.elim (fun x49 => some (.inl (W (x32.1 + 1), x38.2.1, x38.2.2)))
                    (fun x50 => some x50) x48
  else some (.inr (.inl (x32.2.1, x32.2.2)))
noncomputable def dynposlaw17_BalanceExact_L3 (a1 : Board) (a2 : Power) (a3 : Int) (x4 : Int ×
  Int ×
    Int ×
      List Int ×
        Int ×
          List Breaker ×
            List Source ×
              List
                Consumer) (x5 : List Int ×
  Int ×
    List Breaker ×
      List Source ×
        List Consumer ×
          List Bool ×
            List Running ×
              List Int ×
                List
                  Part) : Int × List Int × Int →
  Option
    (Int × List Int × Int ⊕
      List Int × Int ⊕
        Bool) := fun x29 =>
  if decide (x29.1 < 2) = true then
    Option.bind
      (idx [Board.mk x4.1 x5.2.2.1 x5.2.2.2.1 x5.2.2.2.2.1 x4.2.1 x4.2.2.1, a1]
        x29.1)
      fun x30 =>
      Option.bind
        (Src_BentPower (Src.mk x29.2.1 x29.2.2)
          (Power.mk x5.2.2.2.2.2.1 x5.2.2.2.2.2.2.1 x5.2.2.2.2.2.2.2.1
            x5.2.2.2.2.2.2.2.2))
        fun x31 =>
        Option.bind (loopO (dynposlaw17_BalanceExact_L4 a2 a3 x5 x30 x31) (0, x31.1, x31.2.1))
          fun x51 =>
          Sum.elim (fun x52 => some (.inl (W (x29.1 + 1), x52.1, x52.2))) (fun x53 => some x53) x51
  else some (.inr (.inl (x29.2.1, x29.2.2)))
noncomputable def dynposlaw17_BalanceExact (a0 : (List Int)) (a1 : Board) (a2 : Power) (a3 : Int) (a4 : (List Int)) (a5 : (List Int)) : Option (Bool) :=
  Option.bind
    (Option.bind (dynposmake_Small a1 a2) fun x1 =>
      if (!x1) = true then some true
      else if decide (len a4 > 10) = true then some true else some (decide (len a5 > 10)))
    fun x2 =>
    if x2 = true then Option.bind dynposlaw17_sane fun x59 => some x59
    else
      Option.bind (dynposmake_New a0) fun x3 =>
        Option.bind (Src_Board (Src.mk x3.1 x3.2)) fun x4 =>
          Option.bind
            (Src_Power (Src.mk x4.2.2.2.1 x4.2.2.2.2.1)
              (Board.mk x4.1 x4.2.2.2.2.2.1 x4.2.2.2.2.2.2.1 x4.2.2.2.2.2.2.2
                x4.2.1 x4.2.2.1))
            fun x5 =>
            Option.bind (dynposlaw17_ratings (Src.mk x5.1 x5.2.1)) fun x6 =>
              Option.bind (Src_N (Src.mk x6.1 x6.2.1) 400) fun x7 =>
                Option.bind (Src_Odd (Src.mk x7.2.1 x7.2.2)) fun x8 =>
                  Option.bind
                    (loopO (dynposlaw17_BalanceExact_L1 a3 a4 a5 x6 x7 x8) (0, x8.2.1, x8.2.2))
                    fun x27 =>
                    Sum.elim
                      (fun x28 =>
                        Option.bind (loopO (dynposlaw17_BalanceExact_L3 a1 a2 a3 x4 x5) (0, x28.1, x28.2))
                          fun x54 =>
                          Sum.elim (fun x55 => Option.bind dynposlaw17_sane fun x56 => some x56) (fun x57 => some x57)
                            x54)
                      (fun x58 => some x58) x27
noncomputable def c3 : Con D := ⟨3, [.lf (.sl 0), .lf (.int .i64), .lf (.sl 4), .lf (.sl 5), .lf (.sl 6), .lf (.int .i64), .lf (.int .i64), .lf (.sl 1), .lf (.sl 8), .lf (.sl 0), .lf (.sl 9), .lf (.int .i64), .lf (.sl 0), .lf (.sl 0)], [.lf .bool], [.one (.h 0 [0]), .agg [.h 1 [], .h 2 [0], .h 3 [0], .h 4 [0], .h 5 [], .h 6 []], .agg [.h 7 [0], .h 8 [0], .h 9 [0], .h 10 [0]], .one (.h 11 []), .one (.h 12 [0]), .one (.h 13 [0])], [], [.one (.h 0 [])], [], fun h => dynposlaw17_BalanceExact h.1 ⟨h.2.1, h.2.2.1, h.2.2.2.1, h.2.2.2.2.1, h.2.2.2.2.2.1, h.2.2.2.2.2.2.1⟩ ⟨h.2.2.2.2.2.2.2.1, h.2.2.2.2.2.2.2.2.1, h.2.2.2.2.2.2.2.2.2.1, h.2.2.2.2.2.2.2.2.2.2.1⟩ h.2.2.2.2.2.2.2.2.2.2.2.1 h.2.2.2.2.2.2.2.2.2.2.2.2.1 h.2.2.2.2.2.2.2.2.2.2.2.2.2⟩
theorem c3_ok : ConOk Try.prog T c3 := fn_ok (Φ := [c4, c5, c6, c7, c8, c9, c10, c11, c12, c13, c14, c15, c16, c17_1, c18, c19, c20, c21, c22, c23, c24, c25]) (rs := [.tmp 12]) (an := (.n none .o (.n none (.n none (.r (some (true, [(.normal, ⟨[.lf .bool], [(48, .one (.h 0 []))], [], [], 2256⟩)])) .nil) .o) (.n none .o (.n none .o (.n none .o (.n none .o (.n none (.n none .o (.n none (.f [3097] (.loop ⟨[.lf (.int .i64), .lf (.sl 0), .lf (.int .i64)], [(65, .one (.h 0 []))], [(2329, .box [.h 1 [0, 1], .h 2 []])], [2329], 3729⟩ false [(.exit 0, ⟨[.lf (.sl 0), .lf (.int .i64)], [], [(2329, .box [.h 0 [0, 1], .h 1 []])], [2329], 3729⟩)] (.n none .o (.n none .o (.n none (.n none (.n none .o (.n none .o (.n none (.loop ⟨[.lf (.int .i64)], [(77, .one (.h 0 []))], [], [], 4628⟩ false [(.exit 2, ⟨[], [], [], [], 4628⟩)] (.n none .o (.n none .o (.n none (.n none (.n none .o (.n none .o (.n none .o (.n none (.r (some (true, [(.normal, ⟨[.lf .bool], [(97, .one (.any)), (98, .one (.any)), (99, .one (.any)), (102, .one (.any)), (103, .one (.any)), (104, .one (.any)), (105, .one (.any)), (106, .one (.any)), (107, .one (.any)), (108, .one (.any)), (109, .one (.any)), (110, .one (.any)), (113, .one (.any)), (114, .one (.any)), (115, .one (.any)), (116, .one (.any)), (117, .one (.any)), (118, .one (.any)), (119, .one (.any)), (120, .one (.any)), (121, .one (.any)), (122, .one (.h 0 []))], [], [], 5909⟩)])) .nil) .o)))) .o) .o)))) .o))) .o) .o))))) .o)) (.n none (.n none .o (.n none (.f [2841, 2842, 2843, 2844] (.loop ⟨[.lf (.int .i64), .lf (.sl 0), .lf (.int .i64)], [(128, .one (.h 0 []))], [(2329, .box [.h 1 [0, 1], .h 2 []])], [2329], 4051⟩ false [(.exit 4, ⟨[.lf (.sl 0), .lf (.int .i64)], [], [(2329, .box [.h 0 [0, 1], .h 1 []])], [2329], 4051⟩)] (.n none .o (.n none .o (.n none (.n none (.n none .o (.n none .o (.n none (.loop ⟨[.lf (.int .i64), .lf (.sl 0), .lf (.int .i64)], [(137, .one (.h 0 []))], [(2329, .box [.h 1 [0, 1], .h 2 []])], [2329], 4822⟩ false [(.exit 6, ⟨[.lf (.sl 0), .lf (.int .i64)], [], [(2329, .box [.h 0 [0, 1], .h 1 []])], [2329], 4822⟩)] (.n none .o (.n none .o (.n none (.n none (.n none .o (.n none .o (.n none .o (.n none (.n none (.r (some (true, [(.normal, ⟨[.lf .bool], [(157, .one (.any)), (158, .one (.any)), (159, .one (.any)), (160, .one (.h 0 []))], [], [], 6169⟩)])) .nil) .o) (.n none .o (.n none (.loop ⟨[.lf (.int .i64)], [(165, .one (.h 0 []))], [], [], 6554⟩ false [(.exit 8, ⟨[], [], [], [], 6554⟩)] (.n none .o (.n none .o (.n none (.n none (.n none .o (.n none (.r (some (true, [(.normal, ⟨[.lf .bool], [(178, .one (.any)), (179, .one (.any)), (180, .one (.any)), (181, .one (.any)), (182, .one (.any)), (183, .one (.any)), (184, .one (.any)), (185, .one (.any)), (186, .one (.any)), (189, .one (.any)), (190, .one (.any)), (191, .one (.any)), (192, .one (.any)), (193, .one (.any)), (194, .one (.any)), (195, .one (.any)), (196, .one (.any)), (197, .one (.any)), (198, .one (.h 0 []))], [], [], 6811⟩)])) .nil) .o)) .o) .o)))) .o)))))) .o) .o)))) .o))) .o) .o))))) .o)) .o))))))))) pOk repOk (AllC.mem (⟨c4_ok, c5_ok, c6_ok, c7_ok, c8_ok, c9_ok, c10_ok, c11_ok, c12_ok, c13_ok, c14_ok, c15_ok, c16_ok, c17_1_ok, c18_ok, c19_ok, c20_ok, c21_ok, c22_ok, c23_ok, c24_ok, c25_ok, trivial⟩ : AllC _ _ [c4, c5, c6, c7, c8, c9, c10, c11, c12, c13, c14, c15, c16, c17_1, c18, c19, c20, c21, c22, c23, c24, c25])) hmix Try.call3 Try.func3 rfl rfl (by kernel_rfl) (fun h => by kernel_rfl)

end Rx
end Go.Proofs.Ytjkdckacgdkbbaa
