/- Plain functions, walks. Written by a program (wip/gen). -/
import Derived.Test.YtkohjagmjnpdnaaGreatRt
import Derived.Test.YtkohjagmjnpdnaaGreatRg1
import Derived.Test.YtkohjagmjnpdnaaGreatRg2
import Derived.Test.YtkohjagmjnpdnaaGreatRg3
import Derived.Test.YtkohjagmjnpdnaaGreatRg4
set_option linter.unusedVariables false
set_option maxRecDepth 100000
namespace Go.Proofs.YtkohjagmjnpdnaaGreat
open Go Go.RowKit Dp
namespace Rx

noncomputable def Src_BentPower_L1 (x1 : List Bool ×
  List Running ×
    List Int ×
      List
        Part) : Int × List Bool →
  Option
    (Int × List Bool ⊕
      List
        Bool) := fun x3 =>
  if decide (x3.1 < len x1.1) = true then
    Option.bind (idx x3.2 x3.1) fun x4 =>
      Option.bind (idx x3.2 x3.1) fun x5 =>
        Option.bind (setO x3.2 x3.1 true) fun x6 => some (.inl (W (x3.1 + 1), x6))
  else some (.inr x3.2)
noncomputable def Src_BentPower (a0 : Src) (a1 : Power) : Option ((List Int) × Int × (List Bool) × (List Running) × (List Int) × (List Part)) :=
  Option.bind (dynposref15_Copy a1) fun x1 =>
    Option.bind (Src_N a0 6) fun x2 =>
      Option.bind
        (if (x2.1 == 0) = true then
          Option.bind (app x1.1 [true]) fun x33 =>
            some (x2.2.1, x2.2.2, x1.2.1, x1.2.2.1, x33, x1.2.2.2)
        else
          Option.bind
            (if (x2.1 == 1) = true then
              Option.bind
                (if decide (len x1.2.1 > 0) = true then
                  Option.bind (Src_N (Src.mk x2.2.1 x2.2.2) (len x1.2.1)) fun x26 =>
                    Option.bind (Src_Range (Src.mk x26.2.1 x26.2.2) (-1) 5) fun x27 =>
                      Option.bind (idx x1.2.1 x26.1) fun x28 =>
                        Option.bind (idx x1.2.1 x26.1) fun x29 =>
                          Option.bind (setO x1.2.1 x26.1 (Running.mk x27.1 x29.Since x29.Frequency x29.Phase))
                            fun x30 => some (x27.2.1, x27.2.2, x30)
                else some (x2.2.1, x2.2.2, x1.2.1))
                fun x31 => some (x31.1, x31.2.1, x1.1, x31.2.2, x1.2.2.1, x1.2.2.2)
            else
              Option.bind
                (if (x2.1 == 2) = true then
                  Option.bind
                    (if decide (len x1.2.1 > 0) = true then
                      Option.bind (Src_N (Src.mk x2.2.1 x2.2.2) (len x1.2.1)) fun x19 =>
                        Option.bind (Src_Odd (Src.mk x19.2.1 x19.2.2)) fun x20 =>
                          Option.bind (idx x1.2.1 x19.1) fun x21 =>
                            Option.bind (idx x1.2.1 x19.1) fun x22 =>
                              Option.bind
                                (setO x1.2.1 x19.1 (Running.mk x22.State x22.Since x22.Frequency x20.1))
                                fun x23 => some (x20.2.1, x20.2.2, x23)
                    else some (x2.2.1, x2.2.2, x1.2.1))
                    fun x24 => some (x24.1, x24.2.1, x1.1, x24.2.2, x1.2.2.1, x1.2.2.2)
                else
                  Option.bind
                    (if (x2.1 == 3) = true then
                      Option.bind
                        (if decide (len x1.2.2.1 > 0) = true then
                          Option.bind (Src_N (Src.mk x2.2.1 x2.2.2) (len x1.2.2.1)) fun x12 =>
                            Option.bind (Src_Odd (Src.mk x12.2.1 x12.2.2)) fun x13 =>
                              Option.bind (idx x1.2.2.1 x12.1) fun x14 =>
                                Option.bind (idx x1.2.2.1 x12.1) fun x15 =>
                                  Option.bind (setO x1.2.2.1 x12.1 x13.1) fun x16 =>
                                    some (x13.2.1, x13.2.2, x16)
                        else some (x2.2.1, x2.2.2, x1.2.2.1))
                        fun x17 => some (x17.1, x17.2.1, x1.1, x17.2.2, x1.2.2.2)
                    else
                      Option.bind
                        (if (x2.1 == 4) = true then
                          Option.bind (Src_Range (Src.mk x2.2.1 x2.2.2) 0 5) fun x8 =>
                            Option.bind (Src_Range (Src.mk x8.2.1 x8.2.2) (-1) 5)
                              fun x9 =>
                              Option.bind (app x1.2.2.2 [Part.mk x8.1 x9.1]) fun x10 =>
                                some (x9.2.1, x9.2.2, x1.1, x10)
                        else
                          Option.bind (loopO (Src_BentPower_L1 x1) (0, x1.1)) fun x7 =>
                            some (x2.2.1, x2.2.2, x7, x1.2.2.2))
                        fun x11 => some (x11.1, x11.2.1, x11.2.2.1, x1.2.2.1, x11.2.2.2))
                    fun x18 =>
                    some (x18.1, x18.2.1, x18.2.2.1, x1.2.1, x18.2.2.2.1, x18.2.2.2.2))
                fun x25 =>
                some
                  (x25.1, x25.2.1, x25.2.2.1, x25.2.2.2.1, x25.2.2.2.2.1,
                    x25.2.2.2.2.2))
            fun x32 =>
            some
              (x32.1, x32.2.1, x32.2.2.2.1, x32.2.2.2.2.1, x32.2.2.1,
                x32.2.2.2.2.2))
        fun x34 =>
        some
          (x34.1, x34.2.1, x34.2.2.2.2.1, x34.2.2.1, x34.2.2.2.1, x34.2.2.2.2.2)
noncomputable def c12 : Con D := ⟨12, [.lf (.sl 0), .lf (.int .i64), .lf (.sl 1), .lf (.sl 8), .lf (.sl 0), .lf (.sl 9)], [.lf (.sl 0), .lf (.int .i64), .lf (.sl 1), .lf (.sl 8), .lf (.sl 0), .lf (.sl 9)], [.one (.ptr 1000 0), .agg [.h 2 [0], .h 3 [0], .h 4 [0], .h 5 [0]]], [(1000, .box [.h 0 [0], .h 1 []])], [.agg [.own 1001, .own 1002, .own 1003, .own 1004]], [(1000, .box [.h 0 [0], .h 1 []]), (1001, .sl 1 4 2 [0]), (1002, .sl 8 34 3 [0]), (1003, .sl 0 3 4 [0]), (1004, .sl 9 70 5 [0])], fun h => Src_BentPower ⟨h.1, h.2.1⟩ ⟨h.2.2.1, h.2.2.2.1, h.2.2.2.2.1, h.2.2.2.2.2⟩⟩
theorem c12_ok : ConOk Tryz.prog T c12 := fn_ok (Φ := [c13, c37, c38, c39]) (rs := [.cell 4 32]) (an := (.n none .o (.n none .o (.n none (.n none .o (.n none (.n none .o (.n (some (true, [(.normal, ⟨[.lf (.sl 0), .lf (.int .i64), .lf (.sl 8), .lf (.sl 0), .lf (.sl 1), .lf (.sl 9)], [], [(1000, .box [.h 0 [0], .h 1 []]), (2201, .sl 8 34 2 [0]), (2202, .sl 0 3 3 [0]), (2256, .box [.own 2640, .own 2201, .own 2202, .own 2641]), (2640, .sl 1 4 4 [0]), (2641, .sl 9 70 5 [0])], [1000, 2200, 2201, 2202, 2203, 2256], 2704⟩)])) .o (.n none .o (.n (some (true, [(.normal, ⟨[.lf (.sl 0), .lf (.int .i64), .lf (.sl 1), .lf (.sl 8), .lf (.sl 0), .lf (.sl 9)], [], [(1000, .box [.h 0 [0], .h 1 []]), (2200, .sl 1 4 2 [0]), (2201, .sl 8 34 3 [0]), (2202, .sl 0 3 4 [0]), (2256, .box [.own 2200, .own 2201, .own 2202, .own 2768]), (2768, .sl 9 70 5 [0])], [1000, 2200, 2201, 2202, 2203, 2256], 2832⟩)])) (.n none .o (.n (some (true, [(.normal, ⟨[.lf (.sl 0), .lf (.int .i64), .lf (.sl 8)], [], [(1000, .box [.h 0 [0], .h 1 []]), (2201, .sl 8 34 2 [0])], [1000, 2201], 3088⟩)])) .o .o)) (.n none .o (.n (some (true, [(.normal, ⟨[.lf (.sl 0), .lf (.int .i64), .lf (.sl 1), .lf (.sl 8), .lf (.sl 0), .lf (.sl 9)], [], [(1000, .box [.h 0 [0], .h 1 []]), (2200, .sl 1 4 2 [0]), (2201, .sl 8 34 3 [0]), (2202, .sl 0 3 4 [0]), (2256, .box [.own 2200, .own 2201, .own 2202, .own 2896]), (2896, .sl 9 70 5 [0])], [1000, 2200, 2201, 2202, 2203, 2256], 2960⟩)])) (.n none .o (.n (some (true, [(.normal, ⟨[.lf (.sl 0), .lf (.int .i64), .lf (.sl 8)], [], [(1000, .box [.h 0 [0], .h 1 []]), (2201, .sl 8 34 2 [0])], [1000, 2201], 3216⟩)])) .o .o)) (.n none .o (.n (some (true, [(.normal, ⟨[.lf (.sl 0), .lf (.int .i64), .lf (.sl 1), .lf (.sl 0), .lf (.sl 9)], [], [(1000, .box [.h 0 [0], .h 1 []]), (2200, .sl 1 4 2 [0]), (2202, .sl 0 3 3 [0]), (2256, .box [.own 2200, .own 2201, .own 2202, .own 3024]), (3024, .sl 9 70 4 [0])], [1000, 2200, 2202, 2203, 2256], 3088⟩)])) (.n none .o (.n (some (true, [(.normal, ⟨[.lf (.sl 0), .lf (.int .i64), .lf (.sl 0)], [], [(1000, .box [.h 0 [0], .h 1 []]), (2202, .sl 0 3 2 [0])], [1000, 2202], 3344⟩)])) .o .o)) (.n none .o (.n (some (true, [(.normal, ⟨[.lf (.sl 0), .lf (.int .i64), .lf (.sl 1), .lf (.sl 9)], [], [(1000, .box [.h 0 [0], .h 1 []]), (2200, .sl 1 4 2 [0]), (2256, .box [.own 2200, .own 2201, .own 2202, .own 3152]), (3152, .sl 9 70 3 [0])], [1000, 2200, 2203, 2256], 3216⟩)])) .o (.n none .o (.n none (.loop ⟨[.lf (.int .i64), .lf (.sl 1)], [(14, .one (.h 0 []))], [(2200, .sl 1 4 1 [0])], [2200], 3472⟩ true [(.exit 1, ⟨[.lf (.sl 1)], [], [(2200, .sl 1 4 0 [0])], [2200], 3472⟩)] .o) .o)))))))))))) .o)) .o)))) pOk repOk (AllC.mem (⟨c13_ok, c37_ok, c38_ok, c39_ok, trivial⟩ : AllC _ _ [c13, c37, c38, c39])) hmix Tryz.call12 Tryz.func12 rfl rfl (by kernel_rfl) (fun h => by kernel_rfl)

noncomputable def dynposlaw16_SyncExact_L4 (a7 : Int) (x8 : Board) (x17 : Power) (x20 : Int) (x36 : Int ×
  List Int ×
    Int) : Int × List Bool × List Running × List Int × List Part × List Bool × List Running × List Int × List Part →
  Option
    (Int × List Bool × List Running × List Int × List Part × List Bool × List Running × List Int × List Part ⊕
      List Bool × List Running × List Int × List Part × List Bool × List Running × List Int × List Part ⊕
        Int × List Int × Int ⊕
          List Int × Int ⊕
            Int × List Int × Int ⊕
              List Int × Int ⊕
                Int × List Int × Int ⊕
                  List Int × Int ⊕
                    Bool) := fun x37 =>
  if decide (x37.1 < 2) = true then
    Option.bind (idx [a7, x36.1] x37.1) fun x38 =>
      Option.bind (sync_Match x8 x17 x20 x38) fun x39 =>
        Option.bind (dynposref16_Match x8 x17 x20 x38) fun x40 =>
          Option.bind
            (Option.bind
              (dynposref15_Same (Power.mk x39.2.1 x39.2.2.1 x39.2.2.2.1 x39.2.2.2.2)
                (Power.mk x40.2.1 x40.2.2.1 x40.2.2.2.1 x40.2.2.2.2))
              fun x41 => if (!x41) = true then some true else some (x39.1 != x40.1))
            fun x42 =>
            if x42 = true then
              some (.inr (.inr (.inr (.inr (.inr (.inr (.inr (.inr false))))))))
            else
              some
                (.inl
                  (W (x37.1 + 1), x39.2.1, x39.2.2.1, x39.2.2.2.1, x39.2.2.2.2,
                    x40.2.1, x40.2.2.1, x40.2.2.2.1, x40.2.2.2.2))
  else
    some
      (.inr
        (.inl
          (x37.2.1, x37.2.2.1, x37.2.2.2.1, x37.2.2.2.2.1, x37.2.2.2.2.2.1,
            x37.2.2.2.2.2.2.1, x37.2.2.2.2.2.2.2.1, x37.2.2.2.2.2.2.2.2)))
noncomputable def dynposlaw16_SyncExact_L3 (a6 : Int) (a7 : Int) (x8 : Board) (x17 : Power) (x18 : Int ×
  List Int ×
    Int) : Int × List Int × Int →
  Option
    (Int × List Int × Int ⊕
      List Int × Int ⊕
        Int × List Int × Int ⊕
          List Int × Int ⊕
            Int × List Int × Int ⊕
              List Int × Int ⊕
                Bool) := fun x19 =>
  if decide (x19.1 < 3) = true then
    Option.bind (idx [a6, x18.1, 0] x19.1) fun x20 =>
      Option.bind (sync_Leader x8 x17 x20) fun x21 =>
        Option.bind (dynposref16_Leader x8 x17 x20) fun x22 =>
          Option.bind
            (if (x21.1 != x22.1) = true then some true
            else
              if (!x21.2 == x22.2) = true then some true
              else
                Option.bind (sync_May x8 x17 x20) fun x23 =>
                  Option.bind (dynposref16_May x8 x17 x20) fun x24 => some (x23 != x24))
            fun x25 =>
            if x25 = true then some (.inr (.inr (.inr (.inr (.inr (.inr false))))))
            else
              Option.bind (sync_Close x8 x17 x20) fun x26 =>
                Option.bind (dynposref16_Close x8 x17 x20) fun x27 =>
                  Option.bind
                    (Option.bind
                      (dynposref15_Same (Power.mk x26.2.1 x26.2.2.1 x26.2.2.2.1 x26.2.2.2.2)
                        (Power.mk x27.2.1 x27.2.2.1 x27.2.2.2.1 x27.2.2.2.2))
                      fun x28 =>
                      if (!x28) = true then some true
                      else
                        if (x26.1 != x27.1) = true then some true
                        else
                          Option.bind
                            (sync_Bad x8 x17
                              (Power.mk x27.2.1 x27.2.2.1 x27.2.2.2.1 x27.2.2.2.2))
                            fun x29 =>
                            Option.bind
                              (dynposref16_Bad x8 x17
                                (Power.mk x27.2.1 x27.2.2.1 x27.2.2.2.1 x27.2.2.2.2))
                              fun x30 => some !x29 == x30)
                    fun x31 =>
                    if x31 = true then some (.inr (.inr (.inr (.inr (.inr (.inr false))))))
                    else
                      Option.bind (sync_Open x8 x17 x20) fun x32 =>
                        Option.bind (dynposref16_Open x8 x17 x20) fun x33 =>
                          Option.bind
                            (Option.bind
                              (dynposref15_Same
                                (Power.mk x32.2.1 x32.2.2.1 x32.2.2.2.1 x32.2.2.2.2)
                                (Power.mk x33.2.1 x33.2.2.1 x33.2.2.2.1 x33.2.2.2.2))
                              fun x34 => if (!x34) = true then some true else some (x32.1 != x33.1))
                            fun x35 =>
                            if x35 = true then some (.inr (.inr (.inr (.inr (.inr (.inr false))))))
                            else
                              Option.bind (Src_N (Src.mk x19.2.1 x19.2.2) 5) fun x36 =>
                                Option.bind
                                  (loopO (dynposlaw16_SyncExact_L4 a7 x8 x17 x20 x36)
                                    (0, x32.2.1, x32.2.2.1, x32.2.2.2.1,
                                      x32.2.2.2.2, x33.2.1, x33.2.2.1, x33.2.2.2.1,
                                      x33.2.2.2.2))
                                  fun x43 =>
                                  Sum.elim
                                    (fun x44 => some (.inl (W (x19.1 + 1), x36.2.1, x36.2.2)))
                                    (fun x45 => some x45) x43
  else some (.inr (.inl (x19.2.1, x19.2.2)))
noncomputable def dynposlaw16_SyncExact_L2 (a2 : Power) (a3 : Power) (a6 : Int) (a7 : Int) (x5 : Int ×
  Int ×
    Int ×
      List Int ×
        Int ×
          List Breaker ×
            List Source ×
              List Consumer ×
                List Bool ×
                  List Running ×
                    List Int ×
                      List
                        Part) (x6 : List Int ×
  Int ×
    List Breaker ×
      List Source ×
        List Consumer ×
          List Bool ×
            List Running ×
              List Int ×
                List
                  Part) (x8 : Board) (x14 : List Int ×
  Int ×
    List Bool ×
      List Running ×
        List Int ×
          List
            Part) (x15 : List Int ×
  Int ×
    List Bool ×
      List Running ×
        List Int ×
          List
            Part) : Int × List Int × Int →
  Option
    (Int × List Int × Int ⊕
      List Int × Int ⊕
        Int × List Int × Int ⊕
          List Int × Int ⊕
            Bool) := fun x16 =>
  if decide (x16.1 < 4) = true then
    Option.bind
      (idx
        [Power.mk x5.2.2.2.2.2.2.2.2.1 x5.2.2.2.2.2.2.2.2.2.1
            x5.2.2.2.2.2.2.2.2.2.2.1 x5.2.2.2.2.2.2.2.2.2.2.2,
          Power.mk x14.2.2.1 x14.2.2.2.1 x14.2.2.2.2.1 x14.2.2.2.2.2,
          Power.mk x15.2.2.1 x15.2.2.2.1 x15.2.2.2.2.1 x15.2.2.2.2.2, a2]
        x16.1)
      fun x17 =>
      Option.bind (Src_N (Src.mk x16.2.1 x16.2.2) 12) fun x18 =>
        Option.bind (loopO (dynposlaw16_SyncExact_L3 a6 a7 x8 x17 x18) (0, x18.2.1, x18.2.2))
          fun x46 =>
          Sum.elim
            (fun x47 =>
              Option.bind (sync_Follow x8 x17) fun x48 =>
                Option.bind (dynposref16_FollowB x8 x17) fun x49 =>
                  Option.bind
                    (Option.bind
                      (dynposref15_Same (Power.mk x48.2.1 x48.2.2.1 x48.2.2.2.1 x48.2.2.2.2)
                        (Power.mk x49.2.1 x49.2.2.1 x49.2.2.2.1 x49.2.2.2.2))
                      fun x50 => if (!x50) = true then some true else some (x48.1 != x49.1))
                    fun x51 =>
                    if x51 = true then some (.inr (.inr (.inr (.inr false))))
                    else
                      Option.bind (sync_Turn x8 x17) fun x52 =>
                        Option.bind (dynposref16_Turn x8 x17) fun x53 =>
                          Option.bind
                            (Option.bind
                              (dynposref15_Same
                                (Power.mk x52.2.1 x52.2.2.1 x52.2.2.2.1 x52.2.2.2.2)
                                (Power.mk x53.2.1 x53.2.2.1 x53.2.2.2.1 x53.2.2.2.2))
                              fun x54 =>
                              if (!x54) = true then some true
                              else
                                if (x52.1 != x53.1) = true then some true
                                else
                                  Option.bind
                                    (sync_Bad x8 x17
                                      (Power.mk x6.2.2.2.2.2.1 x6.2.2.2.2.2.2.1
                                        x6.2.2.2.2.2.2.2.1 x6.2.2.2.2.2.2.2.2))
                                    fun x55 =>
                                    Option.bind
                                      (dynposref16_Bad x8 x17
                                        (Power.mk x6.2.2.2.2.2.1 x6.2.2.2.2.2.2.1
                                          x6.2.2.2.2.2.2.2.1 x6.2.2.2.2.2.2.2.2))
                                      fun x56 =>
                                      if (!x55 == x56) = true then some true
                                      else
                                        Option.bind (sync_Bad x8 x17 a3) fun x57 =>
                                          Option.bind (dynposref16_Bad x8 x17 a3) fun x58 => some !x57 == x58)
                            fun x59 =>
                            if x59 = true then some (.inr (.inr (.inr (.inr false))))
                            else some (.inl (W (x16.1 + 1), x47.1, x47.2)))
            (fun x60 => some x60) x46
  else some (.inr (.inl (x16.2.1, x16.2.2)))
noncomputable def dynposlaw16_SyncExact_L1 (a1 : Board) (a2 : Power) (a3 : Power) (a4 : Running) (a5 : Running) (a6 : Int) (a7 : Int) (x5 : Int ×
  Int ×
    Int ×
      List Int ×
        Int ×
          List Breaker ×
            List Source ×
              List Consumer ×
                List Bool ×
                  List Running ×
                    List Int ×
                      List
                        Part) (x6 : List Int ×
  Int ×
    List Breaker ×
      List Source ×
        List Consumer ×
          List Bool ×
            List Running ×
              List Int ×
                List
                  Part) : Int × List Int × Int →
  Option
    (Int × List Int × Int ⊕
      List Int × Int ⊕
        Bool) := fun x7 =>
  if decide (x7.1 < 2) = true then
    Option.bind
      (idx [Board.mk x5.1 x6.2.2.1 x6.2.2.2.1 x6.2.2.2.2.1 x5.2.1 x5.2.2.1, a1]
        x7.1)
      fun x8 =>
      Option.bind
        (Option.bind (sync_Agree x8 a4 a5) fun x9 =>
          Option.bind (dynposref16_Agree x8 a4 a5) fun x10 =>
            if (!x9 == x10) = true then some true
            else
              Option.bind (sync_Agree x8 a4 a4) fun x11 =>
                Option.bind (dynposref16_Agree x8 a4 a4) fun x12 => some !x11 == x12)
        fun x13 =>
        if x13 = true then some (.inr (.inr false))
        else
          Option.bind
            (Src_FollowedB (Src.mk x7.2.1 x7.2.2)
              (Board.mk x5.1 x6.2.2.1 x6.2.2.2.1 x6.2.2.2.2.1 x5.2.1 x5.2.2.1))
            fun x14 =>
            Option.bind
              (Src_BentPower (Src.mk x14.1 x14.2.1)
                (Power.mk x5.2.2.2.2.2.2.2.2.1 x5.2.2.2.2.2.2.2.2.2.1
                  x5.2.2.2.2.2.2.2.2.2.2.1 x5.2.2.2.2.2.2.2.2.2.2.2))
              fun x15 =>
              Option.bind
                (loopO (dynposlaw16_SyncExact_L2 a2 a3 a6 a7 x5 x6 x8 x14 x15) (0, x15.1, x15.2.1))
                fun x61 =>
                Sum.elim (fun x62 => some (.inl (W (x7.1 + 1), x62.1, x62.2))) (fun x63 => some x63)
                  x61
  else some (.inr (.inl (x7.2.1, x7.2.2)))
noncomputable def dynposlaw16_SyncExact (a0 : (List Int)) (a1 : Board) (a2 : Power) (a3 : Power) (a4 : Running) (a5 : Running) (a6 : Int) (a7 : Int) : Option (Bool) :=
  Option.bind
    (Option.bind (dynposmake_Small a1 a2) fun x1 =>
      if (!x1) = true then some true else Option.bind (dynposmake_Small a1 a3) fun x2 => some !x2)
    fun x3 =>
    if x3 = true then Option.bind dynposlaw16_sane fun x68 => some x68
    else
      Option.bind (dynposmake_New a0) fun x4 =>
        Option.bind (dynposlaw16_world (Src.mk x4.1 x4.2)) fun x5 =>
          Option.bind
            (Src_Power (Src.mk x5.2.2.2.1 x5.2.2.2.2.1)
              (Board.mk x5.1 x5.2.2.2.2.2.1 x5.2.2.2.2.2.2.1
                x5.2.2.2.2.2.2.2.1 x5.2.1 x5.2.2.1))
            fun x6 =>
            Option.bind (loopO (dynposlaw16_SyncExact_L1 a1 a2 a3 a4 a5 a6 a7 x5 x6) (0, x6.1, x6.2.1))
              fun x64 =>
              Sum.elim (fun x65 => Option.bind dynposlaw16_sane fun x66 => some x66) (fun x67 => some x67) x64
noncomputable def c3 : Con D := ⟨3, [.lf (.sl 0), .lf (.int .i64), .lf (.sl 4), .lf (.sl 5), .lf (.sl 6), .lf (.int .i64), .lf (.int .i64), .lf (.sl 1), .lf (.sl 8), .lf (.sl 0), .lf (.sl 9), .lf (.sl 1), .lf (.sl 8), .lf (.sl 0), .lf (.sl 9), .lf (.int .i64), .lf (.int .i64), .lf (.int .i64), .lf (.int .i64), .lf (.int .i64), .lf (.int .i64), .lf (.int .i64), .lf (.int .i64), .lf (.int .i64), .lf (.int .i64)], [.lf .bool], [.one (.h 0 [0]), .agg [.h 1 [], .h 2 [0], .h 3 [0], .h 4 [0], .h 5 [], .h 6 []], .agg [.h 7 [0], .h 8 [0], .h 9 [0], .h 10 [0]], .agg [.h 11 [0], .h 12 [0], .h 13 [0], .h 14 [0]], .agg [.h 15 [], .h 16 [], .h 17 [], .h 18 []], .agg [.h 19 [], .h 20 [], .h 21 [], .h 22 []], .one (.h 23 []), .one (.h 24 [])], [], [.one (.h 0 [])], [], fun h => dynposlaw16_SyncExact h.1 ⟨h.2.1, h.2.2.1, h.2.2.2.1, h.2.2.2.2.1, h.2.2.2.2.2.1, h.2.2.2.2.2.2.1⟩ ⟨h.2.2.2.2.2.2.2.1, h.2.2.2.2.2.2.2.2.1, h.2.2.2.2.2.2.2.2.2.1, h.2.2.2.2.2.2.2.2.2.2.1⟩ ⟨h.2.2.2.2.2.2.2.2.2.2.2.1, h.2.2.2.2.2.2.2.2.2.2.2.2.1, h.2.2.2.2.2.2.2.2.2.2.2.2.2.1, h.2.2.2.2.2.2.2.2.2.2.2.2.2.2.1⟩ ⟨h.2.2.2.2.2.2.2.2.2.2.2.2.2.2.2.1, h.2.2.2.2.2.2.2.2.2.2.2.2.2.2.2.2.1, h.2.2.2.2.2.2.2.2.2.2.2.2.2.2.2.2.2.1, h.2.2.2.2.2.2.2.2.2.2.2.2.2.2.2.2.2.2.1⟩ ⟨h.2.2.2.2.2.2.2.2.2.2.2.2.2.2.2.2.2.2.2.1, h.2.2.2.2.2.2.2.2.2.2.2.2.2.2.2.2.2.2.2.2.1, h.2.2.2.2.2.2.2.2.2.2.2.2.2.2.2.2.2.2.2.2.2.1, h.2.2.2.2.2.2.2.2.2.2.2.2.2.2.2.2.2.2.2.2.2.2.1⟩ h.2.2.2.2.2.2.2.2.2.2.2.2.2.2.2.2.2.2.2.2.2.2.2.1 h.2.2.2.2.2.2.2.2.2.2.2.2.2.2.2.2.2.2.2.2.2.2.2.2⟩
theorem c3_ok : ConOk Tryz.prog T c3 := fn_ok (Φ := [c4, c5, c6, c7, c8_1, c9, c10, c11, c12, c13, c14, c15, c16, c17, c18, c19, c20, c21, c22, c23, c24, c25, c26, c27, c28, c29, c30]) (rs := [.tmp 16]) (an := (.n none .o (.n none (.n none (.r (some (true, [(.normal, ⟨[.lf .bool], [(50, .one (.h 0 []))], [], [], 2448⟩)])) .nil) .o) (.n none .o (.n none .o (.n none .o (.n none (.n none (.f [2713, 2714, 2715] .o) (.n none (.f [2716, 2717, 2718, 2719] (.loop ⟨[.lf (.int .i64), .lf (.sl 0), .lf (.int .i64)], [(65, .one (.h 0 []))], [(2521, .box [.h 1 [0, 1], .h 2 []])], [2521], 3857⟩ false [(.exit 0, ⟨[.lf (.sl 0), .lf (.int .i64)], [], [(2521, .box [.h 0 [0, 1], .h 1 []])], [2521], 3857⟩)] (.n none .o (.n none .o (.n none (.n none (.n none .o (.n none (.n none (.r (some (true, [(.normal, ⟨[.lf .bool], [(78, .one (.any)), (79, .one (.any)), (80, .one (.any)), (81, .one (.any)), (82, .one (.any)), (83, .one (.any)), (84, .one (.any)), (85, .one (.any)), (86, .one (.any)), (87, .one (.h 0 []))], [], [], 4180⟩)])) .nil) .o) (.n none .o (.n none (.loop ⟨[.lf (.int .i64), .lf (.sl 0), .lf (.int .i64)], [(97, .one (.h 0 []))], [(2521, .box [.h 1 [0, 1], .h 2 []])], [2521], 4885⟩ false [(.exit 2, ⟨[.lf (.sl 0), .lf (.int .i64)], [], [(2521, .box [.h 0 [0, 1], .h 1 []])], [2521], 4885⟩)] (.n none .o (.n none .o (.n none (.n none (.n none .o (.n none (.n none .o (.n none (.loop ⟨[.lf (.int .i64), .lf (.sl 0), .lf (.int .i64)], [(104, .one (.h 0 []))], [(2521, .box [.h 1 [0, 1], .h 2 []])], [2521], 5528⟩ false [(.exit 4, ⟨[.lf (.sl 0), .lf (.int .i64)], [], [(2521, .box [.h 0 [0, 1], .h 1 []])], [2521], 5528⟩)] (.n none .o (.n none .o (.n none (.n none (.n none .o (.n none .o (.n none .o (.n none (.n none (.r (some (true, [(.normal, ⟨[.lf .bool], [(125, .one (.any)), (126, .one (.any)), (127, .one (.any)), (130, .one (.any)), (131, .one (.any)), (132, .one (.any)), (133, .one (.any)), (134, .one (.any)), (135, .one (.any)), (136, .one (.any)), (137, .one (.any)), (138, .one (.any)), (139, .one (.h 0 []))], [], [], 6939⟩)])) .nil) .o) (.n none .o (.n none .o (.n none (.n none (.r (some (true, [(.normal, ⟨[.lf .bool], [(159, .one (.any)), (160, .one (.any)), (161, .one (.any)), (164, .one (.any)), (165, .one (.any)), (166, .one (.any)), (167, .one (.any)), (168, .one (.any)), (169, .one (.any)), (170, .one (.any)), (171, .one (.any)), (172, .one (.any)), (173, .one (.h 0 []))], [], [], 8284⟩)])) .nil) .o) (.n none .o (.n none .o (.n none (.n none (.r (some (true, [(.normal, ⟨[.lf .bool], [(193, .one (.any)), (194, .one (.any)), (195, .one (.any)), (196, .one (.h 0 []))], [], [], 9501⟩)])) .nil) .o) (.n none .o (.n none (.f [8485, 8486, 9061, 9062, 8487, 8488, 9063, 9064] (.loop ⟨[.lf (.int .i64), .lf (.sl 1), .lf (.sl 8), .lf (.sl 0), .lf (.sl 9), .lf (.sl 1), .lf (.sl 8), .lf (.sl 0), .lf (.sl 9)], [(201, .one (.h 0 []))], [(7388, .box [.h 1 [1], .h 2 [1], .h 3 [1], .h 4 [1]]), (8028, .box [.h 5 [0, 1], .h 6 [0, 1], .h 7 [0, 1], .h 8 [0, 1]])], [7388, 8028], 9886⟩ false [(.exit 6, ⟨[.lf (.sl 1), .lf (.sl 8), .lf (.sl 0), .lf (.sl 9), .lf (.sl 1), .lf (.sl 8), .lf (.sl 0), .lf (.sl 9)], [], [(7388, .box [.h 0 [1], .h 1 [1], .h 2 [1], .h 3 [1]]), (8028, .box [.h 4 [0, 1], .h 5 [0, 1], .h 6 [0, 1], .h 7 [0, 1]])], [7388, 8028], 9886⟩)] (.n none .o (.n none .o (.n none (.n none (.n none .o (.n none .o (.n none .o (.n none (.r (some (true, [(.normal, ⟨[.lf .bool], [(225, .one (.any)), (226, .one (.any)), (227, .one (.any)), (228, .one (.h 0 []))], [], [], 11431⟩)])) .nil) .o)))) .o) .o))))) .o)))))))))))) .o) .o)))) .o)) (.n none .o (.n none .o (.n none (.n none (.r (some (true, [(.normal, ⟨[.lf .bool], [(248, .one (.any)), (249, .one (.any)), (250, .one (.any)), (251, .one (.h 0 []))], [], [], 6746⟩)])) .nil) .o) (.n none .o (.n none .o (.n none (.r (some (true, [(.normal, ⟨[.lf .bool], [(269, .one (.any)), (270, .one (.any)), (271, .one (.any)), (274, .one (.any)), (275, .one (.any)), (276, .one (.any)), (277, .one (.any)), (278, .one (.any)), (279, .one (.any)), (280, .one (.any)), (281, .one (.any)), (282, .one (.any)), (285, .one (.any)), (286, .one (.any)), (287, .one (.any)), (288, .one (.any)), (289, .one (.any)), (290, .one (.any)), (291, .one (.any)), (292, .one (.any)), (293, .one (.any)), (294, .one (.h 0 []))], [], [], 7835⟩)])) .nil) .o)))))))) .o) .o)))) .o)))) .o) .o))))) .o)) .o))))))) pOk repOk (AllC.mem (⟨c4_ok, c5_ok, c6_ok, c7_ok, c8_1_ok, c9_ok, c10_ok, c11_ok, c12_ok, c13_ok, c14_ok, c15_ok, c16_ok, c17_ok, c18_ok, c19_ok, c20_ok, c21_ok, c22_ok, c23_ok, c24_ok, c25_ok, c26_ok, c27_ok, c28_ok, c29_ok, c30_ok, trivial⟩ : AllC _ _ [c4, c5, c6, c7, c8_1, c9, c10, c11, c12, c13, c14, c15, c16, c17, c18, c19, c20, c21, c22, c23, c24, c25, c26, c27, c28, c29, c30])) hmix Tryz.call3 Tryz.func3 rfl rfl (by kernel_rfl) (fun h => by kernel_rfl)

end Rx
end Go.Proofs.YtkohjagmjnpdnaaGreat
