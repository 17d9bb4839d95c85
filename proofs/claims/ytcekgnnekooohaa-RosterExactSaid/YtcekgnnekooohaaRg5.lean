/- Plain functions, walks. Written by a program (wip/gen). -/
import Derived.Test.YtcekgnnekooohaaRt
import Derived.Test.YtcekgnnekooohaaRg1
import Derived.Test.YtcekgnnekooohaaRg2
import Derived.Test.YtcekgnnekooohaaRg3
import Derived.Test.YtcekgnnekooohaaRg4
set_option linter.unusedVariables false
set_option maxRecDepth 100000
namespace Go.Proofs.Ytcekgnnekooohaa
open Go Go.RowKit Dp
namespace Rx

noncomputable def Src_BentPower_L1 (x1 : List Bool ×
  List Running ×
    List Int ×
      List
        Part) : Int × List Bool →
  Option
    (Int × List Bool ⊕
      List
        Bool) := fun x3 =>
  if decide (x3.1 < len x1.1) = true then
    Option.bind (idx x3.2 x3.1) fun x4 =>
      Option.bind (idx x3.2 x3.1) fun x5 =>
        Option.bind (setO x3.2 x3.1 true) fun x6 => some (.inl (W (x3.1 + 1), x6))
  else some (.inr x3.2)
noncomputable def Src_BentPower (a0 : Src) (a1 : Power) : Option ((List Int) × Int × (List Bool) × (List Running) × (List Int) × (List Part)) :=
  Option.bind (dynposref15_Copy a1) fun x1 =>
    Option.bind (Src_N a0 6) fun x2 =>
      Option.bind
        (if (x2.1 == 0) = true then
          Option.bind (app x1.1 [true]) fun x33 =>
            some (x2.2.1, x2.2.2, x1.2.1, x1.2.2.1, x33, x1.2.2.2)
        else
          Option.bind
            (if (x2.1 == 1) = true then
              Option.bind
                (if decide (len x1.2.1 > 0) = true then
                  Option.bind (Src_N (Src.mk x2.2.1 x2.2.2) (len x1.2.1)) fun x26 =>
                    Option.bind (Src_Range (Src.mk x26.2.1 x26.2.2) (-1) 5) fun x27 =>
                      Option.bind (idx x1.2.1 x26.1) fun x28 =>
                        Option.bind (idx x1.2.1 x26.1) fun x29 =>
                          Option.bind (setO x1.2.1 x26.1 (Running.mk x27.1 x29.Since x29.Frequency x29.Phase))
                            fun x30 => some (x27.2.1, x27.2.2, x30)
                else some (x2.2.1, x2.2.2, x1.2.1))
                fun x31 => some (x31.1, x31.2.1, x1.1, x31.2.2, x1.2.2.1, x1.2.2.2)
            else
              Option.bind
                (if (x2.1 == 2) = true then
                  Option.bind
                    (if decide (len x1.2.1 > 0) = true then
                      Option.bind (Src_N (Src.mk x2.2.1 x2.2.2) (len x1.2.1)) fun x19 =>
                        Option.bind (Src_Odd (Src.mk x19.2.1 x19.2.2)) fun x20 =>
                          Option.bind (idx x1.2.1 x19.1) fun x21 =>
                            Option.bind (idx x1.2.1 x19.1) fun x22 =>
                              Option.bind
                                (setO x1.2.1 x19.1 (Running.mk x22.State x22.Since x22.Frequency x20.1))
                                fun x23 => some (x20.2.1, x20.2.2, x23)
                    else some (x2.2.1, x2.2.2, x1.2.1))
                    fun x24 => some (x24.1, x24.2.1, x1.1, x24.2.2, x1.2.2.1, x1.2.2.2)
                else
                  Option.bind
                    (if (x2.1 == 3) = true then
                      Option.bind
                        (if decide (len x1.2.2.1 > 0) = true then
                          Option.bind (Src_N (Src.mk x2.2.1 x2.2.2) (len x1.2.2.1)) fun x12 =>
                            Option.bind (Src_Odd (Src.mk x12.2.1 x12.2.2)) fun x13 =>
                              Option.bind (idx x1.2.2.1 x12.1) fun x14 =>
                                Option.bind (idx x1.2.2.1 x12.1) fun x15 =>
                                  Option.bind (setO x1.2.2.1 x12.1 x13.1) fun x16 =>
                                    some (x13.2.1, x13.2.2, x16)
                        else some (x2.2.1, x2.2.2, x1.2.2.1))
                        fun x17 => some (x17.1, x17.2.1, x1.1, x17.2.2, x1.2.2.2)
                    else
                      Option.bind
                        (if (x2.1 == 4) = true then
                          Option.bind (Src_Range (Src.mk x2.2.1 x2.2.2) 0 5) fun x8 =>
                            Option.bind (Src_Range (Src.mk x8.2.1 x8.2.2) (-1) 5)
                              fun x9 =>
                              Option.bind (app x1.2.2.2 [Part.mk x8.1 x9.1]) fun x10 =>
                                some (x9.2.1, x9.2.2, x1.1, x10)
                        else
                          Option.bind (loopO (Src_BentPower_L1 x1) (0, x1.1)) fun x7 =>
                            some (x2.2.1, x2.2.2, x7, x1.2.2.2))
                        fun x11 => some (x11.1, x11.2.1, x11.2.2.1, x1.2.2.1, x11.2.2.2))
                    fun x18 =>
                    some (x18.1, x18.2.1, x18.2.2.1, x1.2.1, x18.2.2.2.1, x18.2.2.2.2))
                fun x25 =>
                some
                  (x25.1, x25.2.1, x25.2.2.1, x25.2.2.2.1, x25.2.2.2.2.1,
                    x25.2.2.2.2.2))
            fun x32 =>
            some
              (x32.1, x32.2.1, x32.2.2.2.1, x32.2.2.2.2.1, x32.2.2.1,
                x32.2.2.2.2.2))
        fun x34 =>
        some
          (x34.1, x34.2.1, x34.2.2.2.2.1, x34.2.2.1, x34.2.2.2.1, x34.2.2.2.2.2)
noncomputable def c8 : Con D := ⟨8, [.lf (.sl 0), .lf (.int .i64), .lf (.sl 1), .lf (.sl 8), .lf (.sl 0), .lf (.sl 9)], [.lf (.sl 0), .lf (.int .i64), .lf (.sl 1), .lf (.sl 8), .lf (.sl 0), .lf (.sl 9)], [.one (.ptr 1000 0), .agg [.h 2 [0], .h 3 [0], .h 4 [0], .h 5 [0]]], [(1000, .box [.h 0 [0], .h 1 []])], [.agg [.own 1001, .own 1002, .own 1003, .own 1004]], [(1000, .box [.h 0 [0], .h 1 []]), (1001, .sl 1 4 2 [0]), (1002, .sl 8 70 3 [0]), (1003, .sl 0 3 4 [0]), (1004, .sl 9 80 5 [0])], fun h => Src_BentPower ⟨h.1, h.2.1⟩ ⟨h.2.2.1, h.2.2.2.1, h.2.2.2.2.1, h.2.2.2.2.2⟩⟩
theorem c8_ok : ConOk Try.prog T c8 := fn_ok (Φ := [c9, c10, c25, c26]) (rs := [.cell 4 32]) (an := (.n none .o (.n none .o (.n none (.n none .o (.n none (.n none .o (.n (some (true, [(.normal, ⟨[.lf (.sl 0), .lf (.int .i64), .lf (.sl 8), .lf (.sl 0), .lf (.sl 1), .lf (.sl 9)], [], [(1000, .box [.h 0 [0], .h 1 []]), (2201, .sl 8 70 2 [0]), (2202, .sl 0 3 3 [0]), (2256, .box [.own 2640, .own 2201, .own 2202, .own 2641]), (2640, .sl 1 4 4 [0]), (2641, .sl 9 80 5 [0])], [1000, 2200, 2201, 2202, 2203, 2256], 2704⟩)])) .o (.n none .o (.n (some (true, [(.normal, ⟨[.lf (.sl 0), .lf (.int .i64), .lf (.sl 1), .lf (.sl 8), .lf (.sl 0), .lf (.sl 9)], [], [(1000, .box [.h 0 [0], .h 1 []]), (2200, .sl 1 4 2 [0]), (2201, .sl 8 70 3 [0]), (2202, .sl 0 3 4 [0]), (2256, .box [.own 2200, .own 2201, .own 2202, .own 2768]), (2768, .sl 9 80 5 [0])], [1000, 2200, 2201, 2202, 2203, 2256], 2832⟩)])) (.n none .o (.n (some (true, [(.normal, ⟨[.lf (.sl 0), .lf (.int .i64), .lf (.sl 8)], [], [(1000, .box [.h 0 [0], .h 1 []]), (2201, .sl 8 70 2 [0])], [1000, 2201], 3088⟩)])) .o .o)) (.n none .o (.n (some (true, [(.normal, ⟨[.lf (.sl 0), .lf (.int .i64), .lf (.sl 1), .lf (.sl 8), .lf (.sl 0), .lf (.sl 9)], [], [(1000, .box [.h 0 [0], .h 1 []]), (2200, .sl 1 4 2 [0]), (2201, .sl 8 70 3 [0]), (2202, .sl 0 3 4 [0]), (2256, .box [.own 2200, .own 2201, .own 2202, .own 2896]), (2896, .sl 9 80 5 [0])], [1000, 2200, 2201, 2202, 2203, 2256], 2960⟩)])) (.n none .o (.n (some (true, [(.normal, ⟨[.lf (.sl 0), .lf (.int .i64), .lf (.sl 8)], [], [(1000, .box [.h 0 [0], .h 1 []]), (2201, .sl 8 70 2 [0])], [1000, 2201], 3216⟩)])) .o .o)) (.n none .o (.n (some (true, [(.normal, ⟨[.lf (.sl 0), .lf (.int .i64), .lf (.sl 1), .lf (.sl 0), .lf (.sl 9)], [], [(1000, .box [.h 0 [0], .h 1 []]), (2200, .sl 1 4 2 [0]), (2202, .sl 0 3 3 [0]), (2256, .box [.own 2200, .own 2201, .own 2202, .own 3024]), (3024, .sl 9 80 4 [0])], [1000, 2200, 2202, 2203, 2256], 3088⟩)])) (.n none .o (.n (some (true, [(.normal, ⟨[.lf (.sl 0), .lf (.int .i64), .lf (.sl 0)], [], [(1000, .box [.h 0 [0], .h 1 []]), (2202, .sl 0 3 2 [0])], [1000, 2202], 3344⟩)])) .o .o)) (.n none .o (.n (some (true, [(.normal, ⟨[.lf (.sl 0), .lf (.int .i64), .lf (.sl 1), .lf (.sl 9)], [], [(1000, .box [.h 0 [0], .h 1 []]), (2200, .sl 1 4 2 [0]), (2256, .box [.own 2200, .own 2201, .own 2202, .own 3152]), (3152, .sl 9 80 3 [0])], [1000, 2200, 2203, 2256], 3216⟩)])) .o (.n none .o (.n none (.loop ⟨[.lf (.int .i64), .lf (.sl 1)], [(14, .one (.h 0 []))], [(2200, .sl 1 4 1 [0])], [2200], 3472⟩ true [(.exit 1, ⟨[.lf (.sl 1)], [], [(2200, .sl 1 4 0 [0])], [2200], 3472⟩)] .o) .o)))))))))))) .o)) .o)))) pOk repOk (AllC.mem (⟨c9_ok, c10_ok, c25_ok, c26_ok, trivial⟩ : AllC _ _ [c9, c10, c25, c26])) hmix Try.call8 Try.func8 rfl rfl (by kernel_rfl) (fun h => by kernel_rfl)

noncomputable def dynposlaw19_RosterExact_L6 (a6 : Int) (x5 : Board) (x8 : Power) (x13 : Table) (x18 : Int) (x29 : Roster) (x30 : Int ×
  List Int ×
    Int) : Int →
  Option
    (Int ⊕
      Unit ⊕
        Int × List Int × Int ⊕
          List Int × Int ⊕
            Int × List Int × Int ⊕
              List Int × Int ⊕
                Int × List Int × Int ⊕
                  List Int × Int ⊕
                    Int × List Int × Int ⊕
                      List Int × Int ⊕
                        Int × List Int × Int ⊕
                          List Int × Int ⊕
                            Bool) := fun x31 =>
  if decide (x31 < 2) = true then
    Option.bind (idx [a6, x30.1] x31) fun x32 =>
      Option.bind (roster_Step x5 x13 x8 x18 x32 x29) fun x33 =>
        Option.bind (dynposref19_Step x5 x13 x8 x18 x32 x29) fun x34 =>
          Option.bind
            (if (!(x33.1 == x34.1 && x33.2.1 == x34.2.1)) = true then some true
            else
              Option.bind (dynposref18_Acts x33.2.2.2 x34.2.2.2) fun x35 =>
                if (!x35) = true then some true else some (x33.2.2.1 != x34.2.2.1))
            fun x36 =>
            if x36 = true then
              some
                (.inr
                  (.inr
                    (.inr
                      (.inr (.inr (.inr (.inr (.inr (.inr (.inr (.inr (.inr false))))))))))))
            else some (.inl (W (x31 + 1)))
  else some (.inr (.inl ()))
noncomputable def dynposlaw19_RosterExact_L5 (a4 : Roster) (a6 : Int) (x5 : Board) (x8 : Power) (x13 : Table) (x18 : Int) (x26 : Int ×
  List Int ×
    Int) (x27 : Int ×
  List Int ×
    Int) : Int × List Int × Int →
  Option
    (Int × List Int × Int ⊕
      List Int × Int ⊕
        Int × List Int × Int ⊕
          List Int × Int ⊕
            Int × List Int × Int ⊕
              List Int × Int ⊕
                Int × List Int × Int ⊕
                  List Int × Int ⊕
                    Int × List Int × Int ⊕
                      List Int × Int ⊕
                        Bool) := fun x28 =>
  if decide (x28.1 < 2) = true then
    Option.bind (idx [a4, Roster.mk x26.1 x27.1] x28.1) fun x29 =>
      Option.bind (Src_Range (Src.mk x28.2.1 x28.2.2) 5 12) fun x30 =>
        Option.bind (loopO (dynposlaw19_RosterExact_L6 a6 x5 x8 x13 x18 x29 x30) 0) fun x37 =>
          Sum.elim (fun x38 => some (.inl (W (x28.1 + 1), x30.2.1, x30.2.2)))
            (fun x39 => some x39) x37
  else some (.inr (.inl (x28.2.1, x28.2.2)))
noncomputable def dynposlaw19_RosterExact_L4 (a4 : Roster) (a5 : Int) (a6 : Int) (x5 : Board) (x8 : Power) (x13 : Table) (x16 : Int ×
  List Int ×
    Int) : Int × List Int × Int →
  Option
    (Int × List Int × Int ⊕
      List Int × Int ⊕
        Int × List Int × Int ⊕
          List Int × Int ⊕
            Int × List Int × Int ⊕
              List Int × Int ⊕
                Int × List Int × Int ⊕
                  List Int × Int ⊕
                    Bool) := fun x17 =>
  if decide (x17.1 < 3) = true then
    Option.bind (idx [a5, x16.1, 0] x17.1) fun x18 =>
      Option.bind (roster_Low x5 x13 x8 x18) fun x19 =>
        Option.bind (dynposref19_Low x5 x13 x8 x18) fun x20 =>
          Option.bind (roster_Next x5 x8 x18) fun x21 =>
            Option.bind (dynposref19_Next x5 x8 x18) fun x22 =>
              Option.bind
                (if (x19.1 != x20.1) = true then some true
                else
                  if (!x19.2 == x20.2) = true then some true
                  else
                    if (x21.1 != x22.1) = true then some true
                    else
                      if (!x21.2 == x22.2) = true then some true
                      else
                        Option.bind (roster_High x5 x13 x8 x18) fun x23 =>
                          Option.bind (dynposref19_High x5 x13 x8 x18) fun x24 => some !x23 == x24)
                fun x25 =>
                if x25 = true then
                  some (.inr (.inr (.inr (.inr (.inr (.inr (.inr (.inr false))))))))
                else
                  Option.bind (Src_Range (Src.mk x17.2.1 x17.2.2) (-1) 5) fun x26 =>
                    Option.bind (Src_Range (Src.mk x26.2.1 x26.2.2) (-1) 5) fun x27 =>
                      Option.bind
                        (loopO (dynposlaw19_RosterExact_L5 a4 a6 x5 x8 x13 x18 x26 x27)
                          (0, x27.2.1, x27.2.2))
                        fun x40 =>
                        Sum.elim (fun x41 => some (.inl (W (x17.1 + 1), x41.1, x41.2)))
                          (fun x42 => some x42) x40
  else some (.inr (.inl (x17.2.1, x17.2.2)))
noncomputable def dynposlaw19_RosterExact_L3 (a3 : Table) (a4 : Roster) (a5 : Int) (a6 : Int) (x3 : Int ×
  Int ×
    Int ×
      Int ×
        Int ×
          Int ×
            List Int ×
              Int ×
                List Breaker ×
                  List Source ×
                    List Consumer ×
                      List Bool ×
                        List Running ×
                          List Int ×
                            List
                              Part) (x5 : Board) (x8 : Power) (x9 : Int ×
  List Int ×
    Int) (x10 : Int ×
  List Int ×
    Int) (x11 : Int ×
  List Int ×
    Int) : Int × List Int × Int →
  Option
    (Int × List Int × Int ⊕
      List Int × Int ⊕
        Int × List Int × Int ⊕
          List Int × Int ⊕
            Int × List Int × Int ⊕
              List Int × Int ⊕
                Bool) := fun x12 =>
  if decide (x12.1 < 3) = true then
    Option.bind
      (idx
        [Table.mk x3.2.2.2.1 x3.2.2.2.2.1 x3.2.2.2.2.2.1, a3,
          Table.mk x9.1 x10.1 x11.1]
        x12.1)
      fun x13 =>
      Option.bind (roster_Valid x13) fun x14 =>
        Option.bind (dynposref19_Valid x13) fun x15 =>
          if (!x14 == x15) = true then some (.inr (.inr (.inr (.inr (.inr (.inr false))))))
          else
            Option.bind (Src_N (Src.mk x12.2.1 x12.2.2) 5) fun x16 =>
              Option.bind
                (loopO (dynposlaw19_RosterExact_L4 a4 a5 a6 x5 x8 x13 x16) (0, x16.2.1, x16.2.2))
                fun x43 =>
                Sum.elim (fun x44 => some (.inl (W (x12.1 + 1), x44.1, x44.2))) (fun x45 => some x45)
                  x43
  else some (.inr (.inl (x12.2.1, x12.2.2)))
noncomputable def dynposlaw19_RosterExact_L2 (a2 : Power) (a3 : Table) (a4 : Roster) (a5 : Int) (a6 : Int) (x3 : Int ×
  Int ×
    Int ×
      Int ×
        Int ×
          Int ×
            List Int ×
              Int ×
                List Breaker ×
                  List Source ×
                    List Consumer ×
                      List Bool ×
                        List Running ×
                          List Int ×
                            List
                              Part) (x5 : Board) (x6 : List Int ×
  Int ×
    List Bool ×
      List Running ×
        List Int ×
          List
            Part) : Int × List Int × Int →
  Option
    (Int × List Int × Int ⊕
      List Int × Int ⊕
        Int × List Int × Int ⊕
          List Int × Int ⊕
            Bool) := fun x7 =>
  if decide (x7.1 < 3) = true then
    Option.bind
      (idx
        [Power.mk x3.2.2.2.2.2.2.2.2.2.2.2.1
            x3.2.2.2.2.2.2.2.2.2.2.2.2.1
            x3.2.2.2.2.2.2.2.2.2.2.2.2.2.1
            x3.2.2.2.2.2.2.2.2.2.2.2.2.2.2,
          Power.mk x6.2.2.1 x6.2.2.2.1 x6.2.2.2.2.1 x6.2.2.2.2.2, a2]
        x7.1)
      fun x8 =>
      Option.bind (Src_Range (Src.mk x7.2.1 x7.2.2) (-1) 102) fun x9 =>
        Option.bind (Src_Range (Src.mk x9.2.1 x9.2.2) (-1) 100) fun x10 =>
          Option.bind (Src_N (Src.mk x10.2.1 x10.2.2) 4) fun x11 =>
            Option.bind
              (loopO (dynposlaw19_RosterExact_L3 a3 a4 a5 a6 x3 x5 x8 x9 x10 x11)
                (0, x11.2.1, x11.2.2))
              fun x46 =>
              Sum.elim (fun x47 => some (.inl (W (x7.1 + 1), x47.1, x47.2))) (fun x48 => some x48)
                x46
  else some (.inr (.inl (x7.2.1, x7.2.2)))
noncomputable def dynposlaw19_RosterExact_L1 (a1 : Board) (a2 : Power) (a3 : Table) (a4 : Roster) (a5 : Int) (a6 : Int) (x3 : Int ×
  Int ×
    Int ×
      Int ×
        Int ×
          Int ×
            List Int ×
              Int ×
                List Breaker ×
                  List Source ×
                    List Consumer ×
                      List Bool ×
                        List Running ×
                          List Int ×
                            List
                              Part) : Int × List Int × Int →
  Option
    (Int × List Int × Int ⊕
      List Int × Int ⊕
        Bool) := fun x4 =>
  if decide (x4.1 < 2) = true then
    Option.bind
      (idx
        [Board.mk x3.1 x3.2.2.2.2.2.2.2.2.1 x3.2.2.2.2.2.2.2.2.2.1
            x3.2.2.2.2.2.2.2.2.2.2.1 x3.2.1 x3.2.2.1,
          a1]
        x4.1)
      fun x5 =>
      Option.bind
        (Src_BentPower (Src.mk x4.2.1 x4.2.2)
          (Power.mk x3.2.2.2.2.2.2.2.2.2.2.2.1
            x3.2.2.2.2.2.2.2.2.2.2.2.2.1
            x3.2.2.2.2.2.2.2.2.2.2.2.2.2.1
            x3.2.2.2.2.2.2.2.2.2.2.2.2.2.2))
        fun x6 =>
        Option.bind (loopO (dynposlaw19_RosterExact_L2 a2 a3 a4 a5 a6 x3 x5 x6) (0, x6.1, x6.2.1))
          fun x49 =>
          Sum.elim (fun x50 => some (.inl (W (x4.1 + 1), x50.1, x50.2))) (fun x51 => some x51) x49
  else some (.inr (.inl (x4.2.1, x4.2.2)))
noncomputable def dynposlaw19_RosterExact (a0 : (List Int)) (a1 : Board) (a2 : Power) (a3 : Table) (a4 : Roster) (a5 : Int) (a6 : Int) : Option (Bool) :=
  Option.bind (dynposmake_Small a1 a2) fun x1 =>
    if (!x1) = true then Option.bind dynposlaw19_sane fun x56 => some x56
    else
      Option.bind (dynposmake_New a0) fun x2 =>
        Option.bind (dynposlaw19_world (Src.mk x2.1 x2.2)) fun x3 =>
          Option.bind
            (loopO (dynposlaw19_RosterExact_L1 a1 a2 a3 a4 a5 a6 x3)
              (0, x3.2.2.2.2.2.2.1, x3.2.2.2.2.2.2.2.1))
            fun x52 => Sum.elim (fun x53 => Option.bind dynposlaw19_sane fun x54 => some x54) (fun x55 => some x55) x52
noncomputable def c3 : Con D := ⟨3, [.lf (.sl 0), .lf (.int .i64), .lf (.sl 4), .lf (.sl 5), .lf (.sl 6), .lf (.int .i64), .lf (.int .i64), .lf (.sl 1), .lf (.sl 8), .lf (.sl 0), .lf (.sl 9), .lf (.int .i64), .lf (.int .i64), .lf (.int .i64), .lf (.int .i64), .lf (.int .i64), .lf (.int .i64), .lf (.int .i64)], [.lf .bool], [.one (.h 0 [0]), .agg [.h 1 [], .h 2 [0], .h 3 [0], .h 4 [0], .h 5 [], .h 6 []], .agg [.h 7 [0], .h 8 [0], .h 9 [0], .h 10 [0]], .agg [.h 11 [], .h 12 [], .h 13 []], .agg [.h 14 [], .h 15 []], .one (.h 16 []), .one (.h 17 [])], [], [.one (.h 0 [])], [], fun h => dynposlaw19_RosterExact h.1 ⟨h.2.1, h.2.2.1, h.2.2.2.1, h.2.2.2.2.1, h.2.2.2.2.2.1, h.2.2.2.2.2.2.1⟩ ⟨h.2.2.2.2.2.2.2.1, h.2.2.2.2.2.2.2.2.1, h.2.2.2.2.2.2.2.2.2.1, h.2.2.2.2.2.2.2.2.2.2.1⟩ ⟨h.2.2.2.2.2.2.2.2.2.2.2.1, h.2.2.2.2.2.2.2.2.2.2.2.2.1, h.2.2.2.2.2.2.2.2.2.2.2.2.2.1⟩ ⟨h.2.2.2.2.2.2.2.2.2.2.2.2.2.2.1, h.2.2.2.2.2.2.2.2.2.2.2.2.2.2.2.1⟩ h.2.2.2.2.2.2.2.2.2.2.2.2.2.2.2.2.1 h.2.2.2.2.2.2.2.2.2.2.2.2.2.2.2.2.2⟩
theorem c3_ok : ConOk Try.prog T c3 := fn_ok (Φ := [c4, c5, c6, c7, c8, c9, c10, c11, c12, c13, c14, c15, c16, c17, c18, c19, c20, c21]) (rs := [.tmp 14]) (an := (.n none .o (.n none .o (.n none .o (.n none .o (.n none (.n none .o (.n none (.f [2843, 2844, 2845, 2846] (.loop ⟨[.lf (.int .i64), .lf (.sl 0), .lf (.int .i64)], [(61, .one (.h 0 []))], [(2648, .box [.h 1 [0, 1], .h 2 []])], [2648], 3856⟩ false [(.exit 0, ⟨[.lf (.sl 0), .lf (.int .i64)], [], [(2648, .box [.h 0 [0, 1], .h 1 []])], [2648], 3856⟩)] (.n none .o (.n none .o (.n none (.n none (.n none .o (.n none .o (.n none (.loop ⟨[.lf (.int .i64), .lf (.sl 0), .lf (.int .i64)], [(70, .one (.h 0 []))], [(2648, .box [.h 1 [0, 1], .h 2 []])], [2648], 4627⟩ false [(.exit 2, ⟨[.lf (.sl 0), .lf (.int .i64)], [], [(2648, .box [.h 0 [0, 1], .h 1 []])], [2648], 4627⟩)] (.n none .o (.n none .o (.n none (.n none (.n none .o (.n none .o (.n none (.loop ⟨[.lf (.int .i64), .lf (.sl 0), .lf (.int .i64)], [(83, .one (.h 0 []))], [(2648, .box [.h 1 [0, 1], .h 2 []])], [2648], 5654⟩ false [(.exit 4, ⟨[.lf (.sl 0), .lf (.int .i64)], [], [(2648, .box [.h 0 [0, 1], .h 1 []])], [2648], 5654⟩)] (.n none .o (.n none .o (.n none (.n none (.n none .o (.n none .o (.n none .o (.n none (.loop ⟨[.lf (.int .i64), .lf (.sl 0), .lf (.int .i64)], [(95, .one (.h 0 []))], [(2648, .box [.h 1 [0, 1], .h 2 []])], [2648], 6617⟩ false [(.exit 6, ⟨[.lf (.sl 0), .lf (.int .i64)], [], [(2648, .box [.h 0 [0, 1], .h 1 []])], [2648], 6617⟩)] (.n none .o (.n none .o (.n none (.n none (.n none .o (.n none .o (.n none .o (.n none .o (.n none .o (.n none (.n none (.r (some (true, [(.normal, ⟨[.lf .bool], [(132, .one (.any)), (133, .one (.any)), (134, .one (.any)), (137, .one (.any)), (138, .one (.any)), (139, .one (.any)), (142, .one (.any)), (143, .one (.any)), (144, .one (.any)), (147, .one (.any)), (148, .one (.any)), (149, .one (.any)), (150, .one (.any)), (151, .one (.any)), (152, .one (.any)), (153, .one (.any)), (154, .one (.any)), (155, .one (.any)), (156, .one (.any)), (157, .one (.any)), (158, .one (.h 0 []))], [], [], 9308⟩)])) .nil) .o) (.n none .o (.n none (.loop ⟨[.lf (.int .i64), .lf (.sl 0), .lf (.int .i64)], [(166, .one (.h 0 []))], [(2648, .box [.h 1 [0, 1], .h 2 []])], [2648], 9885⟩ false [(.exit 8, ⟨[.lf (.sl 0), .lf (.int .i64)], [], [(2648, .box [.h 0 [0, 1], .h 1 []])], [2648], 9885⟩)] (.n none .o (.n none .o (.n none (.n none (.n none .o (.n none .o (.n none (.loop ⟨[.lf (.int .i64)], [(173, .one (.h 0 []))], [], [], 10528⟩ false [(.exit 10, ⟨[], [], [], [], 10528⟩)] (.n none .o (.n none .o (.n none (.n none (.n none .o (.n none .o (.n none .o (.n none (.r (some (true, [(.normal, ⟨[.lf .bool], [(202, .one (.any)), (203, .one (.any)), (204, .one (.any)), (205, .one (.any)), (208, .one (.any)), (209, .one (.any)), (210, .one (.any)), (211, .one (.h 0 []))], [], [], 12705⟩)])) .nil) .o)))) .o) .o)))) .o))) .o) .o)))) .o)))))))) .o) .o)))) .o)))) .o) .o)))) .o))) .o) .o)))) .o))) .o) .o))))) .o)) .o)))))) pOk repOk (AllC.mem (⟨c4_ok, c5_ok, c6_ok, c7_ok, c8_ok, c9_ok, c10_ok, c11_ok, c12_ok, c13_ok, c14_ok, c15_ok, c16_ok, c17_ok, c18_ok, c19_ok, c20_ok, c21_ok, trivial⟩ : AllC _ _ [c4, c5, c6, c7, c8, c9, c10, c11, c12, c13, c14, c15, c16, c17, c18, c19, c20, c21])) hmix Try.call3 Try.func3 rfl rfl (by kernel_rfl) (fun h => by kernel_rfl)

noncomputable def Src_PowerS_L1 (a1 : Board) : Int × List Int × Int × List Bool →
  Option
    (Int × List Int × Int × List Bool ⊕
      List Int ×
        Int ×
          List
            Bool) := fun x1 =>
  if decide (x1.1 < len a1.Breakers) = true then
    Option.bind (Src_N (Src.mk x1.2.1 x1.2.2.1) 2) fun x2 =>
      Option.bind (app x1.2.2.2 [x2.1 == 1]) fun x3 =>
        some (.inl (W (x1.1 + 1), x2.2.1, x2.2.2, x3))
  else some (.inr (x1.2.1, x1.2.2.1, x1.2.2.2))
noncomputable def Src_PowerS_L3 (a1 : Board) (x5 : Int ×
  List
    Bool) : Bool × Int × List Bool →
  Option
    (Bool × Int × List Bool ⊕
      List
        Bool) := fun x6 =>
  if decide (x6.2.1 < len a1.Breakers) = true then
    Option.bind (idx a1.Breakers x6.2.1) fun x7 =>
      Option.bind
        (if (x7.Kind == 3) = true then
          if (x7.B == x5.1) = true then Option.bind (idx x6.2.2 x6.2.1) fun x8 => some x8 else some false
        else some false)
        fun x9 =>
        Option.bind
          (if x9 = true then
            Option.bind (idx x6.2.2 x6.2.1) fun x10 =>
              Option.bind (idx x6.2.2 x6.2.1) fun x11 =>
                Option.bind (setO x6.2.2 x6.2.1 x6.1) fun x12 => some (false, x12)
          else some (x6.1, x6.2.2))
          fun x13 => some (.inl (x13.1, W (x6.2.1 + 1), x13.2))
  else some (.inr x6.2.2)
noncomputable def Src_PowerS_L2 (a1 : Board) : Int × List Bool →
  Option
    (Int × List Bool ⊕
      List
        Bool) := fun x5 =>
  if decide (x5.1 < len a1.Consumers) = true then
    Option.bind (loopO (Src_PowerS_L3 a1 x5) (true, 0, x5.2)) fun x14 =>
      some (.inl (W (x5.1 + 1), x14))
  else some (.inr x5.2)
noncomputable def Src_PowerS_L4 (a1 : Board) : Int × List Int × Int × List Running →
  Option
    (Int × List Int × Int × List Running ⊕
      List Int ×
        Int ×
          List
            Running) := fun x16 =>
  if decide (x16.1 < len a1.Sources) = true then
    Option.bind
      (Src_Pick (Src.mk x16.2.1 x16.2.2.1)
        [0, 1, 2, 2, 2, 3])
      fun x17 =>
      Option.bind (Src_N (Src.mk x17.2.1 x17.2.2.1) 5) fun x18 =>
        Option.bind
          (Src_Pick (Src.mk x18.2.1 x18.2.2)
            [5000, 5000, 5005, 4950])
          fun x19 =>
          Option.bind
            (Src_Pick (Src.mk x19.2.1 x19.2.2.1)
              [0, 0, 40, 1800, 3590])
            fun x20 =>
            Option.bind (app x16.2.2.2 [Running.mk x17.1 x18.1 x19.1 x20.1]) fun x21 =>
              some (.inl (W (x16.1 + 1), x20.2.1, x20.2.2.1, x21))
  else some (.inr (x16.2.1, x16.2.2.1, x16.2.2.2))
noncomputable def Src_PowerS_L5 (a1 : Board) : Int × List Int × Int × List Int →
  Option
    (Int × List Int × Int × List Int ⊕
      List Int ×
        Int ×
          List
            Int) := fun x23 =>
  if decide (x23.1 < len a1.Consumers) = true then
    Option.bind (idx a1.Consumers x23.1) fun x24 =>
      Option.bind (quoO x24.Load 3) fun x25 =>
        Option.bind (Src_Pick (Src.mk x23.2.1 x23.2.2.1) [x24.Load, x24.Load, x24.Least, x25]) fun x26 =>
          Option.bind (app x23.2.2.2 [x26.1]) fun x27 =>
            some (.inl (W (x23.1 + 1), x26.2.1, x26.2.2.1, x27))
  else some (.inr (x23.2.1, x23.2.2.1, x23.2.2.2))
noncomputable def Src_PowerS_L6 (a1 : Board) : Int × List Int × Int × List Part →
  Option
    (Int × List Int × Int × List Part ⊕
      List Int ×
        Int ×
          List
            Part) := fun x29 =>
  if decide (x29.1 ≤ 4) = true then
    Option.bind (Src_N (Src.mk x29.2.1 x29.2.2.1) 5) fun x30 =>
      Option.bind
        (if (x30.1 == 4) = true then
          Option.bind (Src_N (Src.mk x30.2.1 x30.2.2) 4) fun x31 =>
            Option.bind (dynposref15_Exists a1 (Part.mk x29.1 x31.1)) fun x32 =>
              Option.bind
                (if x32 = true then Option.bind (app x29.2.2.2 [Part.mk x29.1 x31.1]) fun x33 => some x33
                else some x29.2.2.2)
                fun x34 => some (x31.2.1, x31.2.2, x34)
        else some (x30.2.1, x30.2.2, x29.2.2.2))
        fun x35 => some (.inl (W (x29.1 + 1), x35.1, x35.2.1, x35.2.2))
  else some (.inr (x29.2.1, x29.2.2.1, x29.2.2.2))
noncomputable def Src_PowerS (a0 : Src) (a1 : Board) : Option ((List Int) × Int × (List Bool) × (List Running) × (List Int) × (List Part)) :=
  Option.bind (loopO (Src_PowerS_L1 a1) (0, a0.L, a0.At, [])) fun x4 =>
    Option.bind (loopO (Src_PowerS_L2 a1) (0, x4.2.2)) fun x15 =>
      Option.bind (loopO (Src_PowerS_L4 a1) (0, x4.1, x4.2.1, [])) fun x22 =>
        Option.bind (loopO (Src_PowerS_L5 a1) (0, x22.1, x22.2.1, [])) fun x28 =>
          Option.bind (loopO (Src_PowerS_L6 a1) (1, x28.1, x28.2.1, [])) fun x36 =>
            some (x36.1, x36.2.1, x15, x22.2.2, x28.2.2, x36.2.2)
noncomputable def c53 : Con D := ⟨53, [.lf (.sl 0), .lf (.int .i64), .lf (.int .i64), .lf (.sl 4), .lf (.sl 5), .lf (.sl 6), .lf (.int .i64), .lf (.int .i64)], [.lf (.sl 0), .lf (.int .i64), .lf (.sl 1), .lf (.sl 8), .lf (.sl 0), .lf (.sl 9)], [.one (.ptr 1000 0), .agg [.h 2 [], .h 3 [0], .h 4 [0], .h 5 [0], .h 6 [], .h 7 []]], [(1000, .box [.h 0 [0], .h 1 []])], [.agg [.own 1001, .own 1002, .own 1003, .own 1004]], [(1000, .box [.h 0 [0], .h 1 []]), (1001, .sl 1 4 2 []), (1002, .sl 8 70 3 []), (1003, .sl 0 3 4 []), (1004, .sl 9 80 5 [])], fun h => Src_PowerS ⟨h.1, h.2.1⟩ ⟨h.2.2.1, h.2.2.2.1, h.2.2.2.2.1, h.2.2.2.2.2.1, h.2.2.2.2.2.2.1, h.2.2.2.2.2.2.2⟩⟩
theorem c53_ok : ConOk Try.prog T c53 := fn_ok (Φ := [c10, c51_1, c74]) (rs := [.cell 4 32]) (an := (.n none .o (.n none .o (.n none (.n none .o (.n none (.loop ⟨[.lf (.int .i64), .lf (.sl 0), .lf (.int .i64), .lf (.sl 1)], [(17, .one (.h 0 []))], [(1000, .box [.h 1 [0], .h 2 []]), (2128, .box [.own 2448, .nils, .nils, .nils]), (2448, .sl 1 4 3 [])], [1000, 2128], 2512⟩ true [(.exit 0, ⟨[.lf (.sl 0), .lf (.int .i64), .lf (.sl 1)], [], [(1000, .box [.h 0 [0], .h 1 []]), (2128, .box [.own 2448, .nils, .nils, .nils]), (2448, .sl 1 4 2 [])], [1000, 2128], 2512⟩)] .o) .o)) (.n none (.n none .o (.n none (.loop ⟨[.lf (.int .i64), .lf (.sl 1)], [(31, .one (.h 0 []))], [(2448, .sl 1 4 1 [])], [2448], 2835⟩ true [(.exit 2, ⟨[.lf (.sl 1)], [], [(2448, .sl 1 4 0 [])], [2448], 2835⟩)] (.n none .o (.n none .o (.n none (.n none (.n none .o (.n none .o (.n none .o (.n none (.loop ⟨[.lf .bool, .lf (.int .i64), .lf (.sl 1)], [(7, .one (.h 0 [])), (37, .one (.h 1 []))], [(2448, .sl 1 4 2 [])], [2448], 3413⟩ true [(.exit 4, ⟨[.lf (.sl 1)], [], [(2448, .sl 1 4 0 [])], [2448], 3413⟩)] (.n none .o (.n none .o (.n none (.n none (.n none .o (.n none (.r (some (true, [(.normal, ⟨[.lf .bool], [(46, .one (.any)), (47, .one (.any)), (48, .one (.any)), (49, .one (.any)), (52, .one (.any)), (53, .one (.any)), (54, .one (.any)), (55, .one (.any)), (56, .one (.any)), (57, .one (.h 0 []))], [], [], 3928⟩)])) .nil) (.n (some (true, [(.normal, ⟨[.lf .bool, .lf (.sl 1)], [(7, .one (.h 0 []))], [(2448, .sl 1 4 1 [])], [2448], 3993⟩)])) .o .o))) .o) .o)))) .o)))) .o) .o)))) .o)) (.n none (.n none .o (.n none (.loop ⟨[.lf (.int .i64), .lf (.sl 0), .lf (.int .i64), .lf (.sl 8)], [(68, .one (.h 0 []))], [(1000, .box [.h 1 [0], .h 2 []]), (2128, .box [.own 2448, .own 3092, .nils, .nils]), (3092, .sl 8 70 3 [])], [1000, 2128], 3156⟩ true [(.exit 6, ⟨[.lf (.sl 0), .lf (.int .i64), .lf (.sl 8)], [], [(1000, .box [.h 0 [0], .h 1 []]), (2128, .box [.own 2448, .own 3092, .nils, .nils]), (3092, .sl 8 70 2 [])], [1000, 2128], 3156⟩)] .o) .o)) (.n none (.n none .o (.n none (.loop ⟨[.lf (.int .i64), .lf (.sl 0), .lf (.int .i64), .lf (.sl 0)], [(91, .one (.h 0 []))], [(1000, .box [.h 1 [0], .h 2 []]), (2128, .box [.own 2448, .own 3092, .own 3415, .nils]), (3415, .sl 0 3 3 [])], [1000, 2128], 3479⟩ true [(.exit 8, ⟨[.lf (.sl 0), .lf (.int .i64), .lf (.sl 0)], [], [(1000, .box [.h 0 [0], .h 1 []]), (2128, .box [.own 2448, .own 3092, .own 3415, .nils]), (3415, .sl 0 3 2 [])], [1000, 2128], 3479⟩)] .o) .o)) (.n none (.n none .o (.n none (.loop ⟨[.lf (.int .i64), .lf (.sl 0), .lf (.int .i64), .lf (.sl 9)], [(12, .one (.h 0 []))], [(1000, .box [.h 1 [0], .h 2 []]), (2128, .box [.own 2448, .own 3092, .own 3415, .own 3546]), (3546, .sl 9 80 3 [])], [1000, 2128], 3610⟩ true [(.exit 10, ⟨[.lf (.sl 0), .lf (.int .i64), .lf (.sl 9)], [], [(1000, .box [.h 0 [0], .h 1 []]), (2128, .box [.own 2448, .own 3092, .own 3415, .own 3546]), (3546, .sl 9 80 2 [])], [1000, 2128], 3610⟩)] (.n none .o (.n none (.n none (.n none .o (.n (some (true, [(.normal, ⟨[.lf (.sl 0), .lf (.int .i64), .lf (.sl 9)], [], [(1000, .box [.h 0 [0], .h 1 []]), (2128, .box [.own 2448, .own 3092, .own 3415, .own 3934]), (3934, .sl 9 80 2 [])], [1000, 2128, 3546], 3998⟩)])) (.n none .o (.n none .o (.n (some (true, [(.normal, ⟨[.lf (.sl 9)], [], [(2128, .box [.own 2448, .own 3092, .own 3415, .own 4510]), (4510, .sl 9 80 0 [])], [2128, 3546], 4574⟩)])) .o .o))) .o)) .o) .o))) .o)) .o)))))))) pOk repOk (AllC.mem (⟨c10_ok, c51_1_ok, c74_ok, trivial⟩ : AllC _ _ [c10, c51_1, c74])) hmix Try.call53 Try.func53 rfl rfl (by kernel_rfl) (fun h => by kernel_rfl)

noncomputable def dynposref16_followC_L2 (x1 : List Bool ×
  List Running ×
    List Int ×
      List Part ×
        List Bool ×
          List Running ×
            List Int ×
              List
                Part) (x4 : Island) : Int × List Running →
  Option
    (Int × List Running ⊕
      List
        Running) := fun x5 =>
  if decide (x5.1 < len x4.Sources) = true then
    Option.bind (idx x4.Sources x5.1) fun x6 =>
      Option.bind (idx x4.Sources 0) fun x7 =>
        Option.bind (idx x1.2.1 x7) fun x8 =>
          Option.bind (idx x4.Sources 0) fun x9 =>
            Option.bind (idx x1.2.1 x9) fun x10 =>
              Option.bind (idx x5.2 x6) fun x11 =>
                Option.bind (idx x5.2 x6) fun x12 =>
                  Option.bind (setO x5.2 x6 (Running.mk x12.State x12.Since x8.Frequency x12.Phase)) fun x13 =>
                    Option.bind (idx x13 x6) fun x14 =>
                      Option.bind (idx x13 x6) fun x15 =>
                        Option.bind (setO x13 x6 (Running.mk x15.State x15.Since x15.Frequency x10.Phase)) fun x16 =>
                          some (.inl (W (x5.1 + 1), x16))
  else some (.inr x5.2)
noncomputable def dynposref16_followC_L1 (x1 : List Bool ×
  List Running ×
    List Int ×
      List Part ×
        List Bool ×
          List Running ×
            List Int ×
              List
                Part) (x2 : List
  Island) : Int × List Running →
  Option
    (Int × List Running ⊕
      List
        Running) := fun x3 =>
  if decide (x3.1 < len x2) = true then
    Option.bind (idx x2 x3.1) fun x4 =>
      Option.bind (loopO (dynposref16_followC_L2 x1 x4) (0, x3.2)) fun x17 =>
        some (.inl (W (x3.1 + 1), x17))
  else some (.inr x3.2)
noncomputable def dynposref16_followC (a0 : Board) (a1 : Power) : Option ((List Bool) × (List Running) × (List Int) × (List Part) × (List Bool) × (List Running) × (List Int) × (List Part)) :=
  Option.bind (dynposref15_CopyV a1) fun x1 =>
    Option.bind (dynposref15_Islands a0 (Power.mk x1.1 x1.2.1 x1.2.2.1 x1.2.2.2.1)) fun x2 =>
      Option.bind (loopO (dynposref16_followC_L1 x1 x2) (0, x1.2.2.2.2.2.1)) fun x18 =>
        some
          (x1.1, x1.2.1, x1.2.2.1, x1.2.2.2.1, x1.2.2.2.2.1, x18,
            x1.2.2.2.2.2.2.1, x1.2.2.2.2.2.2.2)
noncomputable def c76_1 : Con D := ⟨76, [.lf (.int .i64), .lf (.sl 4), .lf (.sl 5), .lf (.sl 6), .lf (.int .i64), .lf (.int .i64), .lf (.sl 1), .lf (.sl 8), .lf (.sl 0), .lf (.sl 9)], [.lf (.sl 1), .lf (.sl 8), .lf (.sl 0), .lf (.sl 9), .lf (.sl 1), .lf (.sl 8), .lf (.sl 0), .lf (.sl 9)], [.agg [.h 0 [], .h 1 [0], .h 2 [0], .h 3 [0], .h 4 [], .h 5 []], .agg [.own 1000, .own 1001, .own 1002, .own 1003]], [(1000, .sl 1 4 6 [0]), (1001, .sl 8 70 7 [0]), (1002, .sl 0 3 8 [0]), (1003, .sl 9 80 9 [0])], [.agg [.own 1004, .own 1005, .own 1006, .own 1007]], [(1000, .sl 1 4 0 [0]), (1001, .sl 8 70 1 [0]), (1002, .sl 0 3 2 [0]), (1003, .sl 9 80 3 [0]), (1004, .sl 1 4 4 [0]), (1005, .sl 8 70 5 [0]), (1006, .sl 0 3 6 [0]), (1007, .sl 9 80 7 [0])], fun h => dynposref16_followC ⟨h.1, h.2.1, h.2.2.1, h.2.2.2.1, h.2.2.2.2.1, h.2.2.2.2.2.1⟩ ⟨h.2.2.2.2.2.2.1, h.2.2.2.2.2.2.2.1, h.2.2.2.2.2.2.2.2.1, h.2.2.2.2.2.2.2.2.2⟩⟩
theorem c76_1_ok : ConOk Try.prog T c76_1 := fn_ok (Φ := [c25_1, c94]) (rs := [.cell 4 32]) (an := (.n none .o (.n none .o (.n none (.n none .o (.n none (.loop ⟨[.lf (.int .i64), .lf (.sl 8)], [(16, .one (.h 0 []))], [(2265, .sl 8 70 1 [0])], [2265], 2832⟩ true [(.exit 0, ⟨[.lf (.sl 8)], [], [(2265, .sl 8 70 0 [0])], [2265], 2832⟩)] (.n none .o (.n none .o (.n none (.n none (.n none .o (.n none .o (.n none (.loop ⟨[.lf (.int .i64), .lf (.sl 8)], [(23, .one (.h 0 []))], [(2265, .sl 8 70 1 [0])], [2265], 3474⟩ true [(.exit 2, ⟨[.lf (.sl 8)], [], [(2265, .sl 8 70 0 [0])], [2265], 3474⟩)] .o) .o))) .o) .o)))) .o)) .o)))) pOk repOk (AllC.mem (⟨c25_1_ok, c94_ok, trivial⟩ : AllC _ _ [c25_1, c94])) hmix Try.call76 Try.func76 rfl rfl (by kernel_rfl) (fun h => by kernel_rfl)

noncomputable def dynposref16_FollowV (a0 : Board) (a1 : Power) : Option (Int × (List Bool) × (List Running) × (List Int) × (List Part) × (List Bool) × (List Running) × (List Int) × (List Part)) :=
  Option.bind (dynposref15_State a0 a1) fun x1 =>
    if (x1 != 0) = true then some (x1, a1.Closed, a1.Sources, a1.Limits, a1.Broken, [], [], [], [])
    else
      Option.bind (dynposref16_followC a0 a1) fun x2 =>
        some
          (0, x2.1, x2.2.1, x2.2.2.1, x2.2.2.2.1, x2.2.2.2.2.1,
            x2.2.2.2.2.2.1, x2.2.2.2.2.2.2.1, x2.2.2.2.2.2.2.2)
noncomputable def c52_1 : Con D := ⟨52, [.lf (.int .i64), .lf (.sl 4), .lf (.sl 5), .lf (.sl 6), .lf (.int .i64), .lf (.int .i64), .lf (.sl 1), .lf (.sl 8), .lf (.sl 0), .lf (.sl 9)], [.lf (.int .i64), .lf (.sl 1), .lf (.sl 8), .lf (.sl 0), .lf (.sl 9), .lf (.sl 1), .lf (.sl 8), .lf (.sl 0), .lf (.sl 9)], [.agg [.h 0 [], .h 1 [0], .h 2 [0], .h 3 [0], .h 4 [], .h 5 []], .agg [.own 1000, .own 1001, .own 1002, .own 1003]], [(1000, .sl 1 4 6 [0]), (1001, .sl 8 70 7 [0]), (1002, .sl 0 3 8 [0]), (1003, .sl 9 80 9 [0])], [.agg [.own 1004, .own 1005, .own 1006, .own 1007], .one (.h 0 [])], [(1000, .sl 1 4 1 [0]), (1001, .sl 8 70 2 [0]), (1002, .sl 0 3 3 [0]), (1003, .sl 9 80 4 [0]), (1004, .sl 1 4 5 [0]), (1005, .sl 8 70 6 [0]), (1006, .sl 0 3 7 [0]), (1007, .sl 9 80 8 [0])], fun h => dynposref16_FollowV ⟨h.1, h.2.1, h.2.2.1, h.2.2.2.1, h.2.2.2.2.1, h.2.2.2.2.2.1⟩ ⟨h.2.2.2.2.2.2.1, h.2.2.2.2.2.2.2.1, h.2.2.2.2.2.2.2.2.1, h.2.2.2.2.2.2.2.2.2⟩⟩
theorem c52_1_ok : ConOk Try.prog T c52_1 := fn_ok (Φ := [c48, c76_1]) (rs := [.cell 4 32, .tmp 5]) (an := .o) pOk repOk (AllC.mem (⟨c48_ok, c76_1_ok, trivial⟩ : AllC _ _ [c48, c76_1])) hmix Try.call52 Try.func52 rfl rfl (by kernel_rfl) (fun h => by kernel_rfl)

noncomputable def Src_FollowedB (a0 : Src) (a1 : Board) : Option ((List Int) × Int × (List Bool) × (List Running) × (List Int) × (List Part)) :=
  Option.bind (Src_PowerS a0 a1) fun x1 =>
    Option.bind
      (dynposref16_FollowV a1
        (Power.mk x1.2.2.1 x1.2.2.2.1 x1.2.2.2.2.1 x1.2.2.2.2.2))
      fun x2 =>
      some
        (x1.1, x1.2.1, x2.2.2.2.2.2.1, x2.2.2.2.2.2.2.1,
          x2.2.2.2.2.2.2.2.1, x2.2.2.2.2.2.2.2.2)
noncomputable def c24 : Con D := ⟨24, [.lf (.sl 0), .lf (.int .i64), .lf (.int .i64), .lf (.sl 4), .lf (.sl 5), .lf (.sl 6), .lf (.int .i64), .lf (.int .i64)], [.lf (.sl 0), .lf (.int .i64), .lf (.sl 1), .lf (.sl 8), .lf (.sl 0), .lf (.sl 9)], [.one (.ptr 1000 0), .agg [.h 2 [], .h 3 [0], .h 4 [0], .h 5 [0], .h 6 [], .h 7 []]], [(1000, .box [.h 0 [0], .h 1 []])], [.agg [.own 1001, .own 1002, .own 1003, .own 1004]], [(1000, .box [.h 0 [0], .h 1 []]), (1001, .sl 1 4 2 [0]), (1002, .sl 8 70 3 [0]), (1003, .sl 0 3 4 [0]), (1004, .sl 9 80 5 [0])], fun h => Src_FollowedB ⟨h.1, h.2.1⟩ ⟨h.2.2.1, h.2.2.2.1, h.2.2.2.2.1, h.2.2.2.2.2.1, h.2.2.2.2.2.2.1, h.2.2.2.2.2.2.2⟩⟩
theorem c24_ok : ConOk Try.prog T c24 := fn_ok (Φ := [c52_1, c53]) (rs := [.cell 4 32]) (an := .o) pOk repOk (AllC.mem (⟨c52_1_ok, c53_ok, trivial⟩ : AllC _ _ [c52_1, c53])) hmix Try.call24 Try.func24 rfl rfl (by kernel_rfl) (fun h => by kernel_rfl)

noncomputable def dynposref16_followB_L2 (a1 : Power) (x4 : Island) : Int × List Running →
  Option
    (Int × List Running ⊕
      List
        Running) := fun x5 =>
  if decide (x5.1 < len x4.Sources) = true then
    Option.bind (idx x4.Sources x5.1) fun x6 =>
      Option.bind (idx x4.Sources 0) fun x7 =>
        Option.bind (idx a1.Sources x7) fun x8 =>
          Option.bind (idx x4.Sources 0) fun x9 =>
            Option.bind (idx a1.Sources x9) fun x10 =>
              Option.bind (idx x5.2 x6) fun x11 =>
                Option.bind (idx x5.2 x6) fun x12 =>
                  Option.bind (setO x5.2 x6 (Running.mk x12.State x12.Since x8.Frequency x12.Phase)) fun x13 =>
                    Option.bind (idx x13 x6) fun x14 =>
                      Option.bind (idx x13 x6) fun x15 =>
                        Option.bind (setO x13 x6 (Running.mk x15.State x15.Since x15.Frequency x10.Phase)) fun x16 =>
                          some (.inl (W (x5.1 + 1), x16))
  else some (.inr x5.2)
noncomputable def dynposref16_followB_L1 (a1 : Power) (x2 : List
  Island) : Int × List Running →
  Option
    (Int × List Running ⊕
      List
        Running) := fun x3 =>
  if decide (x3.1 < len x2) = true then
    Option.bind (idx x2 x3.1) fun x4 =>
      Option.bind (loopO (dynposref16_followB_L2 a1 x4) (0, x3.2)) fun x17 =>
        some (.inl (W (x3.1 + 1), x17))
  else some (.inr x3.2)
noncomputable def dynposref16_followB (a0 : Board) (a1 : Power) : Option ((List Bool) × (List Running) × (List Int) × (List Part)) :=
  Option.bind (dynposref15_Copy a1) fun x1 =>
    Option.bind (dynposref15_Islands a0 a1) fun x2 =>
      Option.bind (loopO (dynposref16_followB_L1 a1 x2) (0, x1.2.1)) fun x18 =>
        some (x1.1, x18, x1.2.2.1, x1.2.2.2)
noncomputable def c76 : Con D := ⟨76, [.lf (.int .i64), .lf (.sl 4), .lf (.sl 5), .lf (.sl 6), .lf (.int .i64), .lf (.int .i64), .lf (.sl 1), .lf (.sl 8), .lf (.sl 0), .lf (.sl 9)], [.lf (.sl 1), .lf (.sl 8), .lf (.sl 0), .lf (.sl 9)], [.agg [.h 0 [], .h 1 [0], .h 2 [0], .h 3 [0], .h 4 [], .h 5 []], .agg [.h 6 [0], .h 7 [0], .h 8 [0], .h 9 [0]]], [], [.agg [.own 1000, .own 1001, .own 1002, .own 1003]], [(1000, .sl 1 4 0 [0]), (1001, .sl 8 70 1 [0]), (1002, .sl 0 3 2 [0]), (1003, .sl 9 80 3 [0])], fun h => dynposref16_followB ⟨h.1, h.2.1, h.2.2.1, h.2.2.2.1, h.2.2.2.2.1, h.2.2.2.2.2.1⟩ ⟨h.2.2.2.2.2.2.1, h.2.2.2.2.2.2.2.1, h.2.2.2.2.2.2.2.2.1, h.2.2.2.2.2.2.2.2.2⟩⟩
theorem c76_ok : ConOk Try.prog T c76 := fn_ok (Φ := [c25, c94]) (rs := [.cell 4 32]) (an := (.n none .o (.n none .o (.n none (.n none .o (.n none (.loop ⟨[.lf (.int .i64), .lf (.sl 8)], [(16, .one (.h 0 []))], [(2265, .sl 8 70 1 [0])], [2265], 2832⟩ true [(.exit 0, ⟨[.lf (.sl 8)], [], [(2265, .sl 8 70 0 [0])], [2265], 2832⟩)] (.n none .o (.n none .o (.n none (.n none (.n none .o (.n none .o (.n none (.loop ⟨[.lf (.int .i64), .lf (.sl 8)], [(23, .one (.h 0 []))], [(2265, .sl 8 70 1 [0])], [2265], 3474⟩ true [(.exit 2, ⟨[.lf (.sl 8)], [], [(2265, .sl 8 70 0 [0])], [2265], 3474⟩)] .o) .o))) .o) .o)))) .o)) .o)))) pOk repOk (AllC.mem (⟨c25_ok, c94_ok, trivial⟩ : AllC _ _ [c25, c94])) hmix Try.call76 Try.func76 rfl rfl (by kernel_rfl) (fun h => by kernel_rfl)

noncomputable def dynposref16_FollowB (a0 : Board) (a1 : Power) : Option (Int × (List Bool) × (List Running) × (List Int) × (List Part)) :=
  Option.bind (dynposref15_State a0 a1) fun x1 =>
    if (x1 != 0) = true then some (x1, [], [], [], [])
    else
      Option.bind (dynposref16_followB a0 a1) fun x2 =>
        some (0, x2.1, x2.2.1, x2.2.2.1, x2.2.2.2)
noncomputable def c52 : Con D := ⟨52, [.lf (.int .i64), .lf (.sl 4), .lf (.sl 5), .lf (.sl 6), .lf (.int .i64), .lf (.int .i64), .lf (.sl 1), .lf (.sl 8), .lf (.sl 0), .lf (.sl 9)], [.lf (.int .i64), .lf (.sl 1), .lf (.sl 8), .lf (.sl 0), .lf (.sl 9)], [.agg [.h 0 [], .h 1 [0], .h 2 [0], .h 3 [0], .h 4 [], .h 5 []], .agg [.h 6 [0], .h 7 [0], .h 8 [0], .h 9 [0]]], [], [.agg [.own 1000, .own 1001, .own 1002, .own 1003], .one (.h 0 [])], [(1000, .sl 1 4 1 [0]), (1001, .sl 8 70 2 [0]), (1002, .sl 0 3 3 [0]), (1003, .sl 9 80 4 [0])], fun h => dynposref16_FollowB ⟨h.1, h.2.1, h.2.2.1, h.2.2.2.1, h.2.2.2.2.1, h.2.2.2.2.2.1⟩ ⟨h.2.2.2.2.2.2.1, h.2.2.2.2.2.2.2.1, h.2.2.2.2.2.2.2.2.1, h.2.2.2.2.2.2.2.2.2⟩⟩
theorem c52_ok : ConOk Try.prog T c52 := fn_ok (Φ := [c48, c76]) (rs := [.cell 4 32, .tmp 5]) (an := .o) pOk repOk (AllC.mem (⟨c48_ok, c76_ok, trivial⟩ : AllC _ _ [c48, c76])) hmix Try.call52 Try.func52 rfl rfl (by kernel_rfl) (fun h => by kernel_rfl)

end Rx
end Go.Proofs.Ytcekgnnekooohaa
