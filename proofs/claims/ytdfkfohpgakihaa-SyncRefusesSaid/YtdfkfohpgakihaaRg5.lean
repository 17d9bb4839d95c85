/- Plain functions, walks. Written by a program (wip/gen). -/
import Derived.Test.YtdfkfohpgakihaaRt
import Derived.Test.YtdfkfohpgakihaaRg1
import Derived.Test.YtdfkfohpgakihaaRg2
import Derived.Test.YtdfkfohpgakihaaRg3
import Derived.Test.YtdfkfohpgakihaaRg4
set_option linter.unusedVariables false
set_option maxRecDepth 100000
namespace Go.Proofs.Ytdfkfohpgakihaa
open Go Go.RowKit Dp
namespace Rx

noncomputable def dynposlaw16_SyncNever_L1 (x2 : Int ×
  Int ×
    Int ×
      List Int ×
        Int ×
          List Breaker ×
            List Source ×
              List
                Consumer) (x3 : List Int ×
  Int ×
    List Breaker ×
      List Source ×
        List Consumer ×
          List Bool ×
            List Running ×
              List Int ×
                List
                  Part) : Int × List Int × Int × List Bool × List Running × List Int × List Part →
  Option
    (Int × List Int × Int × List Bool × List Running × List Int × List Part ⊕
      List Int × Int × List Bool × List Running × List Int × List Part ⊕
        Bool) := fun x4 =>
  if decide (x4.1 < 10) = true then
    Option.bind
      (Option.bind (Src_N (Src.mk x4.2.1 x4.2.2.1) 5) fun x5 =>
        Option.bind
          (if (x5.1 == 0) = true then some (x5.1 == 0) else some (x5.1 == 1))
          fun x6 =>
          Option.bind
            (if x6 = true then
              Option.bind (Src_N (Src.mk x5.2.1 x5.2.2) (W (len x3.2.2.1 + 1))) fun x15 =>
                Option.bind
                  (sync_Close
                    (Board.mk x2.1 x3.2.2.1 x3.2.2.2.1 x3.2.2.2.2.1 x2.2.1 x2.2.2.1)
                    (Power.mk x4.2.2.2.1 x4.2.2.2.2.1 x4.2.2.2.2.2.1
                      x4.2.2.2.2.2.2)
                    x15.1)
                  fun x16 =>
                  some
                    (x16.1, x15.2.1, x15.2.2, x16.2.1, x16.2.2.1, x16.2.2.2.1,
                      x16.2.2.2.2)
            else
              Option.bind
                (if (x5.1 == 2) = true then
                  Option.bind (Src_N (Src.mk x5.2.1 x5.2.2) (W (len x3.2.2.1 + 1))) fun x12 =>
                    Option.bind
                      (sync_Open
                        (Board.mk x2.1 x3.2.2.1 x3.2.2.2.1 x3.2.2.2.2.1 x2.2.1
                          x2.2.2.1)
                        (Power.mk x4.2.2.2.1 x4.2.2.2.2.1 x4.2.2.2.2.2.1
                          x4.2.2.2.2.2.2)
                        x12.1)
                      fun x13 =>
                      some
                        (x13.1, x12.2.1, x12.2.2, x13.2.1, x13.2.2.1, x13.2.2.2.1,
                          x13.2.2.2.2)
                else
                  Option.bind
                    (if (x5.1 == 3) = true then
                      Option.bind (Src_N (Src.mk x5.2.1 x5.2.2) (W (len x3.2.2.2.1 + 1)))
                        fun x8 =>
                        Option.bind (Src_N (Src.mk x8.2.1 x8.2.2) x2.1) fun x9 =>
                          Option.bind
                            (sync_Match
                              (Board.mk x2.1 x3.2.2.1 x3.2.2.2.1 x3.2.2.2.2.1 x2.2.1
                                x2.2.2.1)
                              (Power.mk x4.2.2.2.1 x4.2.2.2.2.1 x4.2.2.2.2.2.1
                                x4.2.2.2.2.2.2)
                              x8.1 x9.1)
                            fun x10 =>
                            some
                              (x10.1, x9.2.1, x9.2.2, x10.2.1, x10.2.2.1, x10.2.2.2.1,
                                x10.2.2.2.2)
                    else
                      Option.bind
                        (sync_Turn
                          (Board.mk x2.1 x3.2.2.1 x3.2.2.2.1 x3.2.2.2.2.1 x2.2.1
                            x2.2.2.1)
                          (Power.mk x4.2.2.2.1 x4.2.2.2.2.1 x4.2.2.2.2.2.1
                            x4.2.2.2.2.2.2))
                        fun x7 =>
                        some
                          (x7.1, x5.2.1, x5.2.2, x7.2.1, x7.2.2.1, x7.2.2.2.1,
                            x7.2.2.2.2))
                    fun x11 =>
                    some
                      (x11.1, x11.2.1, x11.2.2.1, x11.2.2.2.1, x11.2.2.2.2.1,
                        x11.2.2.2.2.2.1, x11.2.2.2.2.2.2))
                fun x14 =>
                some
                  (x14.1, x14.2.1, x14.2.2.1, x14.2.2.2.1, x14.2.2.2.2.1,
                    x14.2.2.2.2.2.1, x14.2.2.2.2.2.2))
            fun x17 =>
            if (x17.1 != 0) = true then
              some
                (.inl
                  (x17.2.1, x17.2.2.1, x4.2.2.2.1, x4.2.2.2.2.1, x4.2.2.2.2.2.1,
                    x4.2.2.2.2.2.2))
            else
              Option.bind
                (sync_Follow
                  (Board.mk x2.1 x3.2.2.1 x3.2.2.2.1 x3.2.2.2.2.1 x2.2.1 x2.2.2.1)
                  (Power.mk x17.2.2.2.1 x17.2.2.2.2.1 x17.2.2.2.2.2.1
                    x17.2.2.2.2.2.2))
                fun x18 =>
                Option.bind
                  (Option.bind
                    (sync_Bad
                      (Board.mk x2.1 x3.2.2.1 x3.2.2.2.1 x3.2.2.2.2.1 x2.2.1
                        x2.2.2.1)
                      (Power.mk x4.2.2.2.1 x4.2.2.2.2.1 x4.2.2.2.2.2.1
                        x4.2.2.2.2.2.2)
                      (Power.mk x17.2.2.2.1 x17.2.2.2.2.1 x17.2.2.2.2.2.1
                        x17.2.2.2.2.2.2))
                    fun x19 =>
                    if x19 = true then some true
                    else
                      if (x18.1 != 0) = true then some true
                      else
                        Option.bind
                          (dynposref15_Same
                            (Power.mk x18.2.1 x18.2.2.1 x18.2.2.2.1 x18.2.2.2.2)
                            (Power.mk x17.2.2.2.1 x17.2.2.2.2.1 x17.2.2.2.2.2.1
                              x17.2.2.2.2.2.2))
                          fun x20 => some !x20)
                  fun x21 =>
                  if x21 = true then some (.inr (.inr (.inr false)))
                  else
                    some
                      (.inl
                        (x17.2.1, x17.2.2.1, x17.2.2.2.1, x17.2.2.2.2.1,
                          x17.2.2.2.2.2.1, x17.2.2.2.2.2.2)))
      fun x22 =>
      Sum.elim
        (fun x23 =>
          some
            (.inl
              (W (x4.1 + 1), x23.1, x23.2.1, x23.2.2.1, x23.2.2.2.1,
                x23.2.2.2.2.1, x23.2.2.2.2.2)))
        (fun x24 => some x24) x22
  else
    some
      (.inr
        (.inl
          (x4.2.1, x4.2.2.1, x4.2.2.2.1, x4.2.2.2.2.1, x4.2.2.2.2.2.1,
            x4.2.2.2.2.2.2)))
noncomputable def dynposlaw16_SyncNever (a0 : (List Int)) : Option (Bool) :=
  Option.bind (dynposmake_New a0) fun x1 =>
    Option.bind (Src_Board (Src.mk x1.1 x1.2)) fun x2 =>
      Option.bind
        (Src_Followed (Src.mk x2.2.2.2.1 x2.2.2.2.2.1)
          (Board.mk x2.1 x2.2.2.2.2.2.1 x2.2.2.2.2.2.2.1 x2.2.2.2.2.2.2.2
            x2.2.1 x2.2.2.1))
        fun x3 =>
        Option.bind
          (loopO (dynposlaw16_SyncNever_L1 x2 x3)
            (0, x3.1, x3.2.1, x3.2.2.2.2.2.1, x3.2.2.2.2.2.2.1,
              x3.2.2.2.2.2.2.2.1, x3.2.2.2.2.2.2.2.2))
          fun x25 => Sum.elim (fun x26 => Option.bind dynposlaw16_sane fun x27 => some x27) (fun x28 => some x28) x25
noncomputable def c8 : Con D := ⟨8, [.lf (.sl 0)], [.lf .bool], [.one (.h 0 [0])], [], [.one (.h 0 [])], [], fun h => dynposlaw16_SyncNever h⟩
theorem c8_ok : ConOk Try.prog T c8 := fn_ok (Φ := [c9, c11, c12, c13, c17, c21, c22, c24, c25, c30, c31, c32]) (rs := [.tmp 2]) (an := (.n none .o (.n none .o (.n none .o (.n none .o (.n none (.n none .o (.n none (.f [2648, 2649, 2650, 2651] (.loop ⟨[.lf (.int .i64), .lf (.sl 0), .lf (.int .i64), .lf (.sl 1), .lf (.sl 9), .lf (.sl 0), .lf (.sl 10)], [(6, .one (.h 0 []))], [(2136, .box [.h 1 [0, 1], .h 2 []]), (2704, .box [.h 3 [0, 1], .h 4 [0, 1], .h 5 [0, 1], .h 6 [0, 1]])], [2136, 2704], 2960⟩ false [(.exit 0, ⟨[.lf (.sl 0), .lf (.int .i64), .lf (.sl 1), .lf (.sl 9), .lf (.sl 0), .lf (.sl 10)], [], [(2136, .box [.h 0 [0, 1], .h 1 []]), (2704, .box [.h 2 [0, 1], .h 3 [0, 1], .h 4 [0, 1], .h 5 [0, 1]])], [2136, 2704], 2960⟩)] (.n none .o (.n none (.n (some (false, [(.normal, ⟨[.lf (.sl 0), .lf (.int .i64), .lf (.sl 1), .lf (.sl 9), .lf (.sl 0), .lf (.sl 10)], [], [(2136, .box [.h 0 [0, 1], .h 1 []]), (2704, .box [.h 2 [0, 1], .h 3 [0, 1], .h 4 [0, 1], .h 5 [0, 1]])], [2136, 2704], 3159⟩)])) (.n none .o (.n none .o (.n none (.n none .o (.n none (.n none (.n none .o (.n (some (true, [(.normal, ⟨[.lf .bool], [(30, .one (.h 0 []))], [], [], 3543⟩)])) .o .o)) (.n (some (true, [(.normal, ⟨[.lf (.int .i64), .lf (.sl 0), .lf (.int .i64), .lf (.sl 1), .lf (.sl 9), .lf (.sl 0), .lf (.sl 10)], [(8, .one (.h 0 []))], [(2136, .box [.h 1 [0, 1], .h 2 []]), (3095, .box [.own 3544, .own 3545, .own 3546, .own 3547]), (3544, .sl 1 4 3 [1]), (3545, .sl 9 48 4 [1]), (3546, .sl 0 3 5 [1]), (3547, .sl 10 65 6 [1])], [2136, 3095], 3608⟩)])) .o (.n none .o (.n (some (true, [(.normal, ⟨[.lf (.int .i64), .lf (.sl 0), .lf (.int .i64), .lf (.sl 1), .lf (.sl 9), .lf (.sl 0), .lf (.sl 10)], [(8, .one (.h 0 []))], [(2136, .box [.h 1 [0, 1], .h 2 []]), (3095, .box [.own 3672, .own 3673, .own 3674, .own 3675]), (3672, .sl 1 4 3 [1]), (3673, .sl 9 48 4 [1]), (3674, .sl 0 3 5 [1]), (3675, .sl 10 65 6 [1])], [2136, 3095], 3736⟩)])) .o (.n none .o (.n (some (true, [(.normal, ⟨[.lf (.int .i64), .lf (.sl 0), .lf (.int .i64), .lf (.sl 1), .lf (.sl 9), .lf (.sl 0), .lf (.sl 10)], [(8, .one (.h 0 []))], [(2136, .box [.h 1 [0, 1], .h 2 []]), (3095, .box [.own 3800, .own 3801, .own 3802, .own 3803]), (3800, .sl 1 4 3 [1]), (3801, .sl 9 48 4 [1]), (3802, .sl 0 3 5 [1]), (3803, .sl 10 65 6 [1])], [2136, 3095], 3864⟩)])) .o .o)))))) .o)) (.n none .o (.n none .o (.n none (.n none (.r (some (true, [(.normal, ⟨[.lf .bool], [(90, .one (.any)), (91, .one (.any)), (94, .one (.any)), (95, .one (.any)), (96, .one (.any)), (97, .one (.any)), (98, .one (.h 0 []))], [], [], 4383⟩)])) .nil) .o) .o)))))) .o) .o)))) .o)) .o)))))) pOk repOk (AllC.mem (⟨c9_ok, c11_ok, c12_ok, c13_ok, c17_ok, c21_ok, c22_ok, c24_ok, c25_ok, c30_ok, c31_ok, c32_ok, trivial⟩ : AllC _ _ [c9, c11, c12, c13, c17, c21, c22, c24, c25, c30, c31, c32])) hmix Try.call8 Try.func8 rfl rfl (by kernel_rfl) (fun h => by kernel_rfl)

noncomputable def Src_Power_v1_L1 (a1 : Board) : Int × List Int × Int × List Bool →
  Option
    (Int × List Int × Int × List Bool ⊕
      List Int ×
        Int ×
          List
            Bool) := fun x1 =>
  if decide (x1.1 < len a1.Breakers) = true then
    Option.bind (Src_N (Src.mk x1.2.1 x1.2.2.1) 2) fun x2 =>
      Option.bind (app x1.2.2.2 [x2.1 == 1]) fun x3 =>
        some (.inl (W (x1.1 + 1), x2.2.1, x2.2.2, x3))
  else some (.inr (x1.2.1, x1.2.2.1, x1.2.2.2))
noncomputable def Src_Power_v1_L3 (a1 : Board) (x5 : Int ×
  List
    Bool) : Bool × Int × List Bool →
  Option
    (Bool × Int × List Bool ⊕
      List
        Bool) := fun x6 =>
  if decide (x6.2.1 < len a1.Breakers) = true then
    Option.bind (idx a1.Breakers x6.2.1) fun x7 =>
      Option.bind
        (if (x7.Kind == 3) = true then
          if (x7.B == x5.1) = true then Option.bind (idx x6.2.2 x6.2.1) fun x8 => some x8 else some false
        else some false)
        fun x9 =>
        Option.bind
          (if x9 = true then
            Option.bind (idx x6.2.2 x6.2.1) fun x10 =>
              Option.bind (idx x6.2.2 x6.2.1) fun x11 =>
                Option.bind (setO x6.2.2 x6.2.1 x6.1) fun x12 => some (false, x12)
          else some (x6.1, x6.2.2))
          fun x13 => some (.inl (x13.1, W (x6.2.1 + 1), x13.2))
  else some (.inr x6.2.2)
noncomputable def Src_Power_v1_L2 (a1 : Board) : Int × List Bool →
  Option
    (Int × List Bool ⊕
      List
        Bool) := fun x5 =>
  if decide (x5.1 < len a1.Consumers) = true then
    Option.bind (loopO (Src_Power_v1_L3 a1 x5) (true, 0, x5.2)) fun x14 =>
      some (.inl (W (x5.1 + 1), x14))
  else some (.inr x5.2)
noncomputable def Src_Power_v1_L4 (a1 : Board) : Int × List Int × Int × List Running →
  Option
    (Int × List Int × Int × List Running ⊕
      List Int ×
        Int ×
          List
            Running) := fun x16 =>
  if decide (x16.1 < len a1.Sources) = true then
    Option.bind
      (Src_Pick (Src.mk x16.2.1 x16.2.2.1)
        [0, 1, 2, 2, 2, 3])
      fun x17 =>
      Option.bind (Src_N (Src.mk x17.2.1 x17.2.2.1) 5) fun x18 =>
        Option.bind
          (Src_Pick (Src.mk x18.2.1 x18.2.2) [5000, 5000, 5005, 4950])
          fun x19 =>
          Option.bind
            (Src_Pick (Src.mk x19.2.1 x19.2.2.1)
              [0, 0, 40, 1800, 3590])
            fun x20 =>
            Option.bind (app x16.2.2.2 [Running.mk x17.1 x18.1 x19.1 x20.1]) fun x21 =>
              some (.inl (W (x16.1 + 1), x20.2.1, x20.2.2.1, x21))
  else some (.inr (x16.2.1, x16.2.2.1, x16.2.2.2))
noncomputable def Src_Power_v1_L5 (a1 : Board) : Int × List Int × Int × List Int →
  Option
    (Int × List Int × Int × List Int ⊕
      List Int ×
        Int ×
          List
            Int) := fun x23 =>
  if decide (x23.1 < len a1.Consumers) = true then
    Option.bind (idx a1.Consumers x23.1) fun x24 =>
      Option.bind (quoO x24.Load 3) fun x25 =>
        Option.bind (Src_Pick (Src.mk x23.2.1 x23.2.2.1) [x24.Load, x24.Load, x24.Least, x25]) fun x26 =>
          Option.bind (app x23.2.2.2 [x26.1]) fun x27 =>
            some (.inl (W (x23.1 + 1), x26.2.1, x26.2.2.1, x27))
  else some (.inr (x23.2.1, x23.2.2.1, x23.2.2.2))
noncomputable def Src_Power_v1_L6 (a1 : Board) : Int × List Int × Int × List Part →
  Option
    (Int × List Int × Int × List Part ⊕
      List Int ×
        Int ×
          List
            Part) := fun x29 =>
  if decide (x29.1 ≤ 4) = true then
    Option.bind (Src_N (Src.mk x29.2.1 x29.2.2.1) 5) fun x30 =>
      Option.bind
        (if (x30.1 == 4) = true then
          Option.bind (Src_N (Src.mk x30.2.1 x30.2.2) 4) fun x31 =>
            Option.bind (dynposref15_Exists a1 (Part.mk x29.1 x31.1)) fun x32 =>
              Option.bind
                (if x32 = true then Option.bind (app x29.2.2.2 [Part.mk x29.1 x31.1]) fun x33 => some x33
                else some x29.2.2.2)
                fun x34 => some (x31.2.1, x31.2.2, x34)
        else some (x30.2.1, x30.2.2, x29.2.2.2))
        fun x35 => some (.inl (W (x29.1 + 1), x35.1, x35.2.1, x35.2.2))
  else some (.inr (x29.2.1, x29.2.2.1, x29.2.2.2))
noncomputable def Src_Power_v1 (a0 : Src) (a1 : Board) : Option ((List Int) × Int × (List Bool) × (List Running) × (List Int) × (List Part)) :=
  Option.bind (loopO (Src_Power_v1_L1 a1) (0, a0.L, a0.At, [])) fun x4 =>
    Option.bind (loopO (Src_Power_v1_L2 a1) (0, x4.2.2)) fun x15 =>
      Option.bind (loopO (Src_Power_v1_L4 a1) (0, x4.1, x4.2.1, [])) fun x22 =>
        Option.bind (loopO (Src_Power_v1_L5 a1) (0, x22.1, x22.2.1, [])) fun x28 =>
          Option.bind (loopO (Src_Power_v1_L6 a1) (1, x28.1, x28.2.1, [])) fun x36 =>
            some (x36.1, x36.2.1, x15, x22.2.2, x28.2.2, x36.2.2)
noncomputable def c33_1 : Con D := ⟨33, [.lf (.sl 0), .lf (.int .i64), .lf (.int .i64), .lf (.sl 5), .lf (.sl 6), .lf (.sl 7), .lf (.int .i64), .lf (.int .i64)], [.lf (.sl 0), .lf (.int .i64), .lf (.sl 1), .lf (.sl 9), .lf (.sl 0), .lf (.sl 10)], [.one (.ptr 1000 0), .agg [.h 2 [], .h 3 [0], .h 4 [0], .h 5 [0], .h 6 [], .h 7 []]], [(1000, .box [.h 0 [0], .h 1 []])], [.agg [.own 1001, .own 1002, .own 1003, .own 1004]], [(1000, .box [.h 0 [0], .h 1 []]), (1001, .sl 1 4 2 []), (1002, .sl 9 48 3 []), (1003, .sl 0 3 4 []), (1004, .sl 10 65 5 [])], fun h => Src_Power_v1 ⟨h.1, h.2.1⟩ ⟨h.2.2.1, h.2.2.2.1, h.2.2.2.2.1, h.2.2.2.2.2.1, h.2.2.2.2.2.2.1, h.2.2.2.2.2.2.2⟩⟩
theorem c33_1_ok : ConOk Try.prog T c33_1 := fn_ok (Φ := [c31, c43, c50]) (rs := [.cell 4 34]) (an := (.n none .o (.n none .o (.n none (.n none .o (.n none (.loop ⟨[.lf (.int .i64), .lf (.sl 0), .lf (.int .i64), .lf (.sl 1)], [(17, .one (.h 0 []))], [(1000, .box [.h 1 [0], .h 2 []]), (2128, .box [.own 2448, .nils, .nils, .nils]), (2448, .sl 1 4 3 [])], [1000, 2128], 2512⟩ true [(.exit 0, ⟨[.lf (.sl 0), .lf (.int .i64), .lf (.sl 1)], [], [(1000, .box [.h 0 [0], .h 1 []]), (2128, .box [.own 2448, .nils, .nils, .nils]), (2448, .sl 1 4 2 [])], [1000, 2128], 2512⟩)] .o) .o)) (.n none (.n none .o (.n none (.loop ⟨[.lf (.int .i64), .lf (.sl 1)], [(31, .one (.h 0 []))], [(2448, .sl 1 4 1 [])], [2448], 2835⟩ true [(.exit 2, ⟨[.lf (.sl 1)], [], [(2448, .sl 1 4 0 [])], [2448], 2835⟩)] (.n none .o (.n none .o (.n none (.n none (.n none .o (.n none .o (.n none .o (.n none (.loop ⟨[.lf .bool, .lf (.int .i64), .lf (.sl 1)], [(7, .one (.h 0 [])), (37, .one (.h 1 []))], [(2448, .sl 1 4 2 [])], [2448], 3413⟩ true [(.exit 4, ⟨[.lf (.sl 1)], [], [(2448, .sl 1 4 0 [])], [2448], 3413⟩)] (.n none .o (.n none .o (.n none (.n none (.n none .o (.n none (.r (some (true, [(.normal, ⟨[.lf .bool], [(46, .one (.any)), (47, .one (.any)), (48, .one (.any)), (49, .one (.any)), (52, .one (.any)), (53, .one (.any)), (54, .one (.any)), (55, .one (.any)), (56, .one (.any)), (57, .one (.h 0 []))], [], [], 3928⟩)])) .nil) (.n (some (true, [(.normal, ⟨[.lf .bool, .lf (.sl 1)], [(7, .one (.h 0 []))], [(2448, .sl 1 4 1 [])], [2448], 3993⟩)])) .o .o))) .o) .o)))) .o)))) .o) .o)))) .o)) (.n none (.n none .o (.n none (.loop ⟨[.lf (.int .i64), .lf (.sl 0), .lf (.int .i64), .lf (.sl 9)], [(68, .one (.h 0 []))], [(1000, .box [.h 1 [0], .h 2 []]), (2128, .box [.own 2448, .own 3092, .nils, .nils]), (3092, .sl 9 48 3 [])], [1000, 2128], 3156⟩ true [(.exit 6, ⟨[.lf (.sl 0), .lf (.int .i64), .lf (.sl 9)], [], [(1000, .box [.h 0 [0], .h 1 []]), (2128, .box [.own 2448, .own 3092, .nils, .nils]), (3092, .sl 9 48 2 [])], [1000, 2128], 3156⟩)] .o) .o)) (.n none (.n none .o (.n none (.loop ⟨[.lf (.int .i64), .lf (.sl 0), .lf (.int .i64), .lf (.sl 0)], [(91, .one (.h 0 []))], [(1000, .box [.h 1 [0], .h 2 []]), (2128, .box [.own 2448, .own 3092, .own 3415, .nils]), (3415, .sl 0 3 3 [])], [1000, 2128], 3479⟩ true [(.exit 8, ⟨[.lf (.sl 0), .lf (.int .i64), .lf (.sl 0)], [], [(1000, .box [.h 0 [0], .h 1 []]), (2128, .box [.own 2448, .own 3092, .own 3415, .nils]), (3415, .sl 0 3 2 [])], [1000, 2128], 3479⟩)] .o) .o)) (.n none (.n none .o (.n none (.loop ⟨[.lf (.int .i64), .lf (.sl 0), .lf (.int .i64), .lf (.sl 10)], [(12, .one (.h 0 []))], [(1000, .box [.h 1 [0], .h 2 []]), (2128, .box [.own 2448, .own 3092, .own 3415, .own 3546]), (3546, .sl 10 65 3 [])], [1000, 2128], 3610⟩ true [(.exit 10, ⟨[.lf (.sl 0), .lf (.int .i64), .lf (.sl 10)], [], [(1000, .box [.h 0 [0], .h 1 []]), (2128, .box [.own 2448, .own 3092, .own 3415, .own 3546]), (3546, .sl 10 65 2 [])], [1000, 2128], 3610⟩)] (.n none .o (.n none (.n none (.n none .o (.n (some (true, [(.normal, ⟨[.lf (.sl 0), .lf (.int .i64), .lf (.sl 10)], [], [(1000, .box [.h 0 [0], .h 1 []]), (2128, .box [.own 2448, .own 3092, .own 3415, .own 3934]), (3934, .sl 10 65 2 [])], [1000, 2128, 3546], 3998⟩)])) (.n none .o (.n none .o (.n (some (true, [(.normal, ⟨[.lf (.sl 10)], [], [(2128, .box [.own 2448, .own 3092, .own 3415, .own 4510]), (4510, .sl 10 65 0 [])], [2128, 3546], 4574⟩)])) .o .o))) .o)) .o) .o))) .o)) .o)))))))) pOk repOk (AllC.mem (⟨c31_ok, c43_ok, c50_ok, trivial⟩ : AllC _ _ [c31, c43, c50])) hmix Try.call33 Try.func33 rfl rfl (by kernel_rfl) (fun h => by kernel_rfl)

noncomputable def dynposref16_follow_v1_L2 (x1 : List Bool ×
  List Running ×
    List Int ×
      List Part ×
        List Bool ×
          List Running ×
            List Int ×
              List
                Part) (x4 : Island) : Int × List Running →
  Option
    (Int × List Running ⊕
      List
        Running) := fun x5 =>
  if decide (x5.1 < len x4.Sources) = true then
    Option.bind (idx x4.Sources x5.1) fun x6 =>
      Option.bind (idx x4.Sources 0) fun x7 =>
        Option.bind (idx x1.2.1 x7) fun x8 =>
          Option.bind (idx x4.Sources 0) fun x9 =>
            Option.bind (idx x1.2.1 x9) fun x10 =>
              Option.bind (idx x5.2 x6) fun x11 =>
                Option.bind (idx x5.2 x6) fun x12 =>
                  Option.bind (setO x5.2 x6 (Running.mk x12.State x12.Since x8.Frequency x12.Phase)) fun x13 =>
                    Option.bind (idx x13 x6) fun x14 =>
                      Option.bind (idx x13 x6) fun x15 =>
                        Option.bind (setO x13 x6 (Running.mk x15.State x15.Since x15.Frequency x10.Phase)) fun x16 =>
                          some (.inl (W (x5.1 + 1), x16))
  else some (.inr x5.2)
noncomputable def dynposref16_follow_v1_L1 (x1 : List Bool ×
  List Running ×
    List Int ×
      List Part ×
        List Bool ×
          List Running ×
            List Int ×
              List
                Part) (x2 : List
  Island) : Int × List Running →
  Option
    (Int × List Running ⊕
      List
        Running) := fun x3 =>
  if decide (x3.1 < len x2) = true then
    Option.bind (idx x2 x3.1) fun x4 =>
      Option.bind (loopO (dynposref16_follow_v1_L2 x1 x4) (0, x3.2)) fun x17 =>
        some (.inl (W (x3.1 + 1), x17))
  else some (.inr x3.2)
noncomputable def dynposref16_follow_v1 (a0 : Board) (a1 : Power) : Option ((List Bool) × (List Running) × (List Int) × (List Part) × (List Bool) × (List Running) × (List Int) × (List Part)) :=
  Option.bind (dynposref15_Copy a1) fun x1 =>
    Option.bind (dynposref15_Islands a0 (Power.mk x1.1 x1.2.1 x1.2.2.1 x1.2.2.2.1)) fun x2 =>
      Option.bind (loopO (dynposref16_follow_v1_L1 x1 x2) (0, x1.2.2.2.2.2.1)) fun x18 =>
        some
          (x1.1, x1.2.1, x1.2.2.1, x1.2.2.2.1, x1.2.2.2.2.1, x18,
            x1.2.2.2.2.2.2.1, x1.2.2.2.2.2.2.2)
noncomputable def c53_1 : Con D := ⟨53, [.lf (.int .i64), .lf (.sl 5), .lf (.sl 6), .lf (.sl 7), .lf (.int .i64), .lf (.int .i64), .lf (.sl 1), .lf (.sl 9), .lf (.sl 0), .lf (.sl 10)], [.lf (.sl 1), .lf (.sl 9), .lf (.sl 0), .lf (.sl 10), .lf (.sl 1), .lf (.sl 9), .lf (.sl 0), .lf (.sl 10)], [.agg [.h 0 [], .h 1 [0], .h 2 [0], .h 3 [0], .h 4 [], .h 5 []], .agg [.own 1000, .own 1001, .own 1002, .own 1003]], [(1000, .sl 1 4 6 [0]), (1001, .sl 9 48 7 [0]), (1002, .sl 0 3 8 [0]), (1003, .sl 10 65 9 [0])], [.agg [.own 1004, .own 1005, .own 1006, .own 1007]], [(1000, .sl 1 4 0 [0]), (1001, .sl 9 48 1 [0]), (1002, .sl 0 3 2 [0]), (1003, .sl 10 65 3 [0]), (1004, .sl 1 4 4 [0]), (1005, .sl 9 48 5 [0]), (1006, .sl 0 3 6 [0]), (1007, .sl 10 65 7 [0])], fun h => dynposref16_follow_v1 ⟨h.1, h.2.1, h.2.2.1, h.2.2.2.1, h.2.2.2.2.1, h.2.2.2.2.2.1⟩ ⟨h.2.2.2.2.2.2.1, h.2.2.2.2.2.2.2.1, h.2.2.2.2.2.2.2.2.1, h.2.2.2.2.2.2.2.2.2⟩⟩
theorem c53_1_ok : ConOk Try.prog T c53_1 := fn_ok (Φ := [c14, c84]) (rs := [.cell 4 34]) (an := (.n none .o (.n none .o (.n none (.n none .o (.n none (.loop ⟨[.lf (.int .i64), .lf (.sl 9)], [(16, .one (.h 0 []))], [(2265, .sl 9 48 1 [0])], [2265], 2832⟩ true [(.exit 0, ⟨[.lf (.sl 9)], [], [(2265, .sl 9 48 0 [0])], [2265], 2832⟩)] (.n none .o (.n none .o (.n none (.n none (.n none .o (.n none .o (.n none (.loop ⟨[.lf (.int .i64), .lf (.sl 9)], [(23, .one (.h 0 []))], [(2265, .sl 9 48 1 [0])], [2265], 3474⟩ true [(.exit 2, ⟨[.lf (.sl 9)], [], [(2265, .sl 9 48 0 [0])], [2265], 3474⟩)] .o) .o))) .o) .o)))) .o)) .o)))) pOk repOk (AllC.mem (⟨c14_ok, c84_ok, trivial⟩ : AllC _ _ [c14, c84])) hmix Try.call53 Try.func53 rfl rfl (by kernel_rfl) (fun h => by kernel_rfl)

noncomputable def dynposref16_Follow_v1 (a0 : Board) (a1 : Power) : Option (Int × (List Bool) × (List Running) × (List Int) × (List Part) × (List Bool) × (List Running) × (List Int) × (List Part)) :=
  Option.bind (dynposref15_State a0 a1) fun x1 =>
    if (x1 != 0) = true then some (x1, a1.Closed, a1.Sources, a1.Limits, a1.Broken, [], [], [], [])
    else
      Option.bind (dynposref16_follow_v1 a0 a1) fun x2 =>
        some
          (0, x2.1, x2.2.1, x2.2.2.1, x2.2.2.2.1, x2.2.2.2.2.1,
            x2.2.2.2.2.2.1, x2.2.2.2.2.2.2.1, x2.2.2.2.2.2.2.2)
noncomputable def c28_1 : Con D := ⟨28, [.lf (.int .i64), .lf (.sl 5), .lf (.sl 6), .lf (.sl 7), .lf (.int .i64), .lf (.int .i64), .lf (.sl 1), .lf (.sl 9), .lf (.sl 0), .lf (.sl 10)], [.lf (.int .i64), .lf (.sl 1), .lf (.sl 9), .lf (.sl 0), .lf (.sl 10), .lf (.sl 1), .lf (.sl 9), .lf (.sl 0), .lf (.sl 10)], [.agg [.h 0 [], .h 1 [0], .h 2 [0], .h 3 [0], .h 4 [], .h 5 []], .agg [.own 1000, .own 1001, .own 1002, .own 1003]], [(1000, .sl 1 4 6 [0]), (1001, .sl 9 48 7 [0]), (1002, .sl 0 3 8 [0]), (1003, .sl 10 65 9 [0])], [.agg [.own 1004, .own 1005, .own 1006, .own 1007], .one (.h 0 [])], [(1000, .sl 1 4 1 [0]), (1001, .sl 9 48 2 [0]), (1002, .sl 0 3 3 [0]), (1003, .sl 10 65 4 [0]), (1004, .sl 1 4 5 [0]), (1005, .sl 9 48 6 [0]), (1006, .sl 0 3 7 [0]), (1007, .sl 10 65 8 [0])], fun h => dynposref16_Follow_v1 ⟨h.1, h.2.1, h.2.2.1, h.2.2.2.1, h.2.2.2.2.1, h.2.2.2.2.2.1⟩ ⟨h.2.2.2.2.2.2.1, h.2.2.2.2.2.2.2.1, h.2.2.2.2.2.2.2.2.1, h.2.2.2.2.2.2.2.2.2⟩⟩
theorem c28_1_ok : ConOk Try.prog T c28_1 := fn_ok (Φ := [c27, c53_1]) (rs := [.cell 4 34, .tmp 5]) (an := .o) pOk repOk (AllC.mem (⟨c27_ok, c53_1_ok, trivial⟩ : AllC _ _ [c27, c53_1])) hmix Try.call28 Try.func28 rfl rfl (by kernel_rfl) (fun h => by kernel_rfl)

noncomputable def Src_Followed_v1 (a0 : Src) (a1 : Board) : Option ((List Int) × Int × (List Bool) × (List Running) × (List Int) × (List Part)) :=
  Option.bind (Src_Power_v1 a0 a1) fun x1 =>
    Option.bind
      (dynposref16_Follow_v1 a1
        (Power.mk x1.2.2.1 x1.2.2.2.1 x1.2.2.2.2.1 x1.2.2.2.2.2))
      fun x2 =>
      some
        (x1.1, x1.2.1, x2.2.2.2.2.2.1, x2.2.2.2.2.2.2.1,
          x2.2.2.2.2.2.2.2.1, x2.2.2.2.2.2.2.2.2)
noncomputable def c22_1 : Con D := ⟨22, [.lf (.sl 0), .lf (.int .i64), .lf (.int .i64), .lf (.sl 5), .lf (.sl 6), .lf (.sl 7), .lf (.int .i64), .lf (.int .i64)], [.lf (.sl 0), .lf (.int .i64), .lf (.sl 1), .lf (.sl 9), .lf (.sl 0), .lf (.sl 10)], [.one (.ptr 1000 0), .agg [.h 2 [], .h 3 [0], .h 4 [0], .h 5 [0], .h 6 [], .h 7 []]], [(1000, .box [.h 0 [0], .h 1 []])], [.agg [.own 1001, .own 1002, .own 1003, .own 1004]], [(1000, .box [.h 0 [0], .h 1 []]), (1001, .sl 1 4 2 [0]), (1002, .sl 9 48 3 [0]), (1003, .sl 0 3 4 [0]), (1004, .sl 10 65 5 [0])], fun h => Src_Followed_v1 ⟨h.1, h.2.1⟩ ⟨h.2.2.1, h.2.2.2.1, h.2.2.2.2.1, h.2.2.2.2.2.1, h.2.2.2.2.2.2.1, h.2.2.2.2.2.2.2⟩⟩
theorem c22_1_ok : ConOk Try.prog T c22_1 := fn_ok (Φ := [c28_1, c33_1]) (rs := [.cell 4 34]) (an := .o) pOk repOk (AllC.mem (⟨c28_1_ok, c33_1_ok, trivial⟩ : AllC _ _ [c28_1, c33_1])) hmix Try.call22 Try.func22 rfl rfl (by kernel_rfl) (fun h => by kernel_rfl)

noncomputable def dynposref15_Copy_v1 (a0 : Power) : Option ((List Bool) × (List Running) × (List Int) × (List Part)) :=
  Option.bind (app [] a0.Closed) fun x1 =>
    Option.bind (app [] a0.Sources) fun x2 =>
      Option.bind (app [] a0.Limits) fun x3 => Option.bind (app [] a0.Broken) fun x4 => some (x1, x2, x3, x4)
noncomputable def c84_1 : Con D := ⟨84, [.lf (.sl 1), .lf (.sl 9), .lf (.sl 0), .lf (.sl 10)], [.lf (.sl 1), .lf (.sl 9), .lf (.sl 0), .lf (.sl 10)], [.agg [.h 0 [0], .h 1 [0], .h 2 [0], .h 3 [0]]], [], [.agg [.own 1000, .own 1001, .own 1002, .own 1003]], [(1000, .sl 1 4 0 [0]), (1001, .sl 9 48 1 [0]), (1002, .sl 0 3 2 [0]), (1003, .sl 10 65 3 [0])], fun h => dynposref15_Copy_v1 ⟨h.1, h.2.1, h.2.2.1, h.2.2.2⟩⟩
theorem c84_1_ok : ConOk Try.prog T c84_1 := fn_ok (Φ := []) (rs := [.cell 2 34]) (an := .o) pOk repOk (AllC.mem (l := []) trivial) hmix Try.call84 Try.func84 rfl rfl (by kernel_rfl) (fun h => by kernel_rfl)

noncomputable def dynposref16_follow_v2_L2 (a1 : Power) (x4 : Island) : Int × List Running →
  Option
    (Int × List Running ⊕
      List
        Running) := fun x5 =>
  if decide (x5.1 < len x4.Sources) = true then
    Option.bind (idx x4.Sources x5.1) fun x6 =>
      Option.bind (idx x4.Sources 0) fun x7 =>
        Option.bind (idx a1.Sources x7) fun x8 =>
          Option.bind (idx x4.Sources 0) fun x9 =>
            Option.bind (idx a1.Sources x9) fun x10 =>
              Option.bind (idx x5.2 x6) fun x11 =>
                Option.bind (idx x5.2 x6) fun x12 =>
                  Option.bind (setO x5.2 x6 (Running.mk x12.State x12.Since x8.Frequency x12.Phase)) fun x13 =>
                    Option.bind (idx x13 x6) fun x14 =>
                      Option.bind (idx x13 x6) fun x15 =>
                        Option.bind (setO x13 x6 (Running.mk x15.State x15.Since x15.Frequency x10.Phase)) fun x16 =>
                          some (.inl (W (x5.1 + 1), x16))
  else some (.inr x5.2)
noncomputable def dynposref16_follow_v2_L1 (a1 : Power) (x2 : List
  Island) : Int × List Running →
  Option
    (Int × List Running ⊕
      List
        Running) := fun x3 =>
  if decide (x3.1 < len x2) = true then
    Option.bind (idx x2 x3.1) fun x4 =>
      Option.bind (loopO (dynposref16_follow_v2_L2 a1 x4) (0, x3.2)) fun x17 =>
        some (.inl (W (x3.1 + 1), x17))
  else some (.inr x3.2)
noncomputable def dynposref16_follow_v2 (a0 : Board) (a1 : Power) : Option ((List Bool) × (List Running) × (List Int) × (List Part)) :=
  Option.bind (dynposref15_Copy_v1 a1) fun x1 =>
    Option.bind (dynposref15_Islands a0 a1) fun x2 =>
      Option.bind (loopO (dynposref16_follow_v2_L1 a1 x2) (0, x1.2.1)) fun x18 =>
        some (x1.1, x18, x1.2.2.1, x1.2.2.2)
noncomputable def c53_2 : Con D := ⟨53, [.lf (.int .i64), .lf (.sl 5), .lf (.sl 6), .lf (.sl 7), .lf (.int .i64), .lf (.int .i64), .lf (.sl 1), .lf (.sl 9), .lf (.sl 0), .lf (.sl 10)], [.lf (.sl 1), .lf (.sl 9), .lf (.sl 0), .lf (.sl 10)], [.agg [.h 0 [], .h 1 [0], .h 2 [0], .h 3 [0], .h 4 [], .h 5 []], .agg [.h 6 [0], .h 7 [0], .h 8 [0], .h 9 [0]]], [], [.agg [.own 1000, .own 1001, .own 1002, .own 1003]], [(1000, .sl 1 4 0 [0]), (1001, .sl 9 48 1 [0]), (1002, .sl 0 3 2 [0]), (1003, .sl 10 65 3 [0])], fun h => dynposref16_follow_v2 ⟨h.1, h.2.1, h.2.2.1, h.2.2.2.1, h.2.2.2.2.1, h.2.2.2.2.2.1⟩ ⟨h.2.2.2.2.2.2.1, h.2.2.2.2.2.2.2.1, h.2.2.2.2.2.2.2.2.1, h.2.2.2.2.2.2.2.2.2⟩⟩
theorem c53_2_ok : ConOk Try.prog T c53_2 := fn_ok (Φ := [c14, c84_1]) (rs := [.cell 4 34]) (an := (.n none .o (.n none .o (.n none (.n none .o (.n none (.loop ⟨[.lf (.int .i64), .lf (.sl 9)], [(16, .one (.h 0 []))], [(2265, .sl 9 48 1 [0])], [2265], 2832⟩ true [(.exit 0, ⟨[.lf (.sl 9)], [], [(2265, .sl 9 48 0 [0])], [2265], 2832⟩)] (.n none .o (.n none .o (.n none (.n none (.n none .o (.n none .o (.n none (.loop ⟨[.lf (.int .i64), .lf (.sl 9)], [(23, .one (.h 0 []))], [(2265, .sl 9 48 1 [0])], [2265], 3474⟩ true [(.exit 2, ⟨[.lf (.sl 9)], [], [(2265, .sl 9 48 0 [0])], [2265], 3474⟩)] .o) .o))) .o) .o)))) .o)) .o)))) pOk repOk (AllC.mem (⟨c14_ok, c84_1_ok, trivial⟩ : AllC _ _ [c14, c84_1])) hmix Try.call53 Try.func53 rfl rfl (by kernel_rfl) (fun h => by kernel_rfl)

noncomputable def dynposref16_Follow_v2 (a0 : Board) (a1 : Power) : Option (Int × (List Bool) × (List Running) × (List Int) × (List Part)) :=
  Option.bind (dynposref15_State a0 a1) fun x1 =>
    if (x1 != 0) = true then some (x1, [], [], [], [])
    else
      Option.bind (dynposref16_follow_v2 a0 a1) fun x2 =>
        some (0, x2.1, x2.2.1, x2.2.2.1, x2.2.2.2)
noncomputable def c28_2 : Con D := ⟨28, [.lf (.int .i64), .lf (.sl 5), .lf (.sl 6), .lf (.sl 7), .lf (.int .i64), .lf (.int .i64), .lf (.sl 1), .lf (.sl 9), .lf (.sl 0), .lf (.sl 10)], [.lf (.int .i64), .lf (.sl 1), .lf (.sl 9), .lf (.sl 0), .lf (.sl 10)], [.agg [.h 0 [], .h 1 [0], .h 2 [0], .h 3 [0], .h 4 [], .h 5 []], .agg [.h 6 [0], .h 7 [0], .h 8 [0], .h 9 [0]]], [], [.agg [.own 1000, .own 1001, .own 1002, .own 1003], .one (.h 0 [])], [(1000, .sl 1 4 1 [0]), (1001, .sl 9 48 2 [0]), (1002, .sl 0 3 3 [0]), (1003, .sl 10 65 4 [0])], fun h => dynposref16_Follow_v2 ⟨h.1, h.2.1, h.2.2.1, h.2.2.2.1, h.2.2.2.2.1, h.2.2.2.2.2.1⟩ ⟨h.2.2.2.2.2.2.1, h.2.2.2.2.2.2.2.1, h.2.2.2.2.2.2.2.2.1, h.2.2.2.2.2.2.2.2.2⟩⟩
theorem c28_2_ok : ConOk Try.prog T c28_2 := fn_ok (Φ := [c27, c53_2]) (rs := [.cell 4 34, .tmp 5]) (an := .o) pOk repOk (AllC.mem (⟨c27_ok, c53_2_ok, trivial⟩ : AllC _ _ [c27, c53_2])) hmix Try.call28 Try.func28 rfl rfl (by kernel_rfl) (fun h => by kernel_rfl)

noncomputable def sync_set_v1_L1 (a1 : List
  Int) (a2 : Running) : Int × List Running →
  Option
    (Int × List Running ⊕
      List
        Running) := fun x1 =>
  if decide (x1.1 < len a1) = true then
    Option.bind (idx a1 x1.1) fun x2 =>
      Option.bind (idx x1.2 x2) fun x3 =>
        Option.bind (idx x1.2 x2) fun x4 =>
          Option.bind (setO x1.2 x2 (Running.mk x4.State x4.Since a2.Frequency x4.Phase)) fun x5 =>
            Option.bind (idx x5 x2) fun x6 =>
              Option.bind (idx x5 x2) fun x7 =>
                Option.bind (setO x5 x2 (Running.mk x7.State x7.Since x7.Frequency a2.Phase)) fun x8 =>
                  some (.inl (W (x1.1 + 1), x8))
  else some (.inr x1.2)
noncomputable def sync_set_v1 (a0 : Power) (a1 : (List Int)) (a2 : Running) : Option ((List Running)) := Option.bind (loopO (sync_set_v1_L1 a1 a2) (0, a0.Sources)) fun x9 => some x9
noncomputable def c37_1 : Con D := ⟨37, [.lf (.sl 1), .lf (.sl 9), .lf (.sl 0), .lf (.sl 10), .lf (.sl 0), .lf (.int .i64), .lf (.int .i64), .lf (.int .i64), .lf (.int .i64)], [.lf (.sl 9)], [.agg [.h 0 [0], .own 1000, .h 2 [0], .h 3 [0]], .one (.h 4 [0]), .agg [.h 5 [], .h 6 [], .h 7 [], .h 8 []]], [(1000, .sl 9 48 1 [0])], [], [(1000, .sl 9 48 0 [0])], fun h => sync_set_v1 ⟨h.1, h.2.1, h.2.2.1, h.2.2.2.1⟩ h.2.2.2.2.1 ⟨h.2.2.2.2.2.1, h.2.2.2.2.2.2.1, h.2.2.2.2.2.2.2.1, h.2.2.2.2.2.2.2.2⟩⟩
theorem c37_1_ok : ConOk Try.prog T c37_1 := fn_ok (Φ := []) (rs := []) (an := (.n none .o (.n none .o (.n none (.loop ⟨[.lf (.int .i64), .lf (.sl 9)], [(10, .one (.h 0 []))], [(1000, .sl 9 48 1 [0])], [1000], 2384⟩ true [(.exit 0, ⟨[.lf (.sl 9)], [], [(1000, .sl 9 48 0 [0])], [1000], 2384⟩)] .o) .o)))) pOk repOk (AllC.mem (l := []) trivial) hmix Try.call37 Try.func37 rfl rfl (by kernel_rfl) (fun h => by kernel_rfl)

noncomputable def Src_Pick_v1 (a0 : Src) (a1 : (List Int)) : Option (Int × (List Int) × Int) :=
  Option.bind (Src_N a0 (len a1)) fun x1 => Option.bind (idx a1 x1.1) fun x2 => some (x2, x1.2.1, x1.2.2)
noncomputable def c43_1 : Con D := ⟨43, [.lf (.sl 0), .lf (.int .i64), .lf (.sl 0)], [.lf (.int .i64), .lf (.sl 0), .lf (.int .i64)], [.one (.ptr 1000 0), .one (.h 2 [0])], [(1000, .box [.h 0 [0], .h 1 []])], [.one (.h 0 [])], [(1000, .box [.h 1 [0], .h 2 []])], fun h => Src_Pick_v1 ⟨h.1, h.2.1⟩ h.2.2⟩
theorem c43_1_ok : ConOk Try.prog T c43_1 := fn_ok (Φ := [c31]) (rs := [.tmp 4]) (an := .o) pOk repOk (AllC.mem (⟨c31_ok, trivial⟩ : AllC _ _ [c31])) hmix Try.call43 Try.func43 rfl rfl (by kernel_rfl) (fun h => by kernel_rfl)

end Rx
end Go.Proofs.Ytdfkfohpgakihaa
