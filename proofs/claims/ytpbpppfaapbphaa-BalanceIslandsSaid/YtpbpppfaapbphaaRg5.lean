/- Plain functions, walks. Written by a program (wip/gen). -/
import Derived.Test.YtpbpppfaapbphaaRt
import Derived.Test.YtpbpppfaapbphaaRg1
import Derived.Test.YtpbpppfaapbphaaRg3
import Derived.Test.YtpbpppfaapbphaaRg4
set_option linter.unusedVariables false
set_option maxRecDepth 100000
namespace Go.Proofs.Ytpbpppfaapbphaa
open Go Go.RowKit Dp
namespace Rx

noncomputable def dynposlaw17_BalanceIslands_L2 (x2 : Int ×
  Int ×
    Int ×
      List Int ×
        Int ×
          List Breaker ×
            List Source ×
              List
                Consumer) (x3 : List Int ×
  Int ×
    List Breaker ×
      List Source ×
        List Consumer ×
          List Bool ×
            List Running ×
              List Int ×
                List
                  Part) (x4 : Int ×
  List
    Int) (x8 : Island) : Int × Int →
  Option
    (Int × Int ⊕
      Int ⊕
        Int ⊕
          Unit ⊕
            Bool) := fun x9 =>
  if decide (x9.2 < len x8.Sources) = true then
    Option.bind (idx x8.Sources x9.2) fun x10 =>
      Option.bind (idx x4.2 x10) fun x11 =>
        Option.bind
          (Option.bind (idx x8.Buses 0) fun x12 =>
            Option.bind
              (balance_Overloaded
                (Board.mk x2.1 x3.2.2.1 x3.2.2.2.1 x3.2.2.2.2.1 x2.2.1 x2.2.2.1)
                (Power.mk x3.2.2.2.2.2.1 x3.2.2.2.2.2.2.1 x3.2.2.2.2.2.2.2.1
                  x3.2.2.2.2.2.2.2.2)
                x12)
              fun x13 =>
              if (!x13) = true then
                Option.bind (idx x4.2 x10) fun x14 =>
                  Option.bind (idx x3.2.2.2.1 x10) fun x15 => some (decide (x14 > x15.Rating))
              else some false)
          fun x16 =>
          if x16 = true then some (.inr (.inr (.inr (.inr false))))
          else some (.inl (W (x9.1 + x11), W (x9.2 + 1)))
  else some (.inr (.inl x9.1))
noncomputable def dynposlaw17_BalanceIslands_L1 (x2 : Int ×
  Int ×
    Int ×
      List Int ×
        Int ×
          List Breaker ×
            List Source ×
              List
                Consumer) (x3 : List Int ×
  Int ×
    List Breaker ×
      List Source ×
        List Consumer ×
          List Bool ×
            List Running ×
              List Int ×
                List
                  Part) (x4 : Int ×
  List
    Int) (x6 : List
  Island) : Int →
  Option
    (Int ⊕
      Unit ⊕
        Bool) := fun x7 =>
  if decide (x7 < len x6) = true then
    Option.bind (idx x6 x7) fun x8 =>
      Option.bind (loopO (dynposlaw17_BalanceIslands_L2 x2 x3 x4 x8) (0, 0)) fun x17 =>
        Sum.elim
          (fun x18 =>
            Option.bind (idx x8.Buses 0) fun x19 =>
              Option.bind
                (balance_Load
                  (Board.mk x2.1 x3.2.2.1 x3.2.2.2.1 x3.2.2.2.2.1 x2.2.1 x2.2.2.1)
                  (Power.mk x3.2.2.2.2.2.1 x3.2.2.2.2.2.2.1 x3.2.2.2.2.2.2.2.1
                    x3.2.2.2.2.2.2.2.2)
                  x19)
                fun x20 =>
                if (x18 != x20) = true then some (.inr (.inr false)) else some (.inl (W (x7 + 1))))
          (fun x21 => some x21) x17
  else some (.inr (.inl ()))
noncomputable def dynposlaw17_BalanceIslands_L3 (x2 : Int ×
  Int ×
    Int ×
      List Int ×
        Int ×
          List Breaker ×
            List Source ×
              List
                Consumer) (x3 : List Int ×
  Int ×
    List Breaker ×
      List Source ×
        List Consumer ×
          List Bool ×
            List Running ×
              List Int ×
                List
                  Part) (x4 : Int ×
  List
    Int) : Int →
  Option
    (Int ⊕
      Unit ⊕
        Bool) := fun x24 =>
  if decide (x24 < len x4.2) = true then
    Option.bind
      (dynposref15_Connected
        (Board.mk x2.1 x3.2.2.1 x3.2.2.2.1 x3.2.2.2.2.1 x2.2.1 x2.2.2.1)
        (Power.mk x3.2.2.2.2.2.1 x3.2.2.2.2.2.2.1 x3.2.2.2.2.2.2.2.1
          x3.2.2.2.2.2.2.2.2)
        x24)
      fun x25 =>
      Option.bind
        (if (!x25.2) = true then Option.bind (idx x4.2 x24) fun x26 => some (x26 != 0) else some false)
        fun x27 => if x27 = true then some (.inr (.inr false)) else some (.inl (W (x24 + 1)))
  else some (.inr (.inl ()))
noncomputable def dynposlaw17_BalanceIslands (a0 : (List Int)) : Option (Bool) :=
  Option.bind (dynposmake_New a0) fun x1 =>
    Option.bind (Src_Board (Src.mk x1.1 x1.2)) fun x2 =>
      Option.bind
        (Src_Power (Src.mk x2.2.2.2.1 x2.2.2.2.2.1)
          (Board.mk x2.1 x2.2.2.2.2.2.1 x2.2.2.2.2.2.2.1 x2.2.2.2.2.2.2.2
            x2.2.1 x2.2.2.1))
        fun x3 =>
        Option.bind
          (balance_Of
            (Board.mk x2.1 x3.2.2.1 x3.2.2.2.1 x3.2.2.2.2.1 x2.2.1 x2.2.2.1)
            (Power.mk x3.2.2.2.2.2.1 x3.2.2.2.2.2.2.1 x3.2.2.2.2.2.2.2.1
              x3.2.2.2.2.2.2.2.2))
          fun x4 =>
          Option.bind
            (if (x4.1 != 0) = true then some true else some (len x4.2 != len x3.2.2.2.1))
            fun x5 =>
            if x5 = true then some false
            else
              Option.bind
                (dynposref15_Islands
                  (Board.mk x2.1 x3.2.2.1 x3.2.2.2.1 x3.2.2.2.2.1 x2.2.1 x2.2.2.1)
                  (Power.mk x3.2.2.2.2.2.1 x3.2.2.2.2.2.2.1 x3.2.2.2.2.2.2.2.1
                    x3.2.2.2.2.2.2.2.2))
                fun x6 =>
                Option.bind (loopO (dynposlaw17_BalanceIslands_L1 x2 x3 x4 x6) 0) fun x22 =>
                  Sum.elim
                    (fun x23 =>
                      Option.bind (loopO (dynposlaw17_BalanceIslands_L3 x2 x3 x4) 0) fun x28 =>
                        Sum.elim (fun x29 => Option.bind dynposlaw17_sane fun x30 => some x30) (fun x31 => some x31)
                          x28)
                    (fun x32 => some x32) x22
noncomputable def c4 : Con D := ⟨4, [.lf (.sl 0)], [.lf .bool], [.one (.h 0 [0])], [], [.one (.h 0 [])], [], fun h => dynposlaw17_BalanceIslands h⟩
theorem c4_ok : ConOk Try.prog T c4 := fn_ok (Φ := [c6, c7, c8, c9, c19, c21, c25, c27, c28]) (rs := [.tmp 2]) (an := (.n none .o (.n none .o (.n none .o (.n none .o (.n none .o (.n none (.n none (.r (some (true, [(.normal, ⟨[.lf .bool], [(38, .one (.h 0 []))], [], [], 3408⟩)])) .nil) .o) (.n none (.n none .o (.n none (.loop ⟨[.lf (.int .i64)], [(43, .one (.h 0 []))], [], [], 3793⟩ false [(.exit 0, ⟨[], [], [], [], 3793⟩)] (.n none .o (.n none .o (.n none (.n none (.n none .o (.n none .o (.n none (.n none .o (.n none (.loop ⟨[.lf (.int .i64), .lf (.int .i64)], [(10, .one (.h 0 [])), (50, .one (.h 1 []))], [], [], 4498⟩ false [(.exit 2, ⟨[.lf (.int .i64)], [(10, .one (.h 0 []))], [], [], 4498⟩)] (.n none .o (.n none .o (.n none (.n none (.n none .o (.n none .o (.n none (.r (some (true, [(.normal, ⟨[.lf .bool], [(69, .one (.any)), (70, .one (.any)), (71, .one (.any)), (72, .one (.any)), (73, .one (.any)), (74, .one (.any)), (75, .one (.any)), (76, .one (.any)), (77, .one (.any)), (78, .one (.any)), (79, .one (.any)), (80, .one (.h 0 []))], [], [], 5268⟩)])) .nil) .o))) .o) .o)))) .o)) .o))) .o) .o)))) .o)) (.n none (.n none .o (.n none (.loop ⟨[.lf (.int .i64)], [(94, .one (.h 0 []))], [], [], 4049⟩ false [(.exit 4, ⟨[], [], [], [], 4049⟩)] (.n none .o (.n none .o (.n none (.n none (.n none .o (.n none .o (.n none (.r (some (true, [(.normal, ⟨[.lf .bool], [(107, .one (.any)), (108, .one (.any)), (109, .one (.any)), (110, .one (.any)), (111, .one (.any)), (112, .one (.h 0 []))], [], [], 4882⟩)])) .nil) .o))) .o) .o)))) .o)) .o))))))))) pOk repOk (AllC.mem (⟨c6_ok, c7_ok, c8_ok, c9_ok, c19_ok, c21_ok, c25_ok, c27_ok, c28_ok, trivial⟩ : AllC _ _ [c6, c7, c8, c9, c19, c21, c25, c27, c28])) hmix Try.call4 Try.func4 rfl rfl (by kernel_rfl) (fun h => by kernel_rfl)

noncomputable def Src_Power_v1_L1 (a1 : Board) : Int × List Int × Int × List Bool →
  Option
    (Int × List Int × Int × List Bool ⊕
      List Int ×
        Int ×
          List
            Bool) := fun x1 =>
  if decide (x1.1 < len a1.Breakers) = true then
    Option.bind (Src_N (Src.mk x1.2.1 x1.2.2.1) 2) fun x2 =>
      Option.bind (app x1.2.2.2 [x2.1 == 1]) fun x3 =>
        some (.inl (W (x1.1 + 1), x2.2.1, x2.2.2, x3))
  else some (.inr (x1.2.1, x1.2.2.1, x1.2.2.2))
noncomputable def Src_Power_v1_L3 (a1 : Board) (x5 : Int ×
  List
    Bool) : Bool × Int × List Bool →
  Option
    (Bool × Int × List Bool ⊕
      List
        Bool) := fun x6 =>
  if decide (x6.2.1 < len a1.Breakers) = true then
    Option.bind (idx a1.Breakers x6.2.1) fun x7 =>
      Option.bind
        (if (x7.Kind == 3) = true then
          if (x7.B == x5.1) = true then Option.bind (idx x6.2.2 x6.2.1) fun x8 => some x8 else some false
        else some false)
        fun x9 =>
        Option.bind
          (if x9 = true then
            Option.bind (idx x6.2.2 x6.2.1) fun x10 =>
              Option.bind (idx x6.2.2 x6.2.1) fun x11 =>
                Option.bind (setO x6.2.2 x6.2.1 x6.1) fun x12 => some (false, x12)
          else some (x6.1, x6.2.2))
          fun x13 => some (.inl (x13.1, W (x6.2.1 + 1), x13.2))
  else some (.inr x6.2.2)
noncomputable def Src_Power_v1_L2 (a1 : Board) : Int × List Bool →
  Option
    (Int × List Bool ⊕
      List
        Bool) := fun x5 =>
  if decide (x5.1 < len a1.Consumers) = true then
    Option.bind (loopO (Src_Power_v1_L3 a1 x5) (true, 0, x5.2)) fun x14 =>
      some (.inl (W (x5.1 + 1), x14))
  else some (.inr x5.2)
noncomputable def Src_Power_v1_L4 (a1 : Board) : Int × List Int × Int × List Running →
  Option
    (Int × List Int × Int × List Running ⊕
      List Int ×
        Int ×
          List
            Running) := fun x16 =>
  if decide (x16.1 < len a1.Sources) = true then
    Option.bind
      (Src_Pick (Src.mk x16.2.1 x16.2.2.1)
        [0, 1, 2, 2, 2, 3])
      fun x17 =>
      Option.bind (Src_N (Src.mk x17.2.1 x17.2.2.1) 5) fun x18 =>
        Option.bind
          (Src_Pick (Src.mk x18.2.1 x18.2.2) [5000, 5000, 5005, 4950])
          fun x19 =>
          Option.bind
            (Src_Pick (Src.mk x19.2.1 x19.2.2.1)
              [0, 0, 40, 1800, 3590])
            fun x20 =>
            Option.bind (app x16.2.2.2 [Running.mk x17.1 x18.1 x19.1 x20.1]) fun x21 =>
              some (.inl (W (x16.1 + 1), x20.2.1, x20.2.2.1, x21))
  else some (.inr (x16.2.1, x16.2.2.1, x16.2.2.2))
noncomputable def Src_Power_v1_L5 (a1 : Board) : Int × List Int × Int × List Int →
  Option
    (Int × List Int × Int × List Int ⊕
      List Int ×
        Int ×
          List
            Int) := fun x23 =>
  if decide (x23.1 < len a1.Consumers) = true then
    Option.bind (idx a1.Consumers x23.1) fun x24 =>
      Option.bind (quoO x24.Load 3) fun x25 =>
        Option.bind (Src_Pick (Src.mk x23.2.1 x23.2.2.1) [x24.Load, x24.Load, x24.Least, x25]) fun x26 =>
          Option.bind (app x23.2.2.2 [x26.1]) fun x27 =>
            some (.inl (W (x23.1 + 1), x26.2.1, x26.2.2.1, x27))
  else some (.inr (x23.2.1, x23.2.2.1, x23.2.2.2))
noncomputable def Src_Power_v1_L6 (a1 : Board) : Int × List Int × Int × List Part →
  Option
    (Int × List Int × Int × List Part ⊕
      List Int ×
        Int ×
          List
            Part) := fun x29 =>
  if decide (x29.1 ≤ 4) = true then
    Option.bind (Src_N (Src.mk x29.2.1 x29.2.2.1) 5) fun x30 =>
      Option.bind
        (if (x30.1 == 4) = true then
          Option.bind (Src_N (Src.mk x30.2.1 x30.2.2) 4) fun x31 =>
            Option.bind (dynposref15_Exists a1 (Part.mk x29.1 x31.1)) fun x32 =>
              Option.bind
                (if x32 = true then Option.bind (app x29.2.2.2 [Part.mk x29.1 x31.1]) fun x33 => some x33
                else some x29.2.2.2)
                fun x34 => some (x31.2.1, x31.2.2, x34)
        else some (x30.2.1, x30.2.2, x29.2.2.2))
        fun x35 => some (.inl (W (x29.1 + 1), x35.1, x35.2.1, x35.2.2))
  else some (.inr (x29.2.1, x29.2.2.1, x29.2.2.2))
noncomputable def Src_Power_v1 (a0 : Src) (a1 : Board) : Option ((List Int) × Int × (List Bool) × (List Running) × (List Int) × (List Part)) :=
  Option.bind (loopO (Src_Power_v1_L1 a1) (0, a0.L, a0.At, [])) fun x4 =>
    Option.bind (loopO (Src_Power_v1_L2 a1) (0, x4.2.2)) fun x15 =>
      Option.bind (loopO (Src_Power_v1_L4 a1) (0, x4.1, x4.2.1, [])) fun x22 =>
        Option.bind (loopO (Src_Power_v1_L5 a1) (0, x22.1, x22.2.1, [])) fun x28 =>
          Option.bind (loopO (Src_Power_v1_L6 a1) (1, x28.1, x28.2.1, [])) fun x36 =>
            some (x36.1, x36.2.1, x15, x22.2.2, x28.2.2, x36.2.2)
noncomputable def c9_1 : Con D := ⟨9, [.lf (.sl 0), .lf (.int .i64), .lf (.int .i64), .lf (.sl 4), .lf (.sl 5), .lf (.sl 6), .lf (.int .i64), .lf (.int .i64)], [.lf (.sl 0), .lf (.int .i64), .lf (.sl 1), .lf (.sl 8), .lf (.sl 0), .lf (.sl 9)], [.one (.ptr 1000 0), .agg [.h 2 [], .h 3 [0], .h 4 [0], .h 5 [0], .h 6 [], .h 7 []]], [(1000, .box [.h 0 [0], .h 1 []])], [.agg [.own 1001, .own 1002, .own 1003, .own 1004]], [(1000, .box [.h 0 [0], .h 1 []]), (1001, .sl 1 4 2 []), (1002, .sl 8 74 3 []), (1003, .sl 0 3 4 []), (1004, .sl 9 76 5 [])], fun h => Src_Power_v1 ⟨h.1, h.2.1⟩ ⟨h.2.2.1, h.2.2.2.1, h.2.2.2.2.1, h.2.2.2.2.2.1, h.2.2.2.2.2.2.1, h.2.2.2.2.2.2.2⟩⟩
theorem c9_1_ok : ConOk Try.prog T c9_1 := fn_ok (Φ := [c11, c30, c31]) (rs := [.cell 4 32]) (an := (.n none .o (.n none .o (.n none (.n none .o (.n none (.loop ⟨[.lf (.int .i64), .lf (.sl 0), .lf (.int .i64), .lf (.sl 1)], [(17, .one (.h 0 []))], [(1000, .box [.h 1 [0], .h 2 []]), (2128, .box [.own 2448, .nils, .nils, .nils]), (2448, .sl 1 4 3 [])], [1000, 2128], 2512⟩ true [(.exit 0, ⟨[.lf (.sl 0), .lf (.int .i64), .lf (.sl 1)], [], [(1000, .box [.h 0 [0], .h 1 []]), (2128, .box [.own 2448, .nils, .nils, .nils]), (2448, .sl 1 4 2 [])], [1000, 2128], 2512⟩)] .o) .o)) (.n none (.n none .o (.n none (.loop ⟨[.lf (.int .i64), .lf (.sl 1)], [(31, .one (.h 0 []))], [(2448, .sl 1 4 1 [])], [2448], 2835⟩ true [(.exit 2, ⟨[.lf (.sl 1)], [], [(2448, .sl 1 4 0 [])], [2448], 2835⟩)] (.n none .o (.n none .o (.n none (.n none (.n none .o (.n none .o (.n none .o (.n none (.loop ⟨[.lf .bool, .lf (.int .i64), .lf (.sl 1)], [(7, .one (.h 0 [])), (37, .one (.h 1 []))], [(2448, .sl 1 4 2 [])], [2448], 3413⟩ true [(.exit 4, ⟨[.lf (.sl 1)], [], [(2448, .sl 1 4 0 [])], [2448], 3413⟩)] (.n none .o (.n none .o (.n none (.n none (.n none .o (.n none (.r (some (true, [(.normal, ⟨[.lf .bool], [(46, .one (.any)), (47, .one (.any)), (48, .one (.any)), (49, .one (.any)), (52, .one (.any)), (53, .one (.any)), (54, .one (.any)), (55, .one (.any)), (56, .one (.any)), (57, .one (.h 0 []))], [], [], 3928⟩)])) .nil) (.n (some (true, [(.normal, ⟨[.lf .bool, .lf (.sl 1)], [(7, .one (.h 0 []))], [(2448, .sl 1 4 1 [])], [2448], 3993⟩)])) .o .o))) .o) .o)))) .o)))) .o) .o)))) .o)) (.n none (.n none .o (.n none (.loop ⟨[.lf (.int .i64), .lf (.sl 0), .lf (.int .i64), .lf (.sl 8)], [(68, .one (.h 0 []))], [(1000, .box [.h 1 [0], .h 2 []]), (2128, .box [.own 2448, .own 3092, .nils, .nils]), (3092, .sl 8 74 3 [])], [1000, 2128], 3156⟩ true [(.exit 6, ⟨[.lf (.sl 0), .lf (.int .i64), .lf (.sl 8)], [], [(1000, .box [.h 0 [0], .h 1 []]), (2128, .box [.own 2448, .own 3092, .nils, .nils]), (3092, .sl 8 74 2 [])], [1000, 2128], 3156⟩)] .o) .o)) (.n none (.n none .o (.n none (.loop ⟨[.lf (.int .i64), .lf (.sl 0), .lf (.int .i64), .lf (.sl 0)], [(91, .one (.h 0 []))], [(1000, .box [.h 1 [0], .h 2 []]), (2128, .box [.own 2448, .own 3092, .own 3415, .nils]), (3415, .sl 0 3 3 [])], [1000, 2128], 3479⟩ true [(.exit 8, ⟨[.lf (.sl 0), .lf (.int .i64), .lf (.sl 0)], [], [(1000, .box [.h 0 [0], .h 1 []]), (2128, .box [.own 2448, .own 3092, .own 3415, .nils]), (3415, .sl 0 3 2 [])], [1000, 2128], 3479⟩)] .o) .o)) (.n none (.n none .o (.n none (.loop ⟨[.lf (.int .i64), .lf (.sl 0), .lf (.int .i64), .lf (.sl 9)], [(12, .one (.h 0 []))], [(1000, .box [.h 1 [0], .h 2 []]), (2128, .box [.own 2448, .own 3092, .own 3415, .own 3546]), (3546, .sl 9 76 3 [])], [1000, 2128], 3610⟩ true [(.exit 10, ⟨[.lf (.sl 0), .lf (.int .i64), .lf (.sl 9)], [], [(1000, .box [.h 0 [0], .h 1 []]), (2128, .box [.own 2448, .own 3092, .own 3415, .own 3546]), (3546, .sl 9 76 2 [])], [1000, 2128], 3610⟩)] (.n none .o (.n none (.n none (.n none .o (.n (some (true, [(.normal, ⟨[.lf (.sl 0), .lf (.int .i64), .lf (.sl 9)], [], [(1000, .box [.h 0 [0], .h 1 []]), (2128, .box [.own 2448, .own 3092, .own 3415, .own 3934]), (3934, .sl 9 76 2 [])], [1000, 2128, 3546], 3998⟩)])) (.n none .o (.n none .o (.n (some (true, [(.normal, ⟨[.lf (.sl 9)], [], [(2128, .box [.own 2448, .own 3092, .own 3415, .own 4510]), (4510, .sl 9 76 0 [])], [2128, 3546], 4574⟩)])) .o .o))) .o)) .o) .o))) .o)) .o)))))))) pOk repOk (AllC.mem (⟨c11_ok, c30_ok, c31_ok, trivial⟩ : AllC _ _ [c11, c30, c31])) hmix Try.call9 Try.func9 rfl rfl (by kernel_rfl) (fun h => by kernel_rfl)

end Rx
end Go.Proofs.Ytpbpppfaapbphaa
