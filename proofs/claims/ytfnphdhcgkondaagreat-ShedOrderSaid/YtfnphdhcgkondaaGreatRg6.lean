/- Plain functions, walks. Written by a program (wip/gen). -/
import Derived.Test.YtfnphdhcgkondaaGreatRt
import Derived.Test.YtfnphdhcgkondaaGreatRg1
import Derived.Test.YtfnphdhcgkondaaGreatRg2
import Derived.Test.YtfnphdhcgkondaaGreatRg4
import Derived.Test.YtfnphdhcgkondaaGreatRg5
set_option linter.unusedVariables false
set_option maxRecDepth 100000
namespace Go.Proofs.YtfnphdhcgkondaaGreat
open Go Go.RowKit Dp
namespace Rx

noncomputable def dynposlaw18_ShedOrder_L2 (x2 : Int ×
  Int ×
    Int ×
      List Int ×
        Int ×
          List Breaker ×
            List Source ×
              List Consumer ×
                List Bool ×
                  List Running ×
                    List Int ×
                      List
                        Part) (x4 : Int ×
  List Bool ×
    List Running ×
      List Int ×
        List Part ×
          List
            Act) (x7 : List
  Int) (x10 : Island) : Int × Bool × Int →
  Option
    (Int × Bool × Int ⊕
      Int ⊕
        Unit ⊕
          Int ⊕
            Unit ⊕
              Bool) := fun x11 =>
  if decide (x11.2.2 < len x7) = true then
    Option.bind
      (Option.bind (idx x7 x11.2.2) fun x12 =>
        Option.bind
          (Option.bind (dynposref01_Has x10.Consumers x12) fun x13 =>
            if (!x13) = true then some true
            else Option.bind (idx x4.2.2.2.1 x12) fun x14 => some (x14 == 0))
          fun x15 =>
          if x15 = true then some (.inl (x11.1, x11.2.1))
          else
            Option.bind
              (dynposref15_Fed
                (Board.mk x2.1 x2.2.2.2.2.2.1 x2.2.2.2.2.2.2.1
                  x2.2.2.2.2.2.2.2.1 x2.2.1 x2.2.2.1)
                (Power.mk x4.2.1 x4.2.2.1 x4.2.2.2.1 x4.2.2.2.2.1) x12)
              fun x16 =>
              if x16.2 = true then some (.inl (x11.1, true))
              else
                if x11.2.1 = true then some (.inr (.inr (.inr (.inr (.inr (.inr false))))))
                else some (.inl (x12, x11.2.1)))
      fun x17 =>
      Sum.elim (fun x18 => some (.inl (x18.1, x18.2, W (x11.2.2 + 1)))) (fun x19 => some x19) x17
  else some (.inr (.inl x11.1))
noncomputable def dynposlaw18_ShedOrder_L3 (x2 : Int ×
  Int ×
    Int ×
      List Int ×
        Int ×
          List Breaker ×
            List Source ×
              List Consumer ×
                List Bool ×
                  List Running ×
                    List Int ×
                      List
                        Part) (x4 : Int ×
  List Bool ×
    List Running ×
      List Int ×
        List Part ×
          List
            Act) (x10 : Island) : Int →
  Option
    (Int ⊕
      Unit ⊕
        Unit ⊕
          Int ⊕
            Unit ⊕
              Bool) := fun x22 =>
  if decide (x22 < len x10.Consumers) = true then
    Option.bind (idx x10.Consumers x22) fun x23 =>
      Option.bind (idx x4.2.2.2.1 x23) fun x24 =>
        Option.bind (idx x2.2.2.2.2.2.2.2.1 x23) fun x25 =>
          if decide (x24 > x25.Least) = true then some (.inr (.inr (.inr (.inr (.inr false)))))
          else some (.inl (W (x22 + 1)))
  else some (.inr (.inl ()))
noncomputable def dynposlaw18_ShedOrder_L4 (x2 : Int ×
  Int ×
    Int ×
      List Int ×
        Int ×
          List Breaker ×
            List Source ×
              List Consumer ×
                List Bool ×
                  List Running ×
                    List Int ×
                      List
                        Part) (x4 : Int ×
  List Bool ×
    List Running ×
      List Int ×
        List Part ×
          List
            Act) (x10 : Island) : Int × Int →
  Option
    (Int × Int ⊕
      Int) := fun x29 =>
  if decide (x29.2 < len x10.Consumers) = true then
    Option.bind (idx x10.Consumers x29.2) fun x30 =>
      Option.bind
        (dynposref15_Fed
          (Board.mk x2.1 x2.2.2.2.2.2.1 x2.2.2.2.2.2.2.1 x2.2.2.2.2.2.2.2.1
            x2.2.1 x2.2.2.1)
          (Power.mk x4.2.1 x4.2.2.1 x4.2.2.2.1 x4.2.2.2.2.1) x30)
        fun x31 =>
        Option.bind
          (if x31.2 = true then Option.bind (idx x4.2.2.2.1 x30) fun x32 => some (W (x29.1 + x32))
          else some x29.1)
          fun x33 => some (.inl (x33, W (x29.2 + 1)))
  else some (.inr x29.1)
noncomputable def dynposlaw18_ShedOrder_L1 (x2 : Int ×
  Int ×
    Int ×
      List Int ×
        Int ×
          List Breaker ×
            List Source ×
              List Consumer ×
                List Bool ×
                  List Running ×
                    List Int ×
                      List
                        Part) (x3 : Int ×
  List Bool ×
    List Running ×
      List Int ×
        List Part ×
          List
            Act) (x4 : Int ×
  List Bool ×
    List Running ×
      List Int ×
        List Part ×
          List
            Act) (x7 : List
  Int) (x8 : List
  Island) : Int →
  Option
    (Int ⊕
      Unit ⊕
        Bool) := fun x9 =>
  if decide (x9 < len x8) = true then
    Option.bind
      (Option.bind (idx x8 x9) fun x10 =>
        Option.bind (loopO (dynposlaw18_ShedOrder_L2 x2 x4 x7 x10) ((-1), false, 0)) fun x20 =>
          Sum.elim
            (fun x21 =>
              if decide (x21 < 0) = true then some (.inl ())
              else
                Option.bind (loopO (dynposlaw18_ShedOrder_L3 x2 x4 x10) 0) fun x26 =>
                  Sum.elim
                    (fun x27 =>
                      Option.bind (idx x4.2.2.2.1 x21) fun x28 =>
                        Option.bind (loopO (dynposlaw18_ShedOrder_L4 x2 x4 x10) (x28, 0)) fun x34 =>
                          Option.bind (idx x10.Buses 0) fun x35 =>
                            Option.bind
                              (dynposref17_Rating
                                (Board.mk x2.1 x2.2.2.2.2.2.1 x2.2.2.2.2.2.2.1
                                  x2.2.2.2.2.2.2.2.1 x2.2.1 x2.2.2.1)
                                (Power.mk x3.2.1 x3.2.2.1 x3.2.2.2.1 x3.2.2.2.2.1) x35)
                              fun x36 =>
                              if decide (x34 ≤ x36) = true then some (.inr (.inr (.inr false)))
                              else some (.inl ()))
                    (fun x37 => some x37) x26)
            (fun x38 => some x38) x20)
      fun x39 => Sum.elim (fun x40 => some (.inl (W (x9 + 1)))) (fun x41 => some x41) x39
  else some (.inr (.inl ()))
noncomputable def dynposlaw18_ShedOrder (a0 : (List Int)) : Option (Bool) :=
  Option.bind (dynposmake_New a0) fun x1 =>
    Option.bind (dynposlaw18_world (Src.mk x1.1 x1.2)) fun x2 =>
      Option.bind
        (dynposref18_Clear
          (Board.mk x2.1 x2.2.2.2.2.2.1 x2.2.2.2.2.2.2.1 x2.2.2.2.2.2.2.2.1
            x2.2.1 x2.2.2.1)
          (Power.mk x2.2.2.2.2.2.2.2.2.1 x2.2.2.2.2.2.2.2.2.2.1
            x2.2.2.2.2.2.2.2.2.2.2.1 x2.2.2.2.2.2.2.2.2.2.2.2))
        fun x3 =>
        Option.bind
          (shed_Shed
            (Board.mk x2.1 x2.2.2.2.2.2.1 x2.2.2.2.2.2.2.1
              x2.2.2.2.2.2.2.2.1 x2.2.1 x2.2.2.1)
            (Power.mk x3.2.1 x3.2.2.1 x3.2.2.2.1 x3.2.2.2.2.1))
          fun x4 =>
          Option.bind
            (if (x4.1 != 0) = true then some true
            else
              Option.bind
                (dynposref15_State
                  (Board.mk x2.1 x2.2.2.2.2.2.1 x2.2.2.2.2.2.2.1
                    x2.2.2.2.2.2.2.2.1 x2.2.1 x2.2.2.1)
                  (Power.mk x4.2.1 x4.2.2.1 x4.2.2.2.1 x4.2.2.2.2.1))
                fun x5 => some (x5 != 0))
            fun x6 =>
            if x6 = true then some false
            else
              Option.bind
                (shed_Order
                  (Board.mk x2.1 x2.2.2.2.2.2.1 x2.2.2.2.2.2.2.1
                    x2.2.2.2.2.2.2.2.1 x2.2.1 x2.2.2.1))
                fun x7 =>
                Option.bind
                  (dynposref15_Islands
                    (Board.mk x2.1 x2.2.2.2.2.2.1 x2.2.2.2.2.2.2.1
                      x2.2.2.2.2.2.2.2.1 x2.2.1 x2.2.2.1)
                    (Power.mk x3.2.1 x3.2.2.1 x3.2.2.2.1 x3.2.2.2.2.1))
                  fun x8 =>
                  Option.bind (loopO (dynposlaw18_ShedOrder_L1 x2 x3 x4 x7 x8) 0) fun x42 =>
                    Sum.elim (fun x43 => Option.bind dynposlaw18_sane fun x44 => some x44) (fun x45 => some x45) x42
noncomputable def c5 : Con D := ⟨5, [.lf (.sl 0)], [.lf .bool], [.one (.h 0 [0])], [], [.one (.h 0 [])], [], fun h => dynposlaw18_ShedOrder h⟩
theorem c5_ok : ConOk Tryz.prog T c5 := fn_ok (Φ := [c9, c10, c16, c17, c18, c20, c22, c23, c24, c25, c26]) (rs := [.tmp 2]) (an := (.n none .o (.n none .o (.n none .o (.n none .o (.n none .o (.n none (.n none (.r (some (true, [(.normal, ⟨[.lf .bool], [(53, .one (.h 0 []))], [], [], 4112⟩)])) .nil) .o) (.n none .o (.n none (.n none .o (.n none (.loop ⟨[.lf (.int .i64)], [(60, .one (.h 0 []))], [], [], 4689⟩ false [(.exit 0, ⟨[], [], [], [], 4689⟩)] (.n none .o (.n none .o (.n none (.n (some (false, [(.normal, ⟨[], [], [], [], 4818⟩)])) (.n none .o (.n none .o (.n none (.n none .o (.n none (.loop ⟨[.lf (.int .i64), .lf .bool, .lf (.int .i64)], [(12, .one (.h 0 [])), (13, .one (.h 1 [])), (66, .one (.h 2 []))], [], [], 5394⟩ false [(.exit 2, ⟨[.lf (.int .i64)], [(12, .one (.h 0 []))], [], [], 5394⟩)] (.n none .o (.n none .o (.n none (.n (some (false, [(.normal, ⟨[.lf (.int .i64), .lf .bool], [(12, .one (.h 0 [])), (13, .one (.h 1 [])), (76, .one (.any)), (77, .one (.any)), (78, .one (.any)), (79, .one (.any)), (80, .one (.any)), (81, .one (.any))], [], [], 5525⟩)])) (.n none .o (.n none (.n none (.r (some (true, [(.normal, ⟨[.lf .bool], [(76, .one (.any)), (77, .one (.any)), (78, .one (.any)), (79, .one (.any)), (80, .one (.any)), (81, .one (.any)), (82, .one (.h 0 []))], [], [], 5717⟩)])) .nil) .o) .o)) .o) .o)))) .o)) (.n none .o (.n none (.n none .o (.n none (.loop ⟨[.lf (.int .i64)], [(99, .one (.h 0 []))], [], [], 5843⟩ false [(.exit 4, ⟨[], [], [], [], 5843⟩)] .o) .o)) (.n none .o (.n none (.n none .o (.n none (.loop ⟨[.lf (.int .i64), .lf (.int .i64)], [(20, .one (.h 0 [])), (124, .one (.h 1 []))], [], [], 6547⟩ true [(.exit 6, ⟨[.lf (.int .i64)], [(20, .one (.h 0 []))], [], [], 6547⟩)] (.n none .o (.n none .o (.n none (.n none (.n none .o (.n none .o (.n none .o (.n (some (true, [(.normal, ⟨[.lf (.int .i64)], [(20, .one (.h 0 []))], [], [], 7509⟩)])) .o .o)))) .o) .o)))) .o)) .o))))))) .o) .o)))) .o)) .o))))))))) pOk repOk (AllC.mem (⟨c9_ok, c10_ok, c16_ok, c17_ok, c18_ok, c20_ok, c22_ok, c23_ok, c24_ok, c25_ok, c26_ok, trivial⟩ : AllC _ _ [c9, c10, c16, c17, c18, c20, c22, c23, c24, c25, c26])) hmix Tryz.call5 Tryz.func5 rfl rfl (by kernel_rfl) (fun h => by kernel_rfl)

end Rx
end Go.Proofs.YtfnphdhcgkondaaGreat
