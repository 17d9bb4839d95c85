/- Plain functions, walks. Written by a program (wip/gen). -/
import Derived.Test.YtfnphdhcgkondaaGreatRt
set_option linter.unusedVariables false
set_option maxRecDepth 100000
namespace Go.Proofs.YtfnphdhcgkondaaGreat
open Go Go.RowKit Dp
namespace Rx

noncomputable def dynposmake_New (a0 : (List Int)) : Option ((List Int) × Int) := Option.bind (slc a0 0 (imin (len a0) 600)) fun x1 => some (x1, 0)
noncomputable def c9 : Con D := ⟨9, [.lf (.sl 0)], [.lf (.sl 0), .lf (.int .i64)], [.one (.h 0 [0])], [], [.one (.ptr 1000 0)], [(1000, .box [.h 0 [0], .h 1 []])], fun h => dynposmake_New h⟩
theorem c9_ok : ConOk Tryz.prog T c9 := fn_ok (Φ := []) (rs := [.tmp 2]) (an := .o) pOk repOk (AllC.mem (l := []) trivial) hmix Tryz.call9 Tryz.func9 rfl rfl (by kernel_rfl) (fun h => by kernel_rfl)

noncomputable def dynposmake_Mod (a0 : Int) (a1 : Int) : Option (Int) :=
  if decide (a1 < 1) = true then some 0
  else Option.bind (remO a0 a1) fun x1 => Option.bind (remO (W (x1 + a1)) a1) fun x2 => some x2
noncomputable def c62 : Con D := ⟨62, [.lf (.int .i64), .lf (.int .i64)], [.lf (.int .i64)], [.one (.h 0 []), .one (.h 1 [])], [], [.one (.h 0 [])], [], fun h => dynposmake_Mod h.1 h.2⟩
theorem c62_ok : ConOk Tryz.prog T c62 := fn_ok (Φ := []) (rs := [.tmp 4]) (an := .o) pOk repOk (AllC.mem (l := []) trivial) hmix Tryz.call62 Tryz.func62 rfl rfl (by kernel_rfl) (fun h => by kernel_rfl)

noncomputable def Src_N (a0 : Src) (a1 : Int) : Option (Int × (List Int) × Int) :=
  if decide (a0.At ≥ len a0.L) = true then some (0, a0.L, a0.At)
  else
    Option.bind (idx a0.L (W (W (a0.At + 1) - 1))) fun x1 =>
      Option.bind (dynposmake_Mod x1 a1) fun x2 => some (x2, a0.L, W (a0.At + 1))
noncomputable def c30 : Con D := ⟨30, [.lf (.sl 0), .lf (.int .i64), .lf (.int .i64)], [.lf (.int .i64), .lf (.sl 0), .lf (.int .i64)], [.one (.ptr 1000 0), .one (.h 2 [])], [(1000, .box [.h 0 [0], .h 1 []])], [.one (.h 0 [])], [(1000, .box [.h 1 [0], .h 2 []])], fun h => Src_N ⟨h.1, h.2.1⟩ h.2.2⟩
theorem c30_ok : ConOk Tryz.prog T c30 := fn_ok (Φ := [c62]) (rs := [.tmp 4]) (an := .o) pOk repOk (AllC.mem (⟨c62_ok, trivial⟩ : AllC _ _ [c62])) hmix Tryz.call30 Tryz.func30 rfl rfl (by kernel_rfl) (fun h => by kernel_rfl)

noncomputable def Src_Range (a0 : Src) (a1 : Int) (a2 : Int) : Option (Int × (List Int) × Int) :=
  Option.bind (Src_N a0 (W (W (a2 - a1) + 1))) fun x1 => some (W (a1 + x1.1), x1.2.1, x1.2.2)
noncomputable def c60 : Con D := ⟨60, [.lf (.sl 0), .lf (.int .i64), .lf (.int .i64), .lf (.int .i64)], [.lf (.int .i64), .lf (.sl 0), .lf (.int .i64)], [.one (.ptr 1000 0), .one (.h 2 []), .one (.h 3 [])], [(1000, .box [.h 0 [0], .h 1 []])], [.one (.h 0 [])], [(1000, .box [.h 1 [0], .h 2 []])], fun h => Src_Range ⟨h.1, h.2.1⟩ h.2.2.1 h.2.2.2⟩
theorem c60_ok : ConOk Tryz.prog T c60 := fn_ok (Φ := [c30]) (rs := [.tmp 6]) (an := .o) pOk repOk (AllC.mem (⟨c30_ok, trivial⟩ : AllC _ _ [c30])) hmix Tryz.call60 Tryz.func60 rfl rfl (by kernel_rfl) (fun h => by kernel_rfl)

noncomputable def Src_Pick (a0 : Src) (a1 : (List Int)) : Option (Int × (List Int) × Int × (List Int)) :=
  Option.bind (Src_N a0 (len a1)) fun x1 => Option.bind (idx a1 x1.1) fun x2 => some (x2, x1.2.1, x1.2.2, a1)
noncomputable def c79 : Con D := ⟨79, [.lf (.sl 0), .lf (.int .i64), .lf (.sl 0)], [.lf (.int .i64), .lf (.sl 0), .lf (.int .i64), .lf (.sl 0)], [.one (.ptr 1000 0), .one (.own 1001)], [(1000, .box [.h 0 [0], .h 1 []]), (1001, .sl 0 3 2 [])], [.one (.h 0 [])], [(1000, .box [.h 1 [0], .h 2 []]), (1001, .sl 0 3 3 [])], fun h => Src_Pick ⟨h.1, h.2.1⟩ h.2.2⟩
theorem c79_ok : ConOk Tryz.prog T c79 := fn_ok (Φ := [c30]) (rs := [.tmp 4]) (an := .o) pOk repOk (AllC.mem (⟨c30_ok, trivial⟩ : AllC _ _ [c30])) hmix Tryz.call79 Tryz.func79 rfl rfl (by kernel_rfl) (fun h => by kernel_rfl)

noncomputable def Src_Board_L1 : Int × List Int × Int × Int × Int × Int × List Breaker →
  Option
    (Int × List Int × Int × Int × Int × Int × List Breaker ⊕
      List Int ×
        Int ×
          Int ×
            Int ×
              Int ×
                List
                  Breaker) := fun x4 =>
  if decide (x4.1 < x4.2.2.2.1) = true then
    Option.bind (Src_N (Src.mk x4.2.1 x4.2.2.1) 6) fun x5 =>
      Option.bind
        (if decide (x5.1 < 5) = true then
          Option.bind (Src_N (Src.mk x5.2.1 x5.2.2) x4.1) fun x6 =>
            Option.bind (app x4.2.2.2.2.2.2 [Breaker.mk 1 x6.1 x4.1]) fun x7 =>
              some (x6.2.1, x6.2.2, x4.2.2.2.1, x4.2.2.2.2.1, x4.2.2.2.2.2.1, x7)
        else
          some
            (x5.2.1, x5.2.2, x4.2.2.2.1, x4.2.2.2.2.1, x4.2.2.2.2.2.1,
              x4.2.2.2.2.2.2))
        fun x8 =>
        some
          (.inl
            (W (x4.1 + 1), x8.1, x8.2.1, x8.2.2.1, x8.2.2.2.1, x8.2.2.2.2.1,
              x8.2.2.2.2.2))
  else
    some
      (.inr
        (x4.2.1, x4.2.2.1, x4.2.2.2.1, x4.2.2.2.2.1, x4.2.2.2.2.2.1,
          x4.2.2.2.2.2.2))
noncomputable def Src_Board_L2 : Int × List Int × Int × Int × Int × Int × List Breaker × List Source →
  Option
    (Int × List Int × Int × Int × Int × Int × List Breaker × List Source ⊕
      List Int ×
        Int ×
          Int ×
            Int ×
              Int ×
                List Breaker ×
                  List
                    Source) := fun x15 =>
  if decide (x15.1 > 0) = true then
    Option.bind (Src_N (Src.mk x15.2.1 x15.2.2.1) x15.2.2.2.1) fun x16 =>
      Option.bind
        (app x15.2.2.2.2.2.2.1 [Breaker.mk 2 x16.1 (len x15.2.2.2.2.2.2.2)])
        fun x17 =>
        Option.bind (Src_Pick (Src.mk x16.2.1 x16.2.2) [10, 50, 100]) fun x18 =>
          Option.bind (Src_Pick (Src.mk x18.2.1 x18.2.2.1) [0, 5, x18.1]) fun x19 =>
            Option.bind (Src_Pick (Src.mk x19.2.1 x19.2.2.1) [0, 1, 3])
              fun x20 =>
              Option.bind (app x15.2.2.2.2.2.2.2 [Source.mk x18.1 x19.1 x20.1]) fun x21 =>
                some
                  (.inl
                    (W (x15.1 - 1), x20.2.1, x20.2.2.1, x15.2.2.2.1,
                      x15.2.2.2.2.1, x15.2.2.2.2.2.1, x17, x21))
  else
    some
      (.inr
        (x15.2.1, x15.2.2.1, x15.2.2.2.1, x15.2.2.2.2.1, x15.2.2.2.2.2.1,
          x15.2.2.2.2.2.2.1, x15.2.2.2.2.2.2.2))
noncomputable def Src_Board_L3 : Int × List Int × Int × Int × Int × Int × List Breaker × List Consumer →
  Option
    (Int × List Int × Int × Int × Int × Int × List Breaker × List Consumer ⊕
      List Int ×
        Int ×
          Int ×
            Int ×
              Int ×
                List Breaker ×
                  List
                    Consumer) := fun x24 =>
  if decide (x24.1 > 0) = true then
    Option.bind (Src_N (Src.mk x24.2.1 x24.2.2.1) x24.2.2.2.1) fun x25 =>
      Option.bind
        (app x24.2.2.2.2.2.2.1 [Breaker.mk 3 x25.1 (len x24.2.2.2.2.2.2.2)])
        fun x26 =>
        Option.bind
          (if decide (x24.2.2.2.1 > 1) = true then
            Option.bind (Src_N (Src.mk x25.2.1 x25.2.2) 4) fun x27 =>
              some (x27.1 == 3, x27.2.1, x27.2.2)
          else some (false, x25.2.1, x25.2.2))
          fun x28 =>
          Option.bind
            (if x28.1 = true then
              Option.bind (remO (W (x25.1 + 1)) x24.2.2.2.1) fun x29 =>
                Option.bind (app x26 [Breaker.mk 3 x29 (len x24.2.2.2.2.2.2.2)]) fun x30 =>
                  some (x24.2.2.2.1, x24.2.2.2.2.1, x24.2.2.2.2.2.1, x30)
            else some (x24.2.2.2.1, x24.2.2.2.2.1, x24.2.2.2.2.2.1, x26))
            fun x31 =>
            Option.bind
              (Src_Pick (Src.mk x28.2.1 x28.2.2) [0, 5, 20, 40])
              fun x32 =>
              Option.bind (quoO x32.1 2) fun x33 =>
                Option.bind (Src_Pick (Src.mk x32.2.1 x32.2.2.1) [0, x33, x32.1]) fun x34 =>
                  Option.bind (Src_N (Src.mk x34.2.1 x34.2.2.1) 3) fun x35 =>
                    Option.bind (Src_Range (Src.mk x35.2.1 x35.2.2) (-1) 2) fun x36 =>
                      Option.bind
                        (if decide (len x24.2.2.2.2.2.2.2 > 0) = true then
                          Option.bind (Src_N (Src.mk x36.2.1 x36.2.2) 4) fun x37 =>
                            some (x37.1 == 3, x37.2.1, x37.2.2)
                        else some (false, x36.2.1, x36.2.2))
                        fun x38 =>
                        Option.bind
                          (if x38.1 = true then
                            Option.bind (Src_N (Src.mk x38.2.1 x38.2.2) (len x24.2.2.2.2.2.2.2))
                              fun x39 => some (x39.2.1, x39.2.2, x32.1, x34.1, x35.1, x36.1, [x39.1])
                          else some (x38.2.1, x38.2.2, x32.1, x34.1, x35.1, x36.1, []))
                          fun x40 =>
                          Option.bind
                            (app x24.2.2.2.2.2.2.2
                              [Consumer.mk x40.2.2.1 x40.2.2.2.1 x40.2.2.2.2.1
                                  x40.2.2.2.2.2.1 x40.2.2.2.2.2.2])
                            fun x41 =>
                            some
                              (.inl
                                (W (x24.1 - 1), x40.1, x40.2.1, x31.1, x31.2.1, x31.2.2.1,
                                  x31.2.2.2, x41))
  else
    some
      (.inr
        (x24.2.1, x24.2.2.1, x24.2.2.2.1, x24.2.2.2.2.1, x24.2.2.2.2.2.1,
          x24.2.2.2.2.2.2.1, x24.2.2.2.2.2.2.2))
noncomputable def Src_Board (a0 : Src) : Option (Int × Int × Int × (List Int) × Int × (List Breaker) × (List Source) × (List Consumer)) :=
  Option.bind (Src_Range a0 1 4) fun x1 =>
    Option.bind (Src_Pick (Src.mk x1.2.1 x1.2.2) [0, 50, 200, 1800])
      fun x2 =>
      Option.bind (Src_Pick (Src.mk x2.2.1 x2.2.2.1) [0, 10, 50]) fun x3 =>
        Option.bind (loopO Src_Board_L1 (1, x3.2.1, x3.2.2.1, x1.1, x2.1, x3.1, [])) fun x9 =>
          Option.bind
            (if decide (x9.2.2.1 > 2) = true then
              Option.bind (Src_N (Src.mk x9.1 x9.2.1) 2) fun x10 =>
                some (x10.1 == 1, x10.2.1, x10.2.2)
            else some (false, x9.1, x9.2.1))
            fun x11 =>
            Option.bind
              (if x11.1 = true then
                Option.bind
                  (app x9.2.2.2.2.2
                    [Breaker.mk 1 0 (W (x9.2.2.1 - 1))])
                  fun x12 => some (x9.2.2.1, x9.2.2.2.1, x9.2.2.2.2.1, x12)
              else some (x9.2.2.1, x9.2.2.2.1, x9.2.2.2.2.1, x9.2.2.2.2.2))
              fun x13 =>
              Option.bind (Src_N (Src.mk x11.2.1 x11.2.2) 5) fun x14 =>
                Option.bind
                  (loopO Src_Board_L2
                    (x14.1, x14.2.1, x14.2.2, x13.1, x13.2.1, x13.2.2.1, x13.2.2.2, []))
                  fun x22 =>
                  Option.bind (Src_N (Src.mk x22.1 x22.2.1) 6) fun x23 =>
                    Option.bind
                      (loopO Src_Board_L3
                        (x23.1, x23.2.1, x23.2.2, x22.2.2.1, x22.2.2.2.1,
                          x22.2.2.2.2.1, x22.2.2.2.2.2.1, []))
                      fun x42 =>
                      some
                        (x42.2.2.1, x42.2.2.2.1, x42.2.2.2.2.1, x42.1, x42.2.1,
                          x42.2.2.2.2.2.1, x22.2.2.2.2.2.2, x42.2.2.2.2.2.2)
noncomputable def c41 : Con D := ⟨41, [.lf (.sl 0), .lf (.int .i64)], [.lf (.int .i64), .lf (.int .i64), .lf (.int .i64), .lf (.sl 0), .lf (.int .i64), .lf (.sl 5), .lf (.sl 6), .lf (.sl 7)], [.one (.ptr 1000 0)], [(1000, .box [.h 0 [0], .h 1 []])], [.agg [.h 0 [], .own 1001, .own 1002, .own 1003, .h 1 [], .h 2 []]], [(1000, .box [.h 3 [0], .h 4 []]), (1001, .sl 5 44 5 []), (1002, .sl 6 89 6 []), (1003, .sl 7 57 7 [1])], fun h => Src_Board ⟨h.1, h.2⟩⟩
theorem c41_ok : ConOk Tryz.prog T c41 := fn_ok (Φ := [c30, c60, c79]) (rs := [.cell 2 29]) (an := (.n none .o (.n none .o (.n none (.n none .o (.n none (.loop ⟨[.lf (.int .i64), .lf (.sl 0), .lf (.int .i64), .lf (.int .i64), .lf (.int .i64), .lf (.int .i64), .lf (.sl 5)], [(4, .one (.h 0 []))], [(1000, .box [.h 1 [0], .h 2 []]), (2640, .box [.h 3 [], .own 2832, .nils, .nils, .h 4 [], .h 5 []]), (2832, .sl 5 44 6 [])], [1000, 2640], 2896⟩ true [(.exit 0, ⟨[.lf (.sl 0), .lf (.int .i64), .lf (.int .i64), .lf (.int .i64), .lf (.int .i64), .lf (.sl 5)], [], [(1000, .box [.h 0 [0], .h 1 []]), (2640, .box [.h 2 [], .own 2832, .nils, .nils, .h 3 [], .h 4 []]), (2832, .sl 5 44 5 [])], [1000, 2640], 2896⟩)] (.n none .o (.n none (.n none (.n none .o (.n (some (true, [(.normal, ⟨[.lf (.sl 0), .lf (.int .i64), .lf (.int .i64), .lf (.int .i64), .lf (.int .i64), .lf (.sl 5)], [], [(1000, .box [.h 0 [0], .h 1 []]), (2640, .box [.h 2 [], .own 3351, .nils, .nils, .h 3 [], .h 4 []]), (3351, .sl 5 44 5 [])], [1000, 2640, 2832], 3415⟩)])) .o .o)) .o) .o))) .o)) (.n none (.n none (.r (some (true, [(.normal, ⟨[.lf .bool, .lf (.sl 0), .lf (.int .i64)], [(47, .one (.h 0 []))], [(1000, .box [.h 1 [0], .h 2 []])], [1000], 2966⟩)])) .nil) (.n (some (true, [(.normal, ⟨[.lf (.int .i64), .lf (.int .i64), .lf (.int .i64), .lf (.sl 5)], [], [(2640, .box [.h 0 [], .own 2969, .nils, .nils, .h 1 [], .h 2 []]), (2969, .sl 5 44 3 [])], [2640, 2832], 3033⟩)])) .o .o)) (.n none (.n none .o (.n none (.loop ⟨[.lf (.int .i64), .lf (.sl 0), .lf (.int .i64), .lf (.int .i64), .lf (.int .i64), .lf (.int .i64), .lf (.sl 5), .lf (.sl 6)], [(5, .one (.h 0 []))], [(1000, .box [.h 1 [0], .h 2 []]), (2640, .box [.h 3 [], .own 3229, .own 3230, .nils, .h 4 [], .h 5 []]), (3229, .sl 5 44 6 []), (3230, .sl 6 89 7 [])], [1000, 2640, 2969], 3293⟩ true [(.exit 2, ⟨[.lf (.sl 0), .lf (.int .i64), .lf (.int .i64), .lf (.int .i64), .lf (.int .i64), .lf (.sl 5), .lf (.sl 6)], [], [(1000, .box [.h 0 [0], .h 1 []]), (2640, .box [.h 2 [], .own 3229, .own 3230, .nils, .h 3 [], .h 4 []]), (3229, .sl 5 44 5 []), (3230, .sl 6 89 6 [])], [1000, 2640, 2969], 3293⟩)] .o) .o)) (.n none (.n none .o (.n none (.loop ⟨[.lf (.int .i64), .lf (.sl 0), .lf (.int .i64), .lf (.int .i64), .lf (.int .i64), .lf (.int .i64), .lf (.sl 5), .lf (.sl 7)], [(7, .one (.h 0 []))], [(1000, .box [.h 1 [0], .h 2 []]), (2640, .box [.h 3 [], .own 3492, .own 3230, .own 3493, .h 4 [], .h 5 []]), (3492, .sl 5 44 6 []), (3493, .sl 7 57 7 [1])], [1000, 2640, 3229], 3556⟩ true [(.exit 4, ⟨[.lf (.sl 0), .lf (.int .i64), .lf (.int .i64), .lf (.int .i64), .lf (.int .i64), .lf (.sl 5), .lf (.sl 7)], [], [(1000, .box [.h 0 [0], .h 1 []]), (2640, .box [.h 2 [], .own 3492, .own 3230, .own 3493, .h 3 [], .h 4 []]), (3492, .sl 5 44 5 []), (3493, .sl 7 57 6 [1])], [1000, 2640, 3229], 3556⟩)] (.n none .o (.n none (.n none (.n none .o (.n none .o (.n none .o (.n none (.n none (.r (some (true, [(.normal, ⟨[.lf .bool, .lf (.sl 0), .lf (.int .i64)], [(118, .one (.any)), (119, .one (.any)), (120, .one (.any)), (121, .one (.h 0 []))], [(1000, .box [.h 1 [0], .h 2 []])], [1000], 4908⟩)])) .nil) (.n (some (true, [(.normal, ⟨[.lf (.int .i64), .lf (.int .i64), .lf (.int .i64), .lf (.sl 5)], [], [(2640, .box [.h 0 [], .own 4911, .own 3230, .own 3493, .h 1 [], .h 2 []]), (4911, .sl 5 44 3 [])], [2640, 4652], 4975⟩)])) .o .o)) (.n none .o (.n none .o (.n none (.n none (.r (some (true, [(.normal, ⟨[.lf .bool, .lf (.sl 0), .lf (.int .i64)], [(152, .one (.any)), (153, .one (.any)), (154, .one (.any)), (155, .one (.h 0 []))], [(1000, .box [.h 1 [0], .h 2 []])], [1000], 6195⟩)])) .nil) (.n (some (true, [(.normal, ⟨[.lf (.sl 0), .lf (.int .i64), .lf (.int .i64), .lf (.int .i64), .lf (.int .i64), .lf (.int .i64), .lf (.sl 0)], [], [(1000, .box [.h 0 [0], .h 1 []]), (6003, .box [.h 2 [], .h 3 [], .h 4 [], .h 5 [], .own 6198]), (6198, .sl 0 3 6 [])], [1000, 6003], 6262⟩)])) .o .o)) .o))))))) .o) .o))) .o)) .o))))))) pOk repOk (AllC.mem (⟨c30_ok, c60_ok, c79_ok, trivial⟩ : AllC _ _ [c30, c60, c79])) hmix Tryz.call41 Tryz.func41 rfl rfl (by kernel_rfl) (fun h => by kernel_rfl)

noncomputable def dynposref15_within (a0 : Int) (a1 : Int) (a2 : Int) : Option (Bool) := Option.bind (if decide (a0 ≥ a1) = true then some (decide (a0 ≤ a2)) else some false) fun x1 => some x1
noncomputable def c52 : Con D := ⟨52, [.lf (.int .i64), .lf (.int .i64), .lf (.int .i64)], [.lf .bool], [.one (.h 0 []), .one (.h 1 []), .one (.h 2 [])], [], [.one (.h 0 [])], [], fun h => dynposref15_within h.1 h.2.1 h.2.2⟩
theorem c52_ok : ConOk Tryz.prog T c52 := fn_ok (Φ := []) (rs := [.tmp 6]) (an := (.n none .o (.n none (.r (some (true, [(.normal, ⟨[.lf .bool], [(6, .one (.h 0 []))], [], [], 2128⟩)])) .nil) .o))) pOk repOk (AllC.mem (l := []) trivial) hmix Tryz.call52 Tryz.func52 rfl rfl (by kernel_rfl) (fun h => by kernel_rfl)

noncomputable def dynposref15_Exists (a0 : Board) (a1 : Part) : Option (Bool) :=
  if (a1.Kind == 1) = true then
    Option.bind (dynposref15_within a1.Number 0 (W (len a0.Sources - 1))) fun x4 => some x4
  else
    if (a1.Kind == 2) = true then
      Option.bind (dynposref15_within a1.Number 0 (W (len a0.Breakers - 1))) fun x3 => some x3
    else
      if (a1.Kind == 3) = true then
        Option.bind (dynposref15_within a1.Number 0 (W (a0.Buses - 1))) fun x2 => some x2
      else
        if (a1.Kind == 4) = true then
          Option.bind (dynposref15_within a1.Number 0 (W (len a0.Consumers - 1))) fun x1 =>
            some x1
        else some false
noncomputable def c53 : Con D := ⟨53, [.lf (.int .i64), .lf (.sl 5), .lf (.sl 6), .lf (.sl 7), .lf (.int .i64), .lf (.int .i64), .lf (.int .i64), .lf (.int .i64)], [.lf .bool], [.agg [.h 0 [], .h 1 [0], .h 2 [0], .h 3 [0], .h 4 [], .h 5 []], .agg [.h 6 [], .h 7 []]], [], [.one (.h 0 [])], [], fun h => dynposref15_Exists ⟨h.1, h.2.1, h.2.2.1, h.2.2.2.1, h.2.2.2.2.1, h.2.2.2.2.2.1⟩ ⟨h.2.2.2.2.2.2.1, h.2.2.2.2.2.2.2⟩⟩
theorem c53_ok : ConOk Tryz.prog T c53 := fn_ok (Φ := [c52]) (rs := [.tmp 4]) (an := .o) pOk repOk (AllC.mem (⟨c52_ok, trivial⟩ : AllC _ _ [c52])) hmix Tryz.call53 Tryz.func53 rfl rfl (by kernel_rfl) (fun h => by kernel_rfl)

noncomputable def Src_Power_L1 (a1 : Board) : Int × List Int × Int × List Bool →
  Option
    (Int × List Int × Int × List Bool ⊕
      List Int ×
        Int ×
          List
            Bool) := fun x1 =>
  if decide (x1.1 < len a1.Breakers) = true then
    Option.bind (Src_N (Src.mk x1.2.1 x1.2.2.1) 2) fun x2 =>
      Option.bind (app x1.2.2.2 [x2.1 == 1]) fun x3 =>
        some (.inl (W (x1.1 + 1), x2.2.1, x2.2.2, x3))
  else some (.inr (x1.2.1, x1.2.2.1, x1.2.2.2))
noncomputable def Src_Power_L3 (a1 : Board) (x5 : Int ×
  List
    Bool) : Bool × Int × List Bool →
  Option
    (Bool × Int × List Bool ⊕
      List
        Bool) := fun x6 =>
  if decide (x6.2.1 < len a1.Breakers) = true then
    Option.bind (idx a1.Breakers x6.2.1) fun x7 =>
      Option.bind
        (if (x7.Kind == 3) = true then
          if (x7.B == x5.1) = true then Option.bind (idx x6.2.2 x6.2.1) fun x8 => some x8 else some false
        else some false)
        fun x9 =>
        Option.bind
          (if x9 = true then
            Option.bind (idx x6.2.2 x6.2.1) fun x10 =>
              Option.bind (idx x6.2.2 x6.2.1) fun x11 =>
                Option.bind (setO x6.2.2 x6.2.1 x6.1) fun x12 => some (false, x12)
          else some (x6.1, x6.2.2))
          fun x13 => some (.inl (x13.1, W (x6.2.1 + 1), x13.2))
  else some (.inr x6.2.2)
noncomputable def Src_Power_L2 (a1 : Board) : Int × List Bool →
  Option
    (Int × List Bool ⊕
      List
        Bool) := fun x5 =>
  if decide (x5.1 < len a1.Consumers) = true then
    Option.bind (loopO (Src_Power_L3 a1 x5) (true, 0, x5.2)) fun x14 =>
      some (.inl (W (x5.1 + 1), x14))
  else some (.inr x5.2)
noncomputable def Src_Power_L4 (a1 : Board) : Int × List Int × Int × List Running →
  Option
    (Int × List Int × Int × List Running ⊕
      List Int ×
        Int ×
          List
            Running) := fun x16 =>
  if decide (x16.1 < len a1.Sources) = true then
    Option.bind
      (Src_Pick (Src.mk x16.2.1 x16.2.2.1)
        [0, 1, 2, 2, 2, 3])
      fun x17 =>
      Option.bind (Src_N (Src.mk x17.2.1 x17.2.2.1) 5) fun x18 =>
        Option.bind
          (Src_Pick (Src.mk x18.2.1 x18.2.2) [5000, 5000, 5005, 4950])
          fun x19 =>
          Option.bind
            (Src_Pick (Src.mk x19.2.1 x19.2.2.1)
              [0, 0, 40, 1800, 3590])
            fun x20 =>
            Option.bind (app x16.2.2.2 [Running.mk x17.1 x18.1 x19.1 x20.1]) fun x21 =>
              some (.inl (W (x16.1 + 1), x20.2.1, x20.2.2.1, x21))
  else some (.inr (x16.2.1, x16.2.2.1, x16.2.2.2))
noncomputable def Src_Power_L5 (a1 : Board) : Int × List Int × Int × List Int →
  Option
    (Int × List Int × Int × List Int ⊕
      List Int ×
        Int ×
          List
            Int) := fun x23 =>
  if decide (x23.1 < len a1.Consumers) = true then
    Option.bind (idx a1.Consumers x23.1) fun x24 =>
      Option.bind (quoO x24.Load 3) fun x25 =>
        Option.bind (Src_Pick (Src.mk x23.2.1 x23.2.2.1) [x24.Load, x24.Load, x24.Least, x25]) fun x26 =>
          Option.bind (app x23.2.2.2 [x26.1]) fun x27 =>
            some (.inl (W (x23.1 + 1), x26.2.1, x26.2.2.1, x27))
  else some (.inr (x23.2.1, x23.2.2.1, x23.2.2.2))
noncomputable def Src_Power_L6 (a1 : Board) : Int × List Int × Int × List Part →
  Option
    (Int × List Int × Int × List Part ⊕
      List Int ×
        Int ×
          List
            Part) := fun x29 =>
  if decide (x29.1 ≤ 4) = true then
    Option.bind (Src_N (Src.mk x29.2.1 x29.2.2.1) 5) fun x30 =>
      Option.bind
        (if (x30.1 == 4) = true then
          Option.bind (Src_N (Src.mk x30.2.1 x30.2.2) 4) fun x31 =>
            Option.bind (dynposref15_Exists a1 (Part.mk x29.1 x31.1)) fun x32 =>
              Option.bind
                (if x32 = true then Option.bind (app x29.2.2.2 [Part.mk x29.1 x31.1]) fun x33 => some x33
                else some x29.2.2.2)
                fun x34 => some (x31.2.1, x31.2.2, x34)
        else some (x30.2.1, x30.2.2, x29.2.2.2))
        fun x35 => some (.inl (W (x29.1 + 1), x35.1, x35.2.1, x35.2.2))
  else some (.inr (x29.2.1, x29.2.2.1, x29.2.2.2))
noncomputable def Src_Power (a0 : Src) (a1 : Board) : Option ((List Int) × Int × (List Breaker) × (List Source) × (List Consumer) × (List Bool) × (List Running) × (List Int) × (List Part)) :=
  Option.bind (loopO (Src_Power_L1 a1) (0, a0.L, a0.At, [])) fun x4 =>
    Option.bind (loopO (Src_Power_L2 a1) (0, x4.2.2)) fun x15 =>
      Option.bind (loopO (Src_Power_L4 a1) (0, x4.1, x4.2.1, [])) fun x22 =>
        Option.bind (loopO (Src_Power_L5 a1) (0, x22.1, x22.2.1, [])) fun x28 =>
          Option.bind (loopO (Src_Power_L6 a1) (1, x28.1, x28.2.1, [])) fun x36 =>
            some
              (x36.1, x36.2.1, a1.Breakers, a1.Sources, a1.Consumers, x15, x22.2.2, x28.2.2, x36.2.2)
noncomputable def c42 : Con D := ⟨42, [.lf (.sl 0), .lf (.int .i64), .lf (.int .i64), .lf (.sl 5), .lf (.sl 6), .lf (.sl 7), .lf (.int .i64), .lf (.int .i64)], [.lf (.sl 0), .lf (.int .i64), .lf (.sl 5), .lf (.sl 6), .lf (.sl 7), .lf (.sl 1), .lf (.sl 9), .lf (.sl 0), .lf (.sl 10)], [.one (.ptr 1000 0), .agg [.h 2 [], .own 1001, .own 1002, .own 1003, .h 6 [], .h 7 []]], [(1000, .box [.h 0 [0], .h 1 []]), (1001, .sl 5 44 3 []), (1002, .sl 6 89 4 []), (1003, .sl 7 57 5 [0])], [.agg [.own 1004, .own 1005, .own 1006, .own 1007]], [(1000, .box [.h 0 [0], .h 1 []]), (1001, .sl 5 44 2 []), (1002, .sl 6 89 3 []), (1003, .sl 7 57 4 [0]), (1004, .sl 1 4 5 []), (1005, .sl 9 48 6 []), (1006, .sl 0 3 7 []), (1007, .sl 10 84 8 [])], fun h => Src_Power ⟨h.1, h.2.1⟩ ⟨h.2.2.1, h.2.2.2.1, h.2.2.2.2.1, h.2.2.2.2.2.1, h.2.2.2.2.2.2.1, h.2.2.2.2.2.2.2⟩⟩
theorem c42_ok : ConOk Tryz.prog T c42 := fn_ok (Φ := [c30, c53, c79]) (rs := [.cell 4 34]) (an := (.n none .o (.n none .o (.n none (.n none .o (.n none (.loop ⟨[.lf (.int .i64), .lf (.sl 0), .lf (.int .i64), .lf (.sl 1)], [(17, .one (.h 0 []))], [(1000, .box [.h 1 [0], .h 2 []]), (2128, .box [.own 2448, .nils, .nils, .nils]), (2448, .sl 1 4 3 [])], [1000, 2128], 2512⟩ true [(.exit 0, ⟨[.lf (.sl 0), .lf (.int .i64), .lf (.sl 1)], [], [(1000, .box [.h 0 [0], .h 1 []]), (2128, .box [.own 2448, .nils, .nils, .nils]), (2448, .sl 1 4 2 [])], [1000, 2128], 2512⟩)] .o) .o)) (.n none (.n none .o (.n none (.loop ⟨[.lf (.int .i64), .lf (.sl 1)], [(31, .one (.h 0 []))], [(2448, .sl 1 4 1 [])], [2448], 2835⟩ true [(.exit 2, ⟨[.lf (.sl 1)], [], [(2448, .sl 1 4 0 [])], [2448], 2835⟩)] (.n none .o (.n none .o (.n none (.n none (.n none .o (.n none .o (.n none .o (.n none (.loop ⟨[.lf .bool, .lf (.int .i64), .lf (.sl 1)], [(7, .one (.h 0 [])), (37, .one (.h 1 []))], [(2448, .sl 1 4 2 [])], [2448], 3413⟩ true [(.exit 4, ⟨[.lf (.sl 1)], [], [(2448, .sl 1 4 0 [])], [2448], 3413⟩)] (.n none .o (.n none .o (.n none (.n none (.n none .o (.n none (.r (some (true, [(.normal, ⟨[.lf .bool], [(46, .one (.any)), (47, .one (.any)), (48, .one (.any)), (49, .one (.any)), (52, .one (.any)), (53, .one (.any)), (54, .one (.any)), (55, .one (.any)), (56, .one (.any)), (57, .one (.h 0 []))], [], [], 3928⟩)])) .nil) (.n (some (true, [(.normal, ⟨[.lf .bool, .lf (.sl 1)], [(7, .one (.h 0 []))], [(2448, .sl 1 4 1 [])], [2448], 3993⟩)])) .o .o))) .o) .o)))) .o)))) .o) .o)))) .o)) (.n none (.n none .o (.n none (.loop ⟨[.lf (.int .i64), .lf (.sl 0), .lf (.int .i64), .lf (.sl 9)], [(68, .one (.h 0 []))], [(1000, .box [.h 1 [0], .h 2 []]), (2128, .box [.own 2448, .own 3092, .nils, .nils]), (3092, .sl 9 48 3 [])], [1000, 2128], 3156⟩ true [(.exit 6, ⟨[.lf (.sl 0), .lf (.int .i64), .lf (.sl 9)], [], [(1000, .box [.h 0 [0], .h 1 []]), (2128, .box [.own 2448, .own 3092, .nils, .nils]), (3092, .sl 9 48 2 [])], [1000, 2128], 3156⟩)] .o) .o)) (.n none (.n none .o (.n none (.loop ⟨[.lf (.int .i64), .lf (.sl 0), .lf (.int .i64), .lf (.sl 0)], [(91, .one (.h 0 []))], [(1000, .box [.h 1 [0], .h 2 []]), (2128, .box [.own 2448, .own 3092, .own 3415, .nils]), (3415, .sl 0 3 3 [])], [1000, 2128], 3479⟩ true [(.exit 8, ⟨[.lf (.sl 0), .lf (.int .i64), .lf (.sl 0)], [], [(1000, .box [.h 0 [0], .h 1 []]), (2128, .box [.own 2448, .own 3092, .own 3415, .nils]), (3415, .sl 0 3 2 [])], [1000, 2128], 3479⟩)] .o) .o)) (.n none (.n none .o (.n none (.loop ⟨[.lf (.int .i64), .lf (.sl 0), .lf (.int .i64), .lf (.sl 10)], [(12, .one (.h 0 []))], [(1000, .box [.h 1 [0], .h 2 []]), (2128, .box [.own 2448, .own 3092, .own 3415, .own 3546]), (3546, .sl 10 84 3 [])], [1000, 2128], 3610⟩ true [(.exit 10, ⟨[.lf (.sl 0), .lf (.int .i64), .lf (.sl 10)], [], [(1000, .box [.h 0 [0], .h 1 []]), (2128, .box [.own 2448, .own 3092, .own 3415, .own 3546]), (3546, .sl 10 84 2 [])], [1000, 2128], 3610⟩)] (.n none .o (.n none (.n none (.n none .o (.n (some (true, [(.normal, ⟨[.lf (.sl 0), .lf (.int .i64), .lf (.sl 10)], [], [(1000, .box [.h 0 [0], .h 1 []]), (2128, .box [.own 2448, .own 3092, .own 3415, .own 3934]), (3934, .sl 10 84 2 [])], [1000, 2128, 3546], 3998⟩)])) (.n none .o (.n none .o (.n (some (true, [(.normal, ⟨[.lf (.sl 10)], [], [(2128, .box [.own 2448, .own 3092, .own 3415, .own 4510]), (4510, .sl 10 84 0 [])], [2128, 3546], 4574⟩)])) .o .o))) .o)) .o) .o))) .o)) .o)))))))) pOk repOk (AllC.mem (⟨c30_ok, c53_ok, c79_ok, trivial⟩ : AllC _ _ [c30, c53, c79])) hmix Tryz.call42 Tryz.func42 rfl rfl (by kernel_rfl) (fun h => by kernel_rfl)

noncomputable def dynposlaw18_world (a0 : Src) : Option (Int × Int × Int × (List Int) × Int × (List Breaker) × (List Source) × (List Consumer) × (List Bool) × (List Running) × (List Int) × (List Part)) :=
  Option.bind (Src_Board a0) fun x1 =>
    Option.bind
      (Src_Power (Src.mk x1.2.2.2.1 x1.2.2.2.2.1)
        (Board.mk x1.1 x1.2.2.2.2.2.1 x1.2.2.2.2.2.2.1 x1.2.2.2.2.2.2.2
          x1.2.1 x1.2.2.1))
      fun x2 =>
      some
        (x1.1, x1.2.1, x1.2.2.1, x2.1, x2.2.1, x2.2.2.1, x2.2.2.2.1,
          x2.2.2.2.2.1, x2.2.2.2.2.2.1, x2.2.2.2.2.2.2.1,
          x2.2.2.2.2.2.2.2.1, x2.2.2.2.2.2.2.2.2)
noncomputable def c10 : Con D := ⟨10, [.lf (.sl 0), .lf (.int .i64)], [.lf (.int .i64), .lf (.int .i64), .lf (.int .i64), .lf (.sl 0), .lf (.int .i64), .lf (.sl 5), .lf (.sl 6), .lf (.sl 7), .lf (.sl 1), .lf (.sl 9), .lf (.sl 0), .lf (.sl 10)], [.one (.ptr 1000 0)], [(1000, .box [.h 0 [0], .h 1 []])], [.agg [.h 0 [], .own 1001, .own 1002, .own 1003, .h 1 [], .h 2 []], .agg [.own 1004, .own 1005, .own 1006, .own 1007]], [(1000, .box [.h 3 [0, 1], .h 4 []]), (1001, .sl 5 44 5 []), (1002, .sl 6 89 6 []), (1003, .sl 7 57 7 [0, 1]), (1004, .sl 1 4 8 []), (1005, .sl 9 48 9 []), (1006, .sl 0 3 10 []), (1007, .sl 10 84 11 [])], fun h => dynposlaw18_world ⟨h.1, h.2⟩⟩
theorem c10_ok : ConOk Tryz.prog T c10 := fn_ok (Φ := [c41, c42]) (rs := [.cell 2 29, .cell 3 34]) (an := .o) pOk repOk (AllC.mem (⟨c41_ok, c42_ok, trivial⟩ : AllC _ _ [c41, c42])) hmix Tryz.call10 Tryz.func10 rfl rfl (by kernel_rfl) (fun h => by kernel_rfl)

noncomputable def dynposref15_of_L1 (a0 : Board) (a1 : Int) (a2 : Int) : Int × List Int →
  Option
    (Int × List Int ⊕
      List
        Int) := fun x1 =>
  if decide (x1.1 < len a0.Breakers) = true then
    Option.bind (idx a0.Breakers x1.1) fun x2 =>
      Option.bind
        (if (x2.Kind == a1) = true then
          if (x2.B == a2) = true then some true
          else if (a1 == 1) = true then some (x2.A == a2) else some false
        else some false)
        fun x3 =>
        Option.bind (if x3 = true then Option.bind (app x1.2 [x1.1]) fun x4 => some x4 else some x1.2) fun x5 =>
          some (.inl (W (x1.1 + 1), x5))
  else some (.inr x1.2)
noncomputable def dynposref15_of (a0 : Board) (a1 : Int) (a2 : Int) : Option ((List Int)) := Option.bind (loopO (dynposref15_of_L1 a0 a1 a2) (0, [])) fun x6 => some x6
noncomputable def c55 : Con D := ⟨55, [.lf (.int .i64), .lf (.sl 5), .lf (.sl 6), .lf (.sl 7), .lf (.int .i64), .lf (.int .i64), .lf (.int .i64), .lf (.int .i64)], [.lf (.sl 0)], [.agg [.h 0 [], .h 1 [0], .h 2 [0], .h 3 [0], .h 4 [], .h 5 []], .one (.h 6 []), .one (.h 7 [])], [], [.one (.own 1000)], [(1000, .sl 0 3 0 [])], fun h => dynposref15_of ⟨h.1, h.2.1, h.2.2.1, h.2.2.2.1, h.2.2.2.2.1, h.2.2.2.2.2.1⟩ h.2.2.2.2.2.2.1 h.2.2.2.2.2.2.2⟩
theorem c55_ok : ConOk Tryz.prog T c55 := fn_ok (Φ := []) (rs := [.tmp 6]) (an := (.n none .o (.n none .o (.n none (.n none .o (.n none (.loop ⟨[.lf (.int .i64), .lf (.sl 0)], [(7, .one (.own 2448)), (13, .one (.h 0 []))], [(2448, .sl 0 3 1 [])], [], 2512⟩ true [(.exit 0, ⟨[.lf (.sl 0)], [(7, .one (.own 2448))], [(2448, .sl 0 3 0 [])], [], 2512⟩)] (.n none .o (.n none .o (.n none (.n none (.n none .o (.n none (.r (some (true, [(.normal, ⟨[.lf .bool], [(23, .one (.any)), (24, .one (.any)), (25, .one (.any)), (26, .one (.any)), (27, .one (.any)), (28, .one (.any)), (29, .one (.any)), (30, .one (.any)), (31, .one (.any)), (32, .one (.any)), (33, .one (.any)), (34, .one (.any)), (35, .one (.any)), (36, .one (.any)), (37, .one (.h 0 []))], [], [], 3026⟩)])) .nil) (.n (some (true, [(.normal, ⟨[.lf (.sl 0)], [(7, .one (.own 3027))], [(3027, .sl 0 3 0 [])], [2448], 3091⟩)])) .o .o))) .o) .o)))) .o)) .o)))) pOk repOk (AllC.mem (l := []) trivial) hmix Tryz.call55 Tryz.func55 rfl rfl (by kernel_rfl) (fun h => by kernel_rfl)

noncomputable def dynposref15_breakers_L2 (x2 : Breaker) (x5 : List
  Breaker) : Int →
  Option
    (Int ⊕
      Unit ⊕
        Unit ⊕
          Unit ⊕
            Int ⊕
              Unit ⊕
                Bool) := fun x6 =>
  if decide (x6 < len x5) = true then
    Option.bind (idx x5 x6) fun x7 =>
      if (x7.Kind == x2.Kind && (x7.A == x2.A && x7.B == x2.B)) = true then
        some (.inr (.inr (.inr (.inr (.inr (.inr false))))))
      else some (.inl (W (x6 + 1)))
  else some (.inr (.inl ()))
noncomputable def dynposref15_breakers_L1 (a0 : Board) : Int →
  Option
    (Int ⊕
      Unit ⊕
        Bool) := fun x1 =>
  if decide (x1 < len a0.Breakers) = true then
    Option.bind (idx a0.Breakers x1) fun x2 =>
      Option.bind (dynposref15_within x2.A 0 (W (a0.Buses - 1))) fun x3 =>
        if (!x3) = true then some (.inr (.inr false))
        else
          Option.bind
            (if (x2.Kind == 1) = true then
              Option.bind (dynposref15_within x2.B (W (x2.A + 1)) (W (a0.Buses - 1))) fun x15 =>
                if (!x15) = true then some (.inr (.inr (.inr false))) else some (.inl ())
            else
              Option.bind
                (if (x2.Kind == 2) = true then
                  Option.bind (dynposref15_within x2.B 0 (W (len a0.Sources - 1))) fun x11 =>
                    if (!x11) = true then some (.inr (.inr (.inr (.inr false))))
                    else some (.inl ())
                else
                  if (x2.Kind == 3) = true then
                    Option.bind (dynposref15_within x2.B 0 (W (len a0.Consumers - 1))) fun x4 =>
                      if (!x4) = true then some (.inr (.inr (.inr (.inr false))))
                      else
                        Option.bind (slc a0.Breakers 0 x1) fun x5 =>
                          Option.bind (loopO (dynposref15_breakers_L2 x2 x5) 0) fun x8 =>
                            Sum.elim (fun x9 => some (.inl ())) (fun x10 => some x10) x8
                  else some (.inr (.inr (.inr (.inr false)))))
                fun x12 => Sum.elim (fun x13 => some (.inl ())) (fun x14 => some x14) x12)
            fun x16 => Sum.elim (fun x17 => some (.inl (W (x1 + 1)))) (fun x18 => some x18) x16
  else some (.inr (.inl ()))
noncomputable def dynposref15_breakers_L3 (a0 : Board) : Int →
  Option
    (Int ⊕
      Unit ⊕
        Bool) := fun x21 =>
  if decide (x21 < len a0.Sources) = true then
    Option.bind (dynposref15_of a0 2 x21) fun x22 =>
      if (len x22 != 1) = true then some (.inr (.inr false)) else some (.inl (W (x21 + 1)))
  else some (.inr (.inl ()))
noncomputable def dynposref15_breakers_L4 (a0 : Board) : Int →
  Option
    (Int ⊕
      Unit ⊕
        Bool) := fun x25 =>
  if decide (x25 < len a0.Consumers) = true then
    Option.bind (dynposref15_of a0 3 x25) fun x26 =>
      if decide (len x26 < 1) = true then some (.inr (.inr false))
      else some (.inl (W (x25 + 1)))
  else some (.inr (.inl ()))
noncomputable def dynposref15_breakers (a0 : Board) : Option (Bool) :=
  Option.bind (loopO (dynposref15_breakers_L1 a0) 0) fun x19 =>
    Sum.elim
      (fun x20 =>
        Option.bind (loopO (dynposref15_breakers_L3 a0) 0) fun x23 =>
          Sum.elim
            (fun x24 =>
              Option.bind (loopO (dynposref15_breakers_L4 a0) 0) fun x27 =>
                Sum.elim (fun x28 => some true) (fun x29 => some x29) x27)
            (fun x30 => some x30) x23)
      (fun x31 => some x31) x19
noncomputable def c91 : Con D := ⟨91, [.lf (.int .i64), .lf (.sl 5), .lf (.sl 6), .lf (.sl 7), .lf (.int .i64), .lf (.int .i64)], [.lf .bool], [.agg [.h 0 [], .h 1 [0], .h 2 [0], .h 3 [0], .h 4 [], .h 5 []]], [], [.one (.h 0 [])], [], fun h => dynposref15_breakers ⟨h.1, h.2.1, h.2.2.1, h.2.2.2.1, h.2.2.2.2.1, h.2.2.2.2.2⟩⟩
theorem c91_ok : ConOk Tryz.prog T c91 := fn_ok (Φ := [c52, c55]) (rs := [.tmp 2]) (an := (.n none .o (.n none (.n none .o (.n none (.loop ⟨[.lf (.int .i64)], [(12, .one (.h 0 []))], [], [], 2448⟩ false [(.exit 0, ⟨[], [], [], [], 2448⟩)] (.n none .o (.n none .o (.n none (.n none (.n none .o (.n none .o (.n none .o (.n none (.n none .o (.n (some (false, [(.normal, ⟨[], [], [], [], 3665⟩)])) .o (.n none .o (.n (some (false, [(.normal, ⟨[], [], [], [], 3793⟩)])) .o (.n none .o (.n none (.n none .o (.n none .o (.n none (.loop ⟨[.lf (.int .i64)], [(63, .one (.h 0 []))], [], [], 4817⟩ false [(.exit 3, ⟨[], [], [], [], 4817⟩)] .o) .o))) .o)))))) .o)))) .o) .o)))) .o)) (.n none (.n none .o (.n none (.loop ⟨[.lf (.int .i64)], [(75, .one (.h 0 []))], [], [], 2768⟩ false [(.exit 5, ⟨[], [], [], [], 2768⟩)] .o) .o)) (.n none (.n none .o (.n none (.loop ⟨[.lf (.int .i64)], [(87, .one (.h 0 []))], [], [], 3088⟩ false [(.exit 7, ⟨[], [], [], [], 3088⟩)] .o) .o)) .o))))) pOk repOk (AllC.mem (⟨c52_ok, c55_ok, trivial⟩ : AllC _ _ [c52, c55])) hmix Tryz.call91 Tryz.func91 rfl rfl (by kernel_rfl) (fun h => by kernel_rfl)

noncomputable def dynposref15_sources_L1 (a0 : Board) : Int →
  Option
    (Int ⊕
      Unit ⊕
        Bool) := fun x1 =>
  if decide (x1 < len a0.Sources) = true then
    Option.bind (idx a0.Sources x1) fun x2 =>
      Option.bind
        (Option.bind (dynposref15_within x2.Rating 1 50000) fun x3 =>
          if (!x3) = true then some true
          else
            Option.bind (dynposref15_within x2.Least 0 x2.Rating) fun x4 =>
              if (!x4) = true then some true
              else Option.bind (dynposref15_within x2.Start 0 600) fun x5 => some !x5)
        fun x6 => if x6 = true then some (.inr (.inr false)) else some (.inl (W (x1 + 1)))
  else some (.inr (.inl ()))
noncomputable def dynposref15_sources (a0 : Board) : Option (Bool) :=
  Option.bind (loopO (dynposref15_sources_L1 a0) 0) fun x7 =>
    Sum.elim (fun x8 => some true) (fun x9 => some x9) x7
noncomputable def c92 : Con D := ⟨92, [.lf (.int .i64), .lf (.sl 5), .lf (.sl 6), .lf (.sl 7), .lf (.int .i64), .lf (.int .i64)], [.lf .bool], [.agg [.h 0 [], .h 1 [0], .h 2 [0], .h 3 [0], .h 4 [], .h 5 []]], [], [.one (.h 0 [])], [], fun h => dynposref15_sources ⟨h.1, h.2.1, h.2.2.1, h.2.2.2.1, h.2.2.2.2.1, h.2.2.2.2.2⟩⟩
theorem c92_ok : ConOk Tryz.prog T c92 := fn_ok (Φ := [c52]) (rs := [.tmp 2]) (an := (.n none .o (.n none (.n none .o (.n none (.loop ⟨[.lf (.int .i64)], [(8, .one (.h 0 []))], [], [], 2448⟩ false [(.exit 0, ⟨[], [], [], [], 2448⟩)] (.n none .o (.n none .o (.n none (.n none (.n none .o (.n none (.r (some (true, [(.normal, ⟨[.lf .bool], [(17, .one (.any)), (18, .one (.any)), (19, .one (.any)), (20, .one (.any)), (21, .one (.any)), (22, .one (.any)), (25, .one (.any)), (26, .one (.any)), (27, .one (.any)), (28, .one (.any)), (29, .one (.h 0 []))], [], [], 2833⟩)])) .nil) .o)) .o) .o)))) .o)) .o))) pOk repOk (AllC.mem (⟨c52_ok, trivial⟩ : AllC _ _ [c52])) hmix Tryz.call92 Tryz.func92 rfl rfl (by kernel_rfl) (fun h => by kernel_rfl)

noncomputable def dynposref15_consumers_L2 (x1 : Int) (x2 : Consumer) : Int →
  Option
    (Int ⊕
      Unit ⊕
        Int ⊕
          Unit ⊕
            Bool) := fun x8 =>
  if decide (x8 < len x2.Needs) = true then
    Option.bind (idx x2.Needs x8) fun x9 =>
      Option.bind
        (Option.bind (dynposref15_within x9 0 (W (x1 - 1))) fun x10 =>
          if (!x10) = true then some true
          else
            if decide (x8 > 0) = true then
              Option.bind (idx x2.Needs (W (x8 - 1))) fun x11 => some (decide (x11 ≥ x9))
            else some false)
        fun x12 =>
        if x12 = true then some (.inr (.inr (.inr (.inr false)))) else some (.inl (W (x8 + 1)))
  else some (.inr (.inl ()))
noncomputable def dynposref15_consumers_L1 (a0 : Board) : Int →
  Option
    (Int ⊕
      Unit ⊕
        Bool) := fun x1 =>
  if decide (x1 < len a0.Consumers) = true then
    Option.bind (idx a0.Consumers x1) fun x2 =>
      Option.bind
        (Option.bind (dynposref15_within x2.Load 0 50000) fun x3 =>
          if (!x3) = true then some true
          else
            Option.bind (dynposref15_within x2.Least 0 x2.Load) fun x4 =>
              if (!x4) = true then some true
              else
                Option.bind (dynposref15_within x2.Preference 0 15) fun x5 =>
                  if (!x5) = true then some true
                  else
                    Option.bind (dynposref15_within x2.Thruster (-1) 7) fun x6 =>
                      if (!x6) = true then some true else some (decide (len x2.Needs > 4)))
        fun x7 =>
        if x7 = true then some (.inr (.inr false))
        else
          Option.bind (loopO (dynposref15_consumers_L2 x1 x2) 0) fun x13 =>
            Sum.elim (fun x14 => some (.inl (W (x1 + 1)))) (fun x15 => some x15) x13
  else some (.inr (.inl ()))
noncomputable def dynposref15_consumers (a0 : Board) : Option (Bool) :=
  Option.bind (loopO (dynposref15_consumers_L1 a0) 0) fun x16 =>
    Sum.elim (fun x17 => some true) (fun x18 => some x18) x16
noncomputable def c93 : Con D := ⟨93, [.lf (.int .i64), .lf (.sl 5), .lf (.sl 6), .lf (.sl 7), .lf (.int .i64), .lf (.int .i64)], [.lf .bool], [.agg [.h 0 [], .h 1 [0], .h 2 [0], .h 3 [0], .h 4 [], .h 5 []]], [], [.one (.h 0 [])], [], fun h => dynposref15_consumers ⟨h.1, h.2.1, h.2.2.1, h.2.2.2.1, h.2.2.2.2.1, h.2.2.2.2.2⟩⟩
theorem c93_ok : ConOk Tryz.prog T c93 := fn_ok (Φ := [c52]) (rs := [.tmp 2]) (an := (.n none .o (.n none (.n none .o (.n none (.loop ⟨[.lf (.int .i64)], [(10, .one (.h 0 []))], [], [], 2448⟩ false [(.exit 0, ⟨[], [], [], [], 2448⟩)] (.n none .o (.n none .o (.n none (.n none (.n none .o (.n none (.n none (.r (some (true, [(.normal, ⟨[.lf .bool], [(20, .one (.any)), (21, .one (.any)), (22, .one (.any)), (23, .one (.any)), (24, .one (.any)), (25, .one (.any)), (28, .one (.any)), (29, .one (.any)), (30, .one (.any)), (31, .one (.any)), (34, .one (.any)), (35, .one (.any)), (36, .one (.any)), (37, .one (.any)), (40, .one (.any)), (41, .one (.any)), (42, .one (.any)), (43, .one (.any)), (44, .one (.h 0 []))], [], [], 2961⟩)])) .nil) .o) (.n none .o (.n none (.loop ⟨[.lf (.int .i64)], [(48, .one (.h 0 []))], [], [], 3282⟩ false [(.exit 2, ⟨[], [], [], [], 3282⟩)] (.n none .o (.n none .o (.n none (.n none (.n none .o (.n none (.r (some (true, [(.normal, ⟨[.lf .bool], [(59, .one (.any)), (60, .one (.any)), (61, .one (.any)), (62, .one (.any)), (63, .one (.any)), (64, .one (.any)), (65, .one (.any)), (66, .one (.any)), (67, .one (.any)), (68, .one (.any)), (69, .one (.any)), (70, .one (.any)), (71, .one (.h 0 []))], [], [], 3731⟩)])) .nil) .o)) .o) .o)))) .o)))) .o) .o)))) .o)) .o))) pOk repOk (AllC.mem (⟨c52_ok, trivial⟩ : AllC _ _ [c52])) hmix Tryz.call93 Tryz.func93 rfl rfl (by kernel_rfl) (fun h => by kernel_rfl)

noncomputable def dynposref15_Check (a0 : Board) : Option (Int) :=
  Option.bind
    (if decide (a0.Buses < 1) = true then some true
    else
      if decide (a0.Buses > 6) = true then some true
      else
        if decide (len a0.Breakers > 24) = true then some true
        else
          if decide (len a0.Sources > 8) = true then some true
          else some (decide (len a0.Consumers > 16)))
    fun x1 =>
    if x1 = true then some 2
    else
      Option.bind
        (Option.bind (dynposref15_breakers a0) fun x2 =>
          if (!x2) = true then some true
          else
            Option.bind (dynposref15_sources a0) fun x3 =>
              if (!x3) = true then some true
              else
                Option.bind (dynposref15_consumers a0) fun x4 =>
                  if (!x4) = true then some true
                  else
                    if decide (a0.Phase < 0) = true then some true
                    else
                      if decide (a0.Phase > 1800) = true then some true
                      else
                        if decide (a0.Frequency < 0) = true then some true
                        else some (decide (a0.Frequency > 6000)))
        fun x5 => if x5 = true then some 14 else some 0
noncomputable def c51 : Con D := ⟨51, [.lf (.int .i64), .lf (.sl 5), .lf (.sl 6), .lf (.sl 7), .lf (.int .i64), .lf (.int .i64)], [.lf (.int .i64)], [.agg [.h 0 [], .h 1 [0], .h 2 [0], .h 3 [0], .h 4 [], .h 5 []]], [], [.one (.h 0 [])], [], fun h => dynposref15_Check ⟨h.1, h.2.1, h.2.2.1, h.2.2.2.1, h.2.2.2.2.1, h.2.2.2.2.2⟩⟩
theorem c51_ok : ConOk Tryz.prog T c51 := fn_ok (Φ := [c91, c92, c93]) (rs := [.tmp 2]) (an := (.n none .o (.n none (.n none (.r (some (true, [(.normal, ⟨[.lf .bool], [(28, .one (.h 0 []))], [], [], 2192⟩)])) .nil) .o) (.n none (.n none (.r (some (true, [(.normal, ⟨[.lf .bool], [(61, .one (.h 0 []))], [], [], 2257⟩)])) .nil) .o) .o)))) pOk repOk (AllC.mem (⟨c91_ok, c92_ok, c93_ok, trivial⟩ : AllC _ _ [c91, c92, c93])) hmix Tryz.call51 Tryz.func51 rfl rfl (by kernel_rfl) (fun h => by kernel_rfl)

noncomputable def dynposref15_Before (a0 : Part) (a1 : Part) : Option (Bool) :=
  Option.bind
    (if decide (a0.Kind < a1.Kind) = true then some true
    else if (a0.Kind == a1.Kind) = true then some (decide (a0.Number < a1.Number)) else some false)
    fun x1 => some x1
noncomputable def c54 : Con D := ⟨54, [.lf (.int .i64), .lf (.int .i64), .lf (.int .i64), .lf (.int .i64)], [.lf .bool], [.agg [.h 0 [], .h 1 []], .agg [.h 2 [], .h 3 []]], [], [.one (.h 0 [])], [], fun h => dynposref15_Before ⟨h.1, h.2.1⟩ ⟨h.2.2.1, h.2.2.2⟩⟩
theorem c54_ok : ConOk Tryz.prog T c54 := fn_ok (Φ := []) (rs := [.tmp 4]) (an := (.n none .o (.n none (.r (some (true, [(.normal, ⟨[.lf .bool], [(4, .one (.h 0 []))], [], [], 2256⟩)])) .nil) .o))) pOk repOk (AllC.mem (l := []) trivial) hmix Tryz.call54 Tryz.func54 rfl rfl (by kernel_rfl) (fun h => by kernel_rfl)

noncomputable def dynposref15_State_L1 (a1 : Power) : Int →
  Option
    (Int ⊕
      Unit ⊕
        Int) := fun x3 =>
  if decide (x3 < len a1.Sources) = true then
    Option.bind (idx a1.Sources x3) fun x4 =>
      Option.bind
        (Option.bind (dynposref15_within x4.State 0 3) fun x5 =>
          if (!x5) = true then some true
          else
            Option.bind (dynposref15_within x4.Since 0 2147483648) fun x6 =>
              if (!x6) = true then some true
              else
                Option.bind (dynposref15_within x4.Frequency 0 6000) fun x7 =>
                  if (!x7) = true then some true
                  else Option.bind (dynposref15_within x4.Phase 0 3599) fun x8 => some !x8)
        fun x9 => if x9 = true then some (.inr (.inr 11)) else some (.inl (W (x3 + 1)))
  else some (.inr (.inl ()))
noncomputable def dynposref15_State_L2 (a0 : Board) (a1 : Power) : Int →
  Option
    (Int ⊕
      Unit ⊕
        Int) := fun x12 =>
  if decide (x12 < len a1.Limits) = true then
    Option.bind (idx a1.Limits x12) fun x13 =>
      Option.bind (idx a0.Consumers x12) fun x14 =>
        Option.bind (dynposref15_within x13 0 x14.Load) fun x15 =>
          if (!x15) = true then some (.inr (.inr 11)) else some (.inl (W (x12 + 1)))
  else some (.inr (.inl ()))
noncomputable def dynposref15_State_L3 (a0 : Board) (a1 : Power) : Int →
  Option
    (Int ⊕
      Unit ⊕
        Int) := fun x18 =>
  if decide (x18 < len a1.Broken) = true then
    Option.bind (idx a1.Broken x18) fun x19 =>
      Option.bind
        (Option.bind (dynposref15_Exists a0 x19) fun x20 =>
          if (!x20) = true then some true
          else
            if decide (x18 > 0) = true then
              Option.bind (idx a1.Broken (W (x18 - 1))) fun x21 =>
                Option.bind (dynposref15_Before x21 x19) fun x22 => some !x22
            else some false)
        fun x23 =>
        if x23 = true then some (.inr (.inr 11)) else some (.inl (W (x18 + 1)))
  else some (.inr (.inl ()))
noncomputable def dynposref15_State_L5 (a1 : Power) (x27 : List
  Int) : Int × Int →
  Option
    (Int × Int ⊕
      Int) := fun x28 =>
  if decide (x28.2 < len x27) = true then
    Option.bind (idx x27 x28.2) fun x29 =>
      Option.bind (idx a1.Closed x29) fun x30 =>
        Option.bind (if x30 = true then some (W (x28.1 + 1)) else some x28.1) fun x31 =>
          some (.inl (x31, W (x28.2 + 1)))
  else some (.inr x28.1)
noncomputable def dynposref15_State_L4 (a0 : Board) (a1 : Power) : Int →
  Option
    (Int ⊕
      Unit ⊕
        Int) := fun x26 =>
  if decide (x26 < len a0.Consumers) = true then
    Option.bind (dynposref15_of a0 3 x26) fun x27 =>
      Option.bind (loopO (dynposref15_State_L5 a1 x27) (0, 0)) fun x32 =>
        if decide (x32 > 1) = true then some (.inr (.inr 11))
        else some (.inl (W (x26 + 1)))
  else some (.inr (.inl ()))
noncomputable def dynposref15_State (a0 : Board) (a1 : Power) : Option (Int) :=
  Option.bind (dynposref15_Check a0) fun x1 =>
    if (x1 != 0) = true then some x1
    else
      Option.bind
        (if (len a1.Closed != len a0.Breakers) = true then some true
        else if (len a1.Sources != len a0.Sources) = true then some true else some (len a1.Limits != len a0.Consumers))
        fun x2 =>
        if x2 = true then some 8
        else
          Option.bind (loopO (dynposref15_State_L1 a1) 0) fun x10 =>
            Sum.elim
              (fun x11 =>
                Option.bind (loopO (dynposref15_State_L2 a0 a1) 0) fun x16 =>
                  Sum.elim
                    (fun x17 =>
                      if decide (len a1.Broken > 32) = true then some 11
                      else
                        Option.bind (loopO (dynposref15_State_L3 a0 a1) 0) fun x24 =>
                          Sum.elim
                            (fun x25 =>
                              Option.bind (loopO (dynposref15_State_L4 a0 a1) 0) fun x33 =>
                                Sum.elim (fun x34 => some 0) (fun x35 => some x35) x33)
                            (fun x36 => some x36) x24)
                    (fun x37 => some x37) x16)
              (fun x38 => some x38) x10
noncomputable def c23 : Con D := ⟨23, [.lf (.int .i64), .lf (.sl 5), .lf (.sl 6), .lf (.sl 7), .lf (.int .i64), .lf (.int .i64), .lf (.sl 1), .lf (.sl 9), .lf (.sl 0), .lf (.sl 10)], [.lf (.int .i64)], [.agg [.h 0 [], .h 1 [0], .h 2 [0], .h 3 [0], .h 4 [], .h 5 []], .agg [.h 6 [0], .h 7 [0], .h 8 [0], .h 9 [0]]], [], [.one (.h 0 [])], [], fun h => dynposref15_State ⟨h.1, h.2.1, h.2.2.1, h.2.2.2.1, h.2.2.2.2.1, h.2.2.2.2.2.1⟩ ⟨h.2.2.2.2.2.2.1, h.2.2.2.2.2.2.2.1, h.2.2.2.2.2.2.2.2.1, h.2.2.2.2.2.2.2.2.2⟩⟩
theorem c23_ok : ConOk Tryz.prog T c23 := fn_ok (Φ := [c51, c52, c53, c54, c55]) (rs := [.tmp 4]) (an := (.n none .o (.n none .o (.n none (.n none (.r (some (true, [(.normal, ⟨[.lf .bool], [(45, .one (.h 0 []))], [], [], 2576⟩)])) .nil) .o) (.n none (.n none .o (.n none (.loop ⟨[.lf (.int .i64)], [(49, .one (.h 0 []))], [], [], 2897⟩ false [(.exit 0, ⟨[], [], [], [], 2897⟩)] (.n none .o (.n none .o (.n none (.n none (.n none .o (.n none (.r (some (true, [(.normal, ⟨[.lf .bool], [(58, .one (.any)), (59, .one (.any)), (60, .one (.any)), (61, .one (.any)), (64, .one (.any)), (65, .one (.any)), (66, .one (.any)), (67, .one (.any)), (70, .one (.any)), (71, .one (.any)), (72, .one (.any)), (73, .one (.any)), (74, .one (.h 0 []))], [], [], 3282⟩)])) .nil) .o)) .o) .o)))) .o)) (.n none (.n none .o (.n none (.loop ⟨[.lf (.int .i64)], [(79, .one (.h 0 []))], [], [], 3217⟩ false [(.exit 2, ⟨[], [], [], [], 3217⟩)] .o) .o)) (.n none .o (.n none (.n none .o (.n none (.loop ⟨[.lf (.int .i64)], [(101, .one (.h 0 []))], [], [], 3793⟩ false [(.exit 4, ⟨[], [], [], [], 3793⟩)] (.n none .o (.n none .o (.n none (.n none (.n none .o (.n none (.r (some (true, [(.normal, ⟨[.lf .bool], [(111, .one (.any)), (112, .one (.any)), (113, .one (.any)), (114, .one (.any)), (115, .one (.any)), (116, .one (.any)), (117, .one (.any)), (118, .one (.any)), (119, .one (.any)), (120, .one (.any)), (121, .one (.any)), (122, .one (.any)), (123, .one (.any)), (124, .one (.h 0 []))], [], [], 4306⟩)])) .nil) .o)) .o) .o)))) .o)) (.n none (.n none .o (.n none (.loop ⟨[.lf (.int .i64)], [(129, .one (.h 0 []))], [], [], 4113⟩ false [(.exit 6, ⟨[], [], [], [], 4113⟩)] (.n none .o (.n none .o (.n none (.n none (.n none .o (.n none .o (.n none (.n none .o (.n none (.loop ⟨[.lf (.int .i64), .lf (.int .i64)], [(13, .one (.h 0 [])), (136, .one (.h 1 []))], [], [], 4754⟩ true [(.exit 8, ⟨[.lf (.int .i64)], [(13, .one (.h 0 []))], [], [], 4754⟩)] (.n none .o (.n none .o (.n none (.n none (.n none .o (.n none .o (.n (some (true, [(.normal, ⟨[.lf (.int .i64)], [(13, .one (.h 0 []))], [], [], 5396⟩)])) .o .o))) .o) .o)))) .o)) .o))) .o) .o)))) .o)) .o))))))))) pOk repOk (AllC.mem (⟨c51_ok, c52_ok, c53_ok, c54_ok, c55_ok, trivial⟩ : AllC _ _ [c51, c52, c53, c54, c55])) hmix Tryz.call23 Tryz.func23 rfl rfl (by kernel_rfl) (fun h => by kernel_rfl)

noncomputable def dynposref15_Copy (a0 : Power) : Option ((List Bool) × (List Running) × (List Int) × (List Part)) :=
  Option.bind (app [] a0.Closed) fun x1 =>
    Option.bind (app [] a0.Sources) fun x2 =>
      Option.bind (app [] a0.Limits) fun x3 => Option.bind (app [] a0.Broken) fun x4 => some (x1, x2, x3, x4)
noncomputable def c39 : Con D := ⟨39, [.lf (.sl 1), .lf (.sl 9), .lf (.sl 0), .lf (.sl 10)], [.lf (.sl 1), .lf (.sl 9), .lf (.sl 0), .lf (.sl 10)], [.agg [.h 0 [0], .h 1 [0], .h 2 [0], .h 3 [0]]], [], [.agg [.own 1000, .own 1001, .own 1002, .own 1003]], [(1000, .sl 1 4 0 []), (1001, .sl 9 48 1 []), (1002, .sl 0 3 2 []), (1003, .sl 10 84 3 [])], fun h => dynposref15_Copy ⟨h.1, h.2.1, h.2.2.1, h.2.2.2⟩⟩
theorem c39_ok : ConOk Tryz.prog T c39 := fn_ok (Φ := []) (rs := [.cell 2 34]) (an := .o) pOk repOk (AllC.mem (l := []) trivial) hmix Tryz.call39 Tryz.func39 rfl rfl (by kernel_rfl) (fun h => by kernel_rfl)

noncomputable def dynposref15_Broken_L1 (a0 : Power) (a1 : Int) (a2 : Int) : Int →
  Option
    (Int ⊕
      Unit ⊕
        Bool) := fun x1 =>
  if decide (x1 < len a0.Broken) = true then
    Option.bind (idx a0.Broken x1) fun x2 =>
      Option.bind (if (x2.Kind == a1) = true then some (x2.Number == a2) else some false) fun x3 =>
        if x3 = true then some (.inr (.inr true)) else some (.inl (W (x1 + 1)))
  else some (.inr (.inl ()))
noncomputable def dynposref15_Broken (a0 : Power) (a1 : Int) (a2 : Int) : Option (Bool) :=
  Option.bind (loopO (dynposref15_Broken_L1 a0 a1 a2) 0) fun x4 =>
    Sum.elim (fun x5 => some false) (fun x6 => some x6) x4
noncomputable def c14 : Con D := ⟨14, [.lf (.sl 1), .lf (.sl 9), .lf (.sl 0), .lf (.sl 10), .lf (.int .i64), .lf (.int .i64)], [.lf .bool], [.agg [.h 0 [0], .h 1 [0], .h 2 [0], .h 3 [0]], .one (.h 4 []), .one (.h 5 [])], [], [.one (.h 0 [])], [], fun h => dynposref15_Broken ⟨h.1, h.2.1, h.2.2.1, h.2.2.2.1⟩ h.2.2.2.2.1 h.2.2.2.2.2⟩
theorem c14_ok : ConOk Tryz.prog T c14 := fn_ok (Φ := []) (rs := [.tmp 6]) (an := (.n none .o (.n none (.n none .o (.n none (.loop ⟨[.lf (.int .i64)], [(12, .one (.h 0 []))], [], [], 2448⟩ false [(.exit 0, ⟨[], [], [], [], 2448⟩)] (.n none .o (.n none .o (.n none (.n none (.n none .o (.n none (.r (some (true, [(.normal, ⟨[.lf .bool], [(21, .one (.any)), (22, .one (.any)), (23, .one (.any)), (24, .one (.any)), (25, .one (.h 0 []))], [], [], 2833⟩)])) .nil) .o)) .o) .o)))) .o)) .o))) pOk repOk (AllC.mem (l := []) trivial) hmix Tryz.call14 Tryz.func14 rfl rfl (by kernel_rfl) (fun h => by kernel_rfl)

noncomputable def dynposref18_wrong (a0 : Board) (a1 : Power) (a2 : Int) : Option (Bool) :=
  Option.bind (idx a0.Breakers a2) fun x1 =>
    Option.bind (dynposref15_Broken a1 3 x1.A) fun x2 =>
      if x2 = true then some true
      else
        if (x1.Kind == 1) = true then Option.bind (dynposref15_Broken a1 3 x1.B) fun x7 => some x7
        else
          if (x1.Kind == 2) = true then
            Option.bind
              (Option.bind (dynposref15_Broken a1 1 x1.B) fun x4 =>
                if x4 = true then some true
                else Option.bind (idx a1.Sources x1.B) fun x5 => some (x5.State != 2))
              fun x6 => some x6
          else Option.bind (dynposref15_Broken a1 4 x1.B) fun x3 => some x3
noncomputable def c49 : Con D := ⟨49, [.lf (.int .i64), .lf (.sl 5), .lf (.sl 6), .lf (.sl 7), .lf (.int .i64), .lf (.int .i64), .lf (.sl 1), .lf (.sl 9), .lf (.sl 0), .lf (.sl 10), .lf (.int .i64)], [.lf .bool], [.agg [.h 0 [], .h 1 [0], .h 2 [0], .h 3 [0], .h 4 [], .h 5 []], .agg [.h 6 [0], .h 7 [0], .h 8 [0], .h 9 [0]], .one (.h 10 [])], [], [.one (.h 0 [])], [], fun h => dynposref18_wrong ⟨h.1, h.2.1, h.2.2.1, h.2.2.2.1, h.2.2.2.2.1, h.2.2.2.2.2.1⟩ ⟨h.2.2.2.2.2.2.1, h.2.2.2.2.2.2.2.1, h.2.2.2.2.2.2.2.2.1, h.2.2.2.2.2.2.2.2.2.1⟩ h.2.2.2.2.2.2.2.2.2.2⟩
theorem c49_ok : ConOk Tryz.prog T c49 := fn_ok (Φ := [c14]) (rs := [.tmp 6]) (an := (.n none .o (.n none .o (.n none .o (.n none (.n none .o (.n none (.n none .o (.n none .o (.n none .o (.n none (.n none (.r (some (true, [(.normal, ⟨[.lf .bool], [(6, .one (.h 0 []))], [], [], 3344⟩)])) .nil) .o) .o)))) .o)) .o))))) pOk repOk (AllC.mem (⟨c14_ok, trivial⟩ : AllC _ _ [c14])) hmix Tryz.call49 Tryz.func49 rfl rfl (by kernel_rfl) (fun h => by kernel_rfl)

noncomputable def dynposref15_reach_L2 (a0 : Board) (a1 : Power) : Int × List Bool →
  Option
    (Int × List Bool ⊕
      List
        Bool) := fun x6 =>
  if decide (x6.1 < len a0.Breakers) = true then
    Option.bind (idx a0.Breakers x6.1) fun x7 =>
      Option.bind
        (if (x7.Kind == 1) = true then
          Option.bind (idx a1.Closed x6.1) fun x8 =>
            if x8 = true then
              Option.bind (idx x6.2 x7.A) fun x9 =>
                if x9 = true then some true else Option.bind (idx x6.2 x7.B) fun x10 => some x10
            else some false
        else some false)
        fun x11 =>
        Option.bind
          (if x11 = true then
            Option.bind (idx x6.2 x7.A) fun x12 =>
              Option.bind (idx x6.2 x7.A) fun x13 =>
                Option.bind (setO x6.2 x7.A true) fun x14 =>
                  Option.bind (idx x14 x7.B) fun x15 =>
                    Option.bind (idx x14 x7.B) fun x16 => Option.bind (setO x14 x7.B true) fun x17 => some x17
          else some x6.2)
          fun x18 => some (.inl (W (x6.1 + 1), x18))
  else some (.inr x6.2)
noncomputable def dynposref15_reach_L1 (a0 : Board) (a1 : Power) (x4 : List
  Bool) : Int × List Bool →
  Option
    (Int × List Bool ⊕
      List
        Bool) := fun x5 =>
  if decide (x5.1 < len x4) = true then
    Option.bind (loopO (dynposref15_reach_L2 a0 a1) (0, x5.2)) fun x19 =>
      some (.inl (W (x5.1 + 1), x19))
  else some (.inr x5.2)
noncomputable def dynposref15_reach_L3 (x20 : List
  Bool) : Int × List Int →
  Option
    (Int × List Int ⊕
      List
        Int) := fun x21 =>
  if decide (x21.1 < len x20) = true then
    Option.bind (idx x20 x21.1) fun x22 =>
      Option.bind (if x22 = true then Option.bind (app x21.2 [x21.1]) fun x23 => some x23 else some x21.2)
        fun x24 => some (.inl (W (x21.1 + 1), x24))
  else some (.inr x21.2)
noncomputable def dynposref15_reach (a0 : Board) (a1 : Power) (a2 : Int) : Option ((List Int)) :=
  Option.bind (mkZ false a0.Buses) fun x1 =>
    Option.bind (idx x1 a2) fun x2 =>
      Option.bind (idx x1 a2) fun x3 =>
        Option.bind (setO x1 a2 true) fun x4 =>
          Option.bind (loopO (dynposref15_reach_L1 a0 a1 x4) (0, x4)) fun x20 =>
            Option.bind (loopO (dynposref15_reach_L3 x20) (0, [])) fun x25 => some x25
noncomputable def c85 : Con D := ⟨85, [.lf (.int .i64), .lf (.sl 5), .lf (.sl 6), .lf (.sl 7), .lf (.int .i64), .lf (.int .i64), .lf (.sl 1), .lf (.sl 9), .lf (.sl 0), .lf (.sl 10), .lf (.int .i64)], [.lf (.sl 0)], [.agg [.h 0 [], .h 1 [0], .h 2 [0], .h 3 [0], .h 4 [], .h 5 []], .agg [.h 6 [0], .h 7 [0], .h 8 [0], .h 9 [0]], .one (.h 10 [])], [], [.one (.own 1000)], [(1000, .sl 0 3 0 [])], fun h => dynposref15_reach ⟨h.1, h.2.1, h.2.2.1, h.2.2.2.1, h.2.2.2.2.1, h.2.2.2.2.2.1⟩ ⟨h.2.2.2.2.2.2.1, h.2.2.2.2.2.2.2.1, h.2.2.2.2.2.2.2.2.1, h.2.2.2.2.2.2.2.2.2.1⟩ h.2.2.2.2.2.2.2.2.2.2⟩
theorem c85_ok : ConOk Tryz.prog T c85 := fn_ok (Φ := []) (rs := [.tmp 6]) (an := (.n none .o (.n none .o (.n none .o (.n none (.n none .o (.n none (.loop ⟨[.lf (.int .i64), .lf (.sl 1)], [(20, .one (.h 0 []))], [(2320, .sl 1 4 1 [])], [2320], 2960⟩ true [(.exit 0, ⟨[.lf (.sl 1)], [], [(2320, .sl 1 4 0 [])], [2320], 2960⟩)] (.n none .o (.n none .o (.n none (.n none (.n none .o (.n none (.loop ⟨[.lf (.int .i64), .lf (.sl 1)], [(25, .one (.h 0 []))], [(2320, .sl 1 4 1 [])], [2320], 3346⟩ true [(.exit 2, ⟨[.lf (.sl 1)], [], [(2320, .sl 1 4 0 [])], [2320], 3346⟩)] (.n none .o (.n none .o (.n none (.n none (.n none .o (.n none (.r (some (true, [(.normal, ⟨[.lf .bool], [(34, .one (.any)), (35, .one (.any)), (36, .one (.any)), (37, .one (.any)), (38, .one (.any)), (41, .one (.any)), (42, .one (.any)), (43, .one (.any)), (44, .one (.any)), (45, .one (.any)), (46, .one (.any)), (47, .one (.any)), (48, .one (.any)), (49, .one (.any)), (50, .one (.any)), (51, .one (.any)), (52, .one (.any)), (53, .one (.h 0 []))], [], [], 3860⟩)])) .nil) (.n (some (true, [(.normal, ⟨[.lf (.sl 1)], [], [(2320, .sl 1 4 0 [])], [2320], 3925⟩)])) .o .o))) .o) .o)))) .o)) .o) .o)))) .o)) (.n none .o (.n none (.n none .o (.n none (.loop ⟨[.lf (.int .i64), .lf (.sl 0)], [(10, .one (.own 3217)), (66, .one (.h 0 []))], [(3217, .sl 0 3 1 [])], [], 3281⟩ true [(.exit 4, ⟨[.lf (.sl 0)], [(10, .one (.own 3217))], [(3217, .sl 0 3 0 [])], [], 3281⟩)] (.n none .o (.n none .o (.n none (.n none (.n none .o (.n none .o (.n (some (true, [(.normal, ⟨[.lf (.sl 0)], [(10, .one (.own 3731))], [(3731, .sl 0 3 0 [])], [3217], 3795⟩)])) .o .o))) .o) .o)))) .o)) .o))))))) pOk repOk (AllC.mem (l := []) trivial) hmix Tryz.call85 Tryz.func85 rfl rfl (by kernel_rfl) (fun h => by kernel_rfl)

end Rx
end Go.Proofs.YtfnphdhcgkondaaGreat
