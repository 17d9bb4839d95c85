/- Plain functions, walks. Written by a program (wip/gen). -/
import Derived.Test.YtfnphdhcgkondaaGreatRt
set_option linter.unusedVariables false
set_option maxRecDepth 100000
namespace Go.Proofs.YtfnphdhcgkondaaGreat
open Go Go.RowKit Dp
namespace Rx

noncomputable def dynposmake_New (a0 : (List Int)) : Option ((List Int) × Int) := Option.bind (slc a0 0 (imin (len a0) 600)) fun x1 => some (x1, 0)
noncomputable def c9 : Con D := ⟨9, [.lf (.sl 0)], [.lf (.sl 0), .lf (.int .i64)], [.one (.h 0 [0])], [], [.one (.ptr 1000 0)], [(1000, .box [.h 0 [0], .h 1 []])], fun h => dynposmake_New h⟩
theorem c9_ok : ConOk Tryz.prog T c9 := fn_ok (Φ := []) (rs := [.tmp 2]) (an := .o) pOk repOk (AllC.mem (l := []) trivial) hmix Tryz.call9 Tryz.func9 rfl rfl (by kernel_rfl) (fun h => by kernel_rfl)

noncomputable def dynposmake_Mod (a0 : Int) (a1 : Int) : Option (Int) :=
  if decide (a1 < 1) = true then some 0
  else Option.bind (remO a0 a1) fun x1 => Option.bind (remO (W (x1 + a1)) a1) fun x2 => some x2
noncomputable def c62 : Con D := ⟨62, [.lf (.int .i64), .lf (.int .i64)], [.lf (.int .i64)], [.one (.h 0 []), .one (.h 1 [])], [], [.one (.h 0 [])], [], fun h => dynposmake_Mod h.1 h.2⟩
theorem c62_ok : ConOk Tryz.prog T c62 := fn_ok (Φ := []) (rs := [.tmp 4]) (an := .o) pOk repOk (AllC.mem (l := []) trivial) hmix Tryz.call62 Tryz.func62 rfl rfl (by kernel_rfl) (fun h => by kernel_rfl)

noncomputable def Src_N (a0 : Src) (a1 : Int) : Option (Int × (List Int) × Int) :=
  if decide (a0.At ≥ len a0.L) = true then some (0, a0.L, a0.At)
  else
    Option.bind (idx a0.L (W (W (a0.At + 1) - 1))) fun x1 =>
      Option.bind (dynposmake_Mod x1 a1) fun x2 => some (x2, a0.L, W (a0.At + 1))
noncomputable def c30 : Con D := ⟨30, [.lf (.sl 0), .lf (.int .i64), .lf (.int .i64)], [.lf (.int .i64), .lf (.sl 0), .lf (.int .i64)], [.one (.ptr 1000 0), .one (.h 2 [])], [(1000, .box [.h 0 [0], .h 1 []])], [.one (.h 0 [])], [(1000, .box [.h 1 [0], .h 2 []])], fun h => Src_N ⟨h.1, h.2.1⟩ h.2.2⟩
theorem c30_ok : ConOk Tryz.prog T c30 := fn_ok (Φ := [c62]) (rs := [.tmp 4]) (an := .o) pOk repOk (AllC.mem (⟨c62_ok, trivial⟩ : AllC _ _ [c62])) hmix Tryz.call30 Tryz.func30 rfl rfl (by kernel_rfl) (fun h => by kernel_rfl)

noncomputable def Src_Range (a0 : Src) (a1 : Int) (a2 : Int) : Option (Int × (List Int) × Int) :=
  Option.bind (Src_N a0 (W (W (a2 - a1) + 1))) fun x1 => some (W (a1 + x1.1), x1.2.1, x1.2.2)
noncomputable def c60 : Con D := ⟨60, [.lf (.sl 0), .lf (.int .i64), .lf (.int .i64), .lf (.int .i64)], [.lf (.int .i64), .lf (.sl 0), .lf (.int .i64)], [.one (.ptr 1000 0), .one (.h 2 []), .one (.h 3 [])], [(1000, .box [.h 0 [0], .h 1 []])], [.one (.h 0 [])], [(1000, .box [.h 1 [0], .h 2 []])], fun h => Src_Range ⟨h.1, h.2.1⟩ h.2.2.1 h.2.2.2⟩
theorem c60_ok : ConOk Tryz.prog T c60 := fn_ok (Φ := [c30]) (rs := [.tmp 6]) (an := .o) pOk repOk (AllC.mem (⟨c30_ok, trivial⟩ : AllC _ _ [c30])) hmix Tryz.call60 Tryz.func60 rfl rfl (by kernel_rfl) (fun h => by kernel_rfl)

noncomputable def Src_Pick (a0 : Src) (a1 : (List Int)) : Option (Int × (List Int) × Int × (List Int)) :=
  Option.bind (Src_N a0 (len a1)) fun x1 => Option.bind (idx a1 x1.1) fun x2 => some (x2, x1.2.1, x1.2.2, a1)
noncomputable def c79 : Con D := ⟨79, [.lf (.sl 0), .lf (.int .i64), .lf (.sl 0)], [.lf (.int .i64), .lf (.sl 0), .lf (.int .i64), .lf (.sl 0)], [.one (.ptr 1000 0), .one (.own 1001)], [(1000, .box [.h 0 [0], .h 1 []]), (1001, .sl 0 3 2 [])], [.one (.h 0 [])], [(1000, .box [.h 1 [0], .h 2 []]), (1001, .sl 0 3 3 [])], fun h => Src_Pick ⟨h.1, h.2.1⟩ h.2.2⟩
theorem c79_ok : ConOk Tryz.prog T c79 := fn_ok (Φ := [c30]) (rs := [.tmp 4]) (an := .o) pOk repOk (AllC.mem (⟨c30_ok, trivial⟩ : AllC _ _ [c30])) hmix Tryz.call79 Tryz.func79 rfl rfl (by kernel_rfl) (fun h => by kernel_rfl)

noncomputable def Src_Board_L1 : Int × List Int × Int × Int × Int × Int × List Breaker →
  Option
    (Int × List Int × Int × Int × Int × Int × List Breaker ⊕
      List Int ×
        Int ×
          Int ×
            Int ×
              Int ×
                List
                  Breaker) := fun x4 =>
  if decide (x4.1 < x4.2.2.2.1) = true then
    Option.bind (Src_N (Src.mk x4.2.1 x4.2.2.1) 6) fun x5 =>
      Option.bind
        (if decide (x5.1 < 5) = true then
          Option.bind (Src_N (Src.mk x5.2.1 x5.2.2) x4.1) fun x6 =>
            Option.bind (app x4.2.2.2.2.2.2 [Breaker.mk 1 x6.1 x4.1]) fun x7 =>
              some (x6.2.1, x6.2.2, x4.2.2.2.1, x4.2.2.2.2.1, x4.2.2.2.2.2.1, x7)
        else
          some
            (x5.2.1, x5.2.2, x4.2.2.2.1, x4.2.2.2.2.1, x4.2.2.2.2.2.1,
              x4.2.2.2.2.2.2))
        fun x8 =>
        some
          (.inl
            (W (x4.1 + 1), x8.1, x8.2.1, x8.2.2.1, x8.2.2.2.1, x8.2.2.2.2.1,
              x8.2.2.2.2.2))
  else
    some
      (.inr
        (x4.2.1, x4.2.2.1, x4.2.2.2.1, x4.2.2.2.2.1, x4.2.2.2.2.2.1,
          x4.2.2.2.2.2.2))
noncomputable def Src_Board_L2 : Int × List Int × Int × Int × Int × Int × List Breaker × List Source →
  Option
    (Int × List Int × Int × Int × Int × Int × List Breaker × List Source ⊕
      List Int ×
        Int ×
          Int ×
            Int ×
              Int ×
                List Breaker ×
                  List
                    Source) := fun x15 =>
  if decide (x15.1 > 0) = true then
    Option.bind (Src_N (Src.mk x15.2.1 x15.2.2.1) x15.2.2.2.1) fun x16 =>
      Option.bind
        (app x15.2.2.2.2.2.2.1 [Breaker.mk 2 x16.1 (len x15.2.2.2.2.2.2.2)])
        fun x17 =>
        Option.bind (Src_Pick (Src.mk x16.2.1 x16.2.2) [10, 50, 100]) fun x18 =>
          Option.bind (Src_Pick (Src.mk x18.2.1 x18.2.2.1) [0, 5, x18.1]) fun x19 =>
            Option.bind (Src_Pick (Src.mk x19.2.1 x19.2.2.1) [0, 1, 3])
              fun x20 =>
              Option.bind (app x15.2.2.2.2.2.2.2 [Source.mk x18.1 x19.1 x20.1]) fun x21 =>
                some
                  (.inl
                    (W (x15.1 - 1), x20.2.1, x20.2.2.1, x15.2.2.2.1,
                      x15.2.2.2.2.1, x15.2.2.2.2.2.1, x17, x21))
  else
    some
      (.inr
        (x15.2.1, x15.2.2.1, x15.2.2.2.1, x15.2.2.2.2.1, x15.2.2.2.2.2.1,
          x15.2.2.2.2.2.2.1, x15.2.2.2.2.2.2.2))
noncomputable def Src_Board_L3 : Int × List Int × Int × Int × Int × Int × List Breaker × List Consumer →
  Option
    (Int × List Int × Int × Int × Int × Int × List Breaker × List Consumer ⊕
      List Int ×
        Int ×
          Int ×
            Int ×
              Int ×
                List Breaker ×
                  List
                    Consumer) := fun x24 =>
  if decide (x24.1 > 0) = true then
    Option.bind (Src_N (Src.mk x24.2.1 x24.2.2.1) x24.2.2.2.1) fun x25 =>
      Option.bind
        (app x24.2.2.2.2.2.2.1 [Breaker.mk 3 x25.1 (len x24.2.2.2.2.2.2.2)])
        fun x26 =>
        Option.bind
          (if decide (x24.2.2.2.1 > 1) = true then
            Option.bind (Src_N (Src.mk x25.2.1 x25.2.2) 4) fun x27 =>
              some (x27.1 == 3, x27.2.1, x27.2.2)
          else some (false, x25.2.1, x25.2.2))
          fun x28 =>
          Option.bind
            (if x28.1 = true then
              Option.bind (remO (W (x25.1 + 1)) x24.2.2.2.1) fun x29 =>
                Option.bind (app x26 [Breaker.mk 3 x29 (len x24.2.2.2.2.2.2.2)]) fun x30 =>
                  some (x24.2.2.2.1, x24.2.2.2.2.1, x24.2.2.2.2.2.1, x30)
            else some (x24.2.2.2.1, x24.2.2.2.2.1, x24.2.2.2.2.2.1, x26))
            fun x31 =>
            Option.bind
              (Src_Pick (Src.mk x28.2.1 x28.2.2) [0, 5, 20, 40])
              fun x32 =>
              Option.bind (quoO x32.1 2) fun x33 =>
                Option.bind (Src_Pick (Src.mk x32.2.1 x32.2.2.1) [0, x33, x32.1]) fun x34 =>
                  Option.bind (Src_N (Src.mk x34.2.1 x34.2.2.1) 3) fun x35 =>
                    Option.bind (Src_Range (Src.mk x35.2.1 x35.2.2) (-1) 2) fun x36 =>
                      Option.bind
                        (if decide (len x24.2.2.2.2.2.2.2 > 0) = true then
                          Option.bind (Src_N (Src.mk x36.2.1 x36.2.2) 4) fun x37 =>
                            some (x37.1 == 3, x37.2.1, x37.2.2)
                        else some (false, x36.2.1, x36.2.2))
                        fun x38 =>
                        Option.bind
                          (if x38.1 = true then
                            Option.bind (Src_N (Src.mk x38.2.1 x38.2.2) (len x24.2.2.2.2.2.2.2))
                              fun x39 => some (x39.2.1, x39.2.2, x32.1, x34.1, x35.1, x36.1, [x39.1])
                          else some (x38.2.1, x38.2.2, x32.1, x34.1, x35.1, x36.1, []))
                          fun x40 =>
                          Option.bind
                            (app x24.2.2.2.2.2.2.2
                              [Consumer.mk x40.2.2.1 x40.2.2.2.1 x40.2.2.2.2.1
                                  x40.2.2.2.2.2.1 x40.2.2.2.2.2.2])
                            fun x41 =>
                            some
                              (.inl
                                (W (x24.1 - 1), x40.1, x40.2.1, x31.1, x31.2.1, x31.2.2.1,
                                  x31.2.2.2, x41))
  else
    some
      (.inr
        (x24.2.1, x24.2.2.1, x24.2.2.2.1, x24.2.2.2.2.1, x24.2.2.2.2.2.1,
          x24.2.2.2.2.2.2.1, x24.2.2.2.2.2.2.2))
noncomputable def Src_Board (a0 : Src) : Option (Int × Int × Int × (List Int) × Int × (List Breaker) × (List Source) × (List Consumer)) :=
  Option.bind (Src_Range a0 1 4) fun x1 =>
    Option.bind (Src_Pick (Src.mk x1.2.1 x1.2.2) [0, 50, 200, 1800])
      fun x2 =>
      Option.bind (Src_Pick (Src.mk x2.2.1 x2.2.2.1) [0, 10, 50]) fun x3 =>
        Option.bind (loopO Src_Board_L1 (1, x3.2.1, x3.2.2.1, x1.1, x2.1, x3.1, [])) fun x9 =>
          Option.bind
            (if decide (x9.2.2.1 > 2) = true then
              Option.bind (Src_N (Src.mk x9.1 x9.2.1) 2) fun x10 =>
                some (x10.1 == 1, x10.2.1, x10.2.2)
            else some (false, x9.1, x9.2.1))
            fun x11 =>
            Option.bind
              (if x11.1 = true then
                Option.bind
                  (app x9.2.2.2.2.2
                    [Breaker.mk 1 0 (W (x9.2.2.1 - 1))])
                  fun x12 => some (x9.2.2.1, x9.2.2.2.1, x9.2.2.2.2.1, x12)
              else some (x9.2.2.1, x9.2.2.2.1, x9.2.2.2.2.1, x9.2.2.2.2.2))
              fun x13 =>
              Option.bind (Src_N (Src.mk x11.2.1 x11.2.2) 5) fun x14 =>
                Option.bind
                  (loopO Src_Board_L2
                    (x14.1, x14.2.1, x14.2.2, x13.1, x13.2.1, x13.2.2.1, x13.2.2.2, []))
                  fun x22 =>
                  Option.bind (Src_N (Src.mk x22.1 x22.2.1) 6) fun x23 =>
                    Option.bind
                      (loopO Src_Board_L3
                        (x23.1, x23.2.1, x23.2.2, x22.2.2.1, x22.2.2.2.1,
                          x22.2.2.2.2.1, x22.2.2.2.2.2.1, []))
                      fun x42 =>
                      some
                        (x42.2.2.1, x42.2.2.2.1, x42.2.2.2.2.1, x42.1, x42.2.1,
                          x42.2.2.2.2.2.1, x22.2.2.2.2.2.2, x42.2.2.2.2.2.2)
noncomputable def c41 : Con D := ⟨41, [.lf (.sl 0), .lf (.int .i64)], [.lf (.int .i64), .lf (.int .i64), .lf (.int .i64), .lf (.sl 0), .lf (.int .i64), .lf (.sl 5), .lf (.sl 6), .lf (.sl 7)], [.one (.ptr 1000 0)], [(1000, .box [.h 0 [0], .h 1 []])], [.agg [.h 0 [], .own 1001, .own 1002, .own 1003, .h 1 [], .h 2 []]], [(1000, .box [.h 3 [0], .h 4 []]), (1001, .sl 5 44 5 []), (1002, .sl 6 89 6 []), (1003, .sl 7 57 7 [1])], fun h => Src_Board ⟨h.1, h.2⟩⟩
theorem c41_ok : ConOk Tryz.prog T c41 := fn_ok (Φ := [c30, c60, c79]) (rs := [.cell 2 29]) (an := (.n none .o (.n none .o (.n none (.n none .o (.n none (.loop ⟨[.lf (.int .i64), .lf (.sl 0), .lf (.int .i64), .lf (.int .i64), .lf (.int .i64), .lf (.int .i64), .lf (.sl 5)], [(4, .one (.h 0 []))], [(1000, .box [.h 1 [0], .h 2 []]), (2640, .box [.h 3 [], .own 2832, .nils, .nils, .h 4 [], .h 5 []]), (2832, .sl 5 44 6 [])], [1000, 2640], 2896⟩ true [(.exit 0, ⟨[.lf (.sl 0), .lf (.int .i64), .lf (.int .i64), .lf (.int .i64), .lf (.int .i64), .lf (.sl 5)], [], [(1000, .box [.h 0 [0], .h 1 []]), (2640, .box [.h 2 [], .own 2832, .nils, .nils, .h 3 [], .h 4 []]), (2832, .sl 5 44 5 [])], [1000, 2640], 2896⟩)] (.n none .o (.n none (.n none (.n none .o (.n (some (true, [(.normal, ⟨[.lf (.sl 0), .lf (.int .i64), .lf (.int .i64), .lf (.int .i64), .lf (.int .i64), .lf (.sl 5)], [], [(1000, .box [.h 0 [0], .h 1 []]), (2640, .box [.h 2 [], .own 3351, .nils, .nils, .h 3 [], .h 4 []]), (3351, .sl 5 44 5 [])], [1000, 2640, 2832], 3415⟩)])) .o .o)) .o) .o))) .o)) (.n none (.n none (.r (some (true, [(.normal, ⟨[.lf .bool, .lf (.sl 0), .lf (.int .i64)], [(47, .one (.h 0 []))], [(1000, .box [.h 1 [0], .h 2 []])], [1000], 2966⟩)])) .nil) (.n (some (true, [(.normal, ⟨[.lf (.int .i64), .lf (.int .i64), .lf (.int .i64), .lf (.sl 5)], [], [(2640, .box [.h 0 [], .own 2969, .nils, .nils, .h 1 [], .h 2 []]), (2969, .sl 5 44 3 [])], [2640, 2832], 3033⟩)])) .o .o)) (.n none (.n none .o (.n none (.loop ⟨[.lf (.int .i64), .lf (.sl 0), .lf (.int .i64), .lf (.int .i64), .lf (.int .i64), .lf (.int .i64), .lf (.sl 5), .lf (.sl 6)], [(5, .one (.h 0 []))], [(1000, .box [.h 1 [0], .h 2 []]), (2640, .box [.h 3 [], .own 3229, .own 3230, .nils, .h 4 [], .h 5 []]), (3229, .sl 5 44 6 []), (3230, .sl 6 89 7 [])], [1000, 2640, 2969], 3293⟩ true [(.exit 2, ⟨[.lf (.sl 0), .lf (.int .i64), .lf (.int .i64), .lf (.int .i64), .lf (.int .i64), .lf (.sl 5), .lf (.sl 6)], [], [(1000, .box [.h 0 [0], .h 1 []]), (2640, .box [.h 2 [], .own 3229, .own 3230, .nils, .h 3 [], .h 4 []]), (3229, .sl 5 44 5 []), (3230, .sl 6 89 6 [])], [1000, 2640, 2969], 3293⟩)] .o) .o)) (.n none (.n none .o (.n none (.loop ⟨[.lf (.int .i64), .lf (.sl 0), .lf (.int .i64), .lf (.int .i64), .lf (.int .i64), .lf (.int .i64), .lf (.sl 5), .lf (.sl 7)], [(7, .one (.h 0 []))], [(1000, .box [.h 1 [0], .h 2 []]), (2640, .box [.h 3 [], .own 3492, .own 3230, .own 3493, .h 4 [], .h 5 []]), (3492, .sl 5 44 6 []), (3493, .sl 7 57 7 [1])], [1000, 2640, 3229], 3556⟩ true [(.exit 4, ⟨[.lf (.sl 0), .lf (.int .i64), .lf (.int .i64), .lf (.int .i64), .lf (.int .i64), .lf (.sl 5), .lf (.sl 7)], [], [(1000, .box [.h 0 [0], .h 1 []]), (2640, .box [.h 2 [], .own 3492, .own 3230, .own 3493, .h 3 [], .h 4 []]), (3492, .sl 5 44 5 []), (3493, .sl 7 57 6 [1])], [1000, 2640, 3229], 3556⟩)] (.n none .o (.n none (.n none (.n none .o (.n none .o (.n none .o (.n none (.n none (.r (some (true, [(.normal, ⟨[.lf .bool, .lf (.sl 0), .lf (.int .i64)], [(118, .one (.any)), (119, .one (.any)), (120, .one (.any)), (121, .one (.h 0 []))], [(1000, .box [.h 1 [0], .h 2 []])], [1000], 4908⟩)])) .nil) (.n (some (true, [(.normal, ⟨[.lf (.int .i64), .lf (.int .i64), .lf (.int .i64), .lf (.sl 5)], [], [(2640, .box [.h 0 [], .own 4911, .own 3230, .own 3493, .h 1 [], .h 2 []]), (4911, .sl 5 44 3 [])], [2640, 4652], 4975⟩)])) .o .o)) (.n none .o (.n none .o (.n none (.n none (.r (some (true, [(.normal, ⟨[.lf .bool, .lf (.sl 0), .lf (.int .i64)], [(152, .one (.any)), (153, .one (.any)), (154, .one (.any)), (155, .one (.h 0 []))], [(1000, .box [.h 1 [0], .h 2 []])], [1000], 6195⟩)])) .nil) (.n (some (true, [(.normal, ⟨[.lf (.sl 0), .lf (.int .i64), .lf (.int .i64), .lf (.int .i64), .lf (.int .i64), .lf (.int .i64), .lf (.sl 0)], [], [(1000, .box [.h 0 [0], .h 1 []]), (6003, .box [.h 2 [], .h 3 [], .h 4 [], .h 5 [], .own 6198]), (6198, .sl 0 3 6 [])], [1000, 6003], 6262⟩)])) .o .o)) .o))))))) .o) .o))) .o)) .o))))))) pOk repOk (AllC.mem (⟨c30_ok, c60_ok, c79_ok, trivial⟩ : AllC _ _ [c30, c60, c79])) hmix Tryz.call41 Tryz.func41 rfl rfl (by kernel_rfl) (fun h => by kernel_rfl)

noncomputable def dynposref15_within (a0 : Int) (a1 : Int) (a2 : Int) : Option (Bool) := Option.bind (if decide (a0 ≥ a1) = true then some (decide (a0 ≤ a2)) else some false) fun x1 => some x1
noncomputable def c52 : Con D := ⟨52, [.lf (.int .i64), .lf (.int .i64), .lf (.int .i64)], [.lf .bool], [.one (.h 0 []), .one (.h 1 []), .one (.h 2 [])], [], [.one (.h 0 [])], [], fun h => dynposref15_within h.1 h.2.1 h.2.2⟩
theorem c52_ok : ConOk Tryz.prog T c52 := fn_ok (Φ := []) (rs := [.tmp 6]) (an := (.n none .o (.n none (.r (some (true, [(.normal, ⟨[.lf .bool], [(6, .one (.h 0 []))], [], [], 2128⟩)])) .nil) .o))) pOk repOk (AllC.mem (l := []) trivial) hmix Tryz.call52 Tryz.func52 rfl rfl (by kernel_rfl) (fun h => by kernel_rfl)

noncomputable def dynposref15_Exists (a0 : Board) (a1 : Part) : Option (Bool) :=
  if (a1.Kind == 1) = true then
    Option.bind (dynposref15_within a1.Number 0 (W (len a0.Sources - 1))) fun x4 => some x4
  else
    if (a1.Kind == 2) = true then
      Option.bind (dynposref15_within a1.Number 0 (W (len a0.Breakers - 1))) fun x3 => some x3
    else
      if (a1.Kind == 3) = true then
        Option.bind (dynposref15_within a1.Number 0 (W (a0.Buses - 1))) fun x2 => some x2
      else
        if (a1.Kind == 4) = true then
          Option.bind (dynposref15_within a1.Number 0 (W (len a0.Consumers - 1))) fun x1 =>
            some x1
        else some false
noncomputable def c53 : Con D := ⟨53, [.lf (.int .i64), .lf (.sl 5), .lf (.sl 6), .lf (.sl 7), .lf (.int .i64), .lf (.int .i64), .lf (.int .i64), .lf (.int .i64)], [.lf .bool], [.agg [.h 0 [], .h 1 [0], .h 2 [0], .h 3 [0], .h 4 [], .h 5 []], .agg [.h 6 [], .h 7 []]], [], [.one (.h 0 [])], [], fun h => dynposref15_Exists ⟨h.1, h.2.1, h.2.2.1, h.2.2.2.1, h.2.2.2.2.1, h.2.2.2.2.2.1⟩ ⟨h.2.2.2.2.2.2.1, h.2.2.2.2.2.2.2⟩⟩
theorem c53_ok : ConOk Tryz.prog T c53 := fn_ok (Φ := [c52]) (rs := [.tmp 4]) (an := .o) pOk repOk (AllC.mem (⟨c52_ok, trivial⟩ : AllC _ _ [c52])) hmix Tryz.call53 Tryz.func53 rfl rfl (by kernel_rfl) (fun h => by kernel_rfl)

noncomputable def Src_Power_L1 (a1 : Board) : Int × List Int × Int × List Bool →
  Option
    (Int × List Int × Int × List Bool ⊕
      List Int ×
        Int ×
          List
            Bool) := fun x1 =>
  if decide (x1.1 < len a1.Breakers) = true then
    Option.bind (Src_N (Src.mk x1.2.1 x1.2.2.1) 2) fun x2 =>
      Option.bind (app x1.2.2.2 [x2.1 == 1]) fun x3 =>
        some (.inl (W (x1.1 + 1), x2.2.1, x2.2.2, x3))
  else some (.inr (x1.2.1, x1.2.2.1, x1.2.2.2))
noncomputable def Src_Power_L3 (a1 : Board) (x5 : Int ×
  List
    Bool) : Bool × Int × List Bool →
  Option
    (Bool × Int × List Bool ⊕
      List
        Bool) := fun x6 =>
  if decide (x6.2.1 < len a1.Breakers) = true then
    Option.bind (idx a1.Breakers x6.2.1) fun x7 =>
      Option.bind
        (if (x7.Kind == 3) = true then
          if (x7.B == x5.1) = true then Option.bind (idx x6.2.2 x6.2.1) fun x8 => some x8 else some false
        else some false)
        fun x9 =>
        Option.bind
          (if x9 = true then
            Option.bind (idx x6.2.2 x6.2.1) fun x10 =>
              Option.bind (idx x6.2.2 x6.2.1) fun x11 =>
                Option.bind (setO x6.2.2 x6.2.1 x6.1) fun x12 => some (false, x12)
          else some (x6.1, x6.2.2))
          fun x13 => some (.inl (x13.1, W (x6.2.1 + 1), x13.2))
  else some (.inr x6.2.2)
noncomputable def Src_Power_L2 (a1 : Board) : Int × List Bool →
  Option
    (Int × List Bool ⊕
      List
        Bool) := fun x5 =>
  if decide (x5.1 < len a1.Consumers) = true then
    Option.bind (loopO (Src_Power_L3 a1 x5) (true, 0, x5.2)) fun x14 =>
      some (.inl (W (x5.1 + 1), x14))
  else some (.inr x5.2)
noncomputable def Src_Power_L4 (a1 : Board) : Int × List Int × Int × List Running →
  Option
    (Int × List Int × Int × List Running ⊕
      List Int ×
        Int ×
          List
            Running) := fun x16 =>
  if decide (x16.1 < len a1.Sources) = true then
    Option.bind
      (Src_Pick (Src.mk x16.2.1 x16.2.2.1)
        [0, 1, 2, 2, 2, 3])
      fun x17 =>
      Option.bind (Src_N (Src.mk x17.2.1 x17.2.2.1) 5) fun x18 =>
        Option.bind
          (Src_Pick (Src.mk x18.2.1 x18.2.2) [5000, 5000, 5005, 4950])
          fun x19 =>
          Option.bind
            (Src_Pick (Src.mk x19.2.1 x19.2.2.1)
              [0, 0, 40, 1800, 3590])
            fun x20 =>
            Option.bind (app x16.2.2.2 [Running.mk x17.1 x18.1 x19.1 x20.1]) fun x21 =>
              some (.inl (W (x16.1 + 1), x20.2.1, x20.2.2.1, x21))
  else some (.inr (x16.2.1, x16.2.2.1, x16.2.2.2))
noncomputable def Src_Power_L5 (a1 : Board) : Int × List Int × Int × List Int →
  Option
    (Int × List Int × Int × List Int ⊕
      List Int ×
        Int ×
          List
            Int) := fun x23 =>
  if decide (x23.1 < len a1.Consumers) = true then
    Option.bind (idx a1.Consumers x23.1) fun x24 =>
      Option.bind (quoO x24.Load 3) fun x25 =>
        Option.bind (Src_Pick (Src.mk x23.2.1 x23.2.2.1) [x24.Load, x24.Load, x24.Least, x25]) fun x26 =>
          Option.bind (app x23.2.2.2 [x26.1]) fun x27 =>
            some (.inl (W (x23.1 + 1), x26.2.1, x26.2.2.1, x27))
  else some (.inr (x23.2.1, x23.2.2.1, x23.2.2.2))
noncomputable def Src_Power_L6 (a1 : Board) : Int × List Int × Int × List Part →
  Option
    (Int × List Int × Int × List Part ⊕
      List Int ×
        Int ×
          List
            Part) := fun x29 =>
  if decide (x29.1 ≤ 4) = true then
    Option.bind (Src_N (Src.mk x29.2.1 x29.2.2.1) 5) fun x30 =>
      Option.bind
        (if (x30.1 == 4) = true then
          Option.bind (Src_N (Src.mk x30.2.1 x30.2.2) 4) fun x31 =>
            Option.bind (dynposref15_Exists a1 (Part.mk x29.1 x31.1)) fun x32 =>
              Option.bind
                (if x32 = true then Option.bind (app x29.2.2.2 [Part.mk x29.1 x31.1]) fun x33 => some x33
                else some x29.2.2.2)
                fun x34 => some (x31.2.1, x31.2.2, x34)
        else some (x30.2.1, x30.2.2, x29.2.2.2))
        fun x35 => some (.inl (W (x29.1 + 1), x35.1, x35.2.1, x35.2.2))
  else some (.inr (x29.2.1, x29.2.2.1, x29.2.2.2))
noncomputable def Src_Power (a0 : Src) (a1 : Board) : Option ((List Int) × Int × (List Breaker) × (List Source) × (List Consumer) × (List Bool) × (List Running) × (List Int) × (List Part)) :=
  Option.bind (loopO (Src_Power_L1 a1) (0, a0.L, a0.At, [])) fun x4 =>
    Option.bind (loopO (Src_Power_L2 a1) (0, x4.2.2)) fun x15 =>
      Option.bind (loopO (Src_Power_L4 a1) (0, x4.1, x4.2.1, [])) fun x22 =>
        Option.bind (loopO (Src_Power_L5 a1) (0, x22.1, x22.2.1, [])) fun x28 =>
          Option.bind (loopO (Src_Power_L6 a1) (1, x28.1, x28.2.1, [])) fun x36 =>
            some
              (x36.1, x36.2.1, a1.Breakers, a1.Sources, a1.Consumers, x15, x22.2.2, x28.2.2, x36.2.2)
noncomputable def c42 : Con D := ⟨42, [.lf (.sl 0), .lf (.int .i64), .lf (.int .i64), .lf (.sl 5), .lf (.sl 6), .lf (.sl 7), .lf (.int .i64), .lf (.int .i64)], [.lf (.sl 0), .lf (.int .i64), .lf (.sl 5), .lf (.sl 6), .lf (.sl 7), .lf (.sl 1), .lf (.sl 9), .lf (.sl 0), .lf (.sl 10)], [.one (.ptr 1000 0), .agg [.h 2 [], .own 1001, .own 1002, .own 1003, .h 6 [], .h 7 []]], [(1000, .box [.h 0 [0], .h 1 []]), (1001, .sl 5 44 3 []), (1002, .sl 6 89 4 []), (1003, .sl 7 57 5 [0])], [.agg [.own 1004, .own 1005, .own 1006, .own 1007]], [(1000, .box [.h 0 [0], .h 1 []]), (1001, .sl 5 44 2 []), (1002, .sl 6 89 3 []), (1003, .sl 7 57 4 [0]), (1004, .sl 1 4 5 []), (1005, .sl 9 48 6 []), (1006, .sl 0 3 7 []), (1007, .sl 10 84 8 [])], fun h => Src_Power ⟨h.1, h.2.1⟩ ⟨h.2.2.1, h.2.2.2.1, h.2.2.2.2.1, h.2.2.2.2.2.1, h.2.2.2.2.2.2.1, h.2.2.2.2.2.2.2⟩⟩
theorem c42_ok : ConOk Tryz.prog T c42 := fn_ok (Φ := [c30, c53, c79]) (rs := [.cell 4 34]) (an := (.n none .o (.n none .o (.n none (.n none .o (.n none (.loop ⟨[.lf (.int .i64), .lf (.sl 0), .lf (.int .i64), .lf (.sl 1)], [(17, .one (.h 0 []))], [(1000, .box [.h 1 [0], .h 2 []]), (2128, .box [.own 2448, .nils, .nils, .nils]), (2448, .sl 1 4 3 [])], [1000, 2128], 2512⟩ true [(.exit 0, ⟨[.lf (.sl 0), .lf (.int .i64), .lf (.sl 1)], [], [(1000, .box [.h 0 [0], .h 1 []]), (2128, .box [.own 2448, .nils, .nils, .nils]), (2448, .sl 1 4 2 [])], [1000, 2128], 2512⟩)] .o) .o)) (.n none (.n none .o (.n none (.loop ⟨[.lf (.int .i64), .lf (.sl 1)], [(31, .one (.h 0 []))], [(2448, .sl 1 4 1 [])], [2448], 2835⟩ true [(.exit 2, ⟨[.lf (.sl 1)], [], [(2448, .sl 1 4 0 [])], [2448], 2835⟩)] (.n none .o (.n none .o (.n none (.n none (.n none .o (.n none .o (.n none .o (.n none (.loop ⟨[.lf .bool, .lf (.int .i64), .lf (.sl 1)], [(7, .one (.h 0 [])), (37, .one (.h 1 []))], [(2448, .sl 1 4 2 [])], [2448], 3413⟩ true [(.exit 4, ⟨[.lf (.sl 1)], [], [(2448, .sl 1 4 0 [])], [2448], 3413⟩)] (.n none .o (.n none .o (.n none (.n none (.n none .o (.n none (.r (some (true, [(.normal, ⟨[.lf .bool], [(46, .one (.any)), (47, .one (.any)), (48, .one (.any)), (49, .one (.any)), (52, .one (.any)), (53, .one (.any)), (54, .one (.any)), (55, .one (.any)), (56, .one (.any)), (57, .one (.h 0 []))], [], [], 3928⟩)])) .nil) (.n (some (true, [(.normal, ⟨[.lf .bool, .lf (.sl 1)], [(7, .one (.h 0 []))], [(2448, .sl 1 4 1 [])], [2448], 3993⟩)])) .o .o))) .o) .o)))) .o)))) .o) .o)))) .o)) (.n none (.n none .o (.n none (.loop ⟨[.lf (.int .i64), .lf (.sl 0), .lf (.int .i64), .lf (.sl 9)], [(68, .one (.h 0 []))], [(1000, .box [.h 1 [0], .h 2 []]), (2128, .box [.own 2448, .own 3092, .nils, .nils]), (3092, .sl 9 48 3 [])], [1000, 2128], 3156⟩ true [(.exit 6, ⟨[.lf (.sl 0), .lf (.int .i64), .lf (.sl 9)], [], [(1000, .box [.h 0 [0], .h 1 []]), (2128, .box [.own 2448, .own 3092, .nils, .nils]), (3092, .sl 9 48 2 [])], [1000, 2128], 3156⟩)] .o) .o)) (.n none (.n none .o (.n none (.loop ⟨[.lf (.int .i64), .lf (.sl 0), .lf (.int .i64), .lf (.sl 0)], [(91, .one (.h 0 []))], [(1000, .box [.h 1 [0], .h 2 []]), (2128, .box [.own 2448, .own 3092, .own 3415, .nils]), (3415, .sl 0 3 3 [])], [1000, 2128], 3479⟩ true [(.exit 8, ⟨[.lf (.sl 0), .lf (.int .i64), .lf (.sl 0)], [], [(1000, .box [.h 0 [0], .h 1 []]), (2128, .box [.own 2448, .own 3092, .own 3415, .nils]), (3415, .sl 0 3 2 [])], [1000, 2128], 3479⟩)] .o) .o)) (.n none (.n none .o (.n none (.loop ⟨[.lf (.int .i64), .lf (.sl 0), .lf (.int .i64), .lf (.sl 10)], [(12, .one (.h 0 []))], [(1000, .box [.h 1 [0], .h 2 []]), (2128, .box [.own 2448, .own 3092, .own 3415, .own 3546]), (3546, .sl 10 84 3 [])], [1000, 2128], 3610⟩ true [(.exit 10, ⟨[.lf (.sl 0), .lf (.int .i64), .lf (.sl 10)], [], [(1000, .box [.h 0 [0], .h 1 []]), (2128, .box [.own 2448, .own 3092, .own 3415, .own 3546]), (3546, .sl 10 84 2 [])], [1000, 2128], 3610⟩)] (.n none .o (.n none (.n none (.n none .o (.n (some (true, [(.normal, ⟨[.lf (.sl 0), .lf (.int .i64), .lf (.sl 10)], [], [(1000, .box [.h 0 [0], .h 1 []]), (2128, .box [.own 2448, .own 3092, .own 3415, .own 3934]), (3934, .sl 10 84 2 [])], [1000, 2128, 3546], 3998⟩)])) (.n none .o (.n none .o (.n (some (true, [(.normal, ⟨[.lf (.sl 10)], [], [(2128, .box [.own 2448, .own 3092, .own 3415, .own 4510]), (4510, .sl 10 84 0 [])], [2128, 3546], 4574⟩)])) .o .o))) .o)) .o) .o))) .o)) .o)))))))) pOk repOk (AllC.mem (⟨c30_ok, c53_ok, c79_ok, trivial⟩ : AllC _ _ [c30, c53, c79])) hmix Tryz.call42 Tryz.func42 rfl rfl (by kernel_rfl) (fun h => by kernel_rfl)

noncomputable def dynposlaw18_world (a0 : Src) : Option (Int × Int × Int × (List Int) × Int × (List Breaker) × (List Source) × (List Consumer) × (List Bool) × (List Running) × (List Int) × (List Part)) :=
  Option.bind (Src_Board a0) fun x1 =>
    Option.bind
      (Src_Power (Src.mk x1.2.2.2.1 x1.2.2.2.2.1)
        (Board.mk x1.1 x1.2.2.2.2.2.1 x1.2.2.2.2.2.2.1 x1.2.2.2.2.2.2.2
          x1.2.1 x1.2.2.1))
      fun x2 =>
      some
        (x1.1, x1.2.1, x1.2.2.1, x2.1, x2.2.1, x2.2.2.1, x2.2.2.2.1,
          x2.2.2.2.2.1, x2.2.2.2.2.2.1, x2.2.2.2.2.2.2.1,
          x2.2.2.2.2.2.2.2.1, x2.2.2.2.2.2.2.2.2)
noncomputable def c10 : Con D := ⟨10, [.lf (.sl 0), .lf (.int .i64)], [.lf (.int .i64), .lf (.int .i64), .lf (.int .i64), .lf (.sl 0), .lf (.int .i64), .lf (.sl 5), .lf (.sl 6), .lf (.sl 7), .lf (.sl 1), .lf (.sl 9), .lf (.sl 0), .lf (.sl 10)], [.one (.ptr 1000 0)], [(1000, .box [.h 0 [0], .h 1 []])], [.agg [.h 0 [], .own 1001, .own 1002, .own 1003, .h 1 [], .h 2 []], .agg [.own 1004, .own 1005, .own 1006, .own 1007]], [(1000, .box [.h 3 [0, 1], .h 4 []]), (1001, .sl 5 44 5 []), (1002, .sl 6 89 6 []), (1003, .sl 7 57 7 [0, 1]), (1004, .sl 1 4 8 []), (1005, .sl 9 48 9 []), (1006, .sl 0 3 10 []), (1007, .sl 10 84 11 [])], fun h => dynposlaw18_world ⟨h.1, h.2⟩⟩
theorem c10_ok : ConOk Tryz.prog T c10 := fn_ok (Φ := [c41, c42]) (rs := [.cell 2 29, .cell 3 34]) (an := .o) pOk repOk (AllC.mem (⟨c41_ok, c42_ok, trivial⟩ : AllC _ _ [c41, c42])) hmix Tryz.call10 Tryz.func10 rfl rfl (by kernel_rfl) (fun h => by kernel_rfl)

noncomputable def slices_Index_Part_Part_L1 (a0 : List
  Part) (a1 : Part) : Int →
  Option
    (Int ⊕
      Unit ⊕
        Int) := fun x1 =>
  if decide (x1 < len a0) = true then
    Option.bind (idx a0 x1) fun x2 =>
      if (a1.Kind == x2.Kind && a1.Number == x2.Number) = true then some (.inr (.inr x1))
      else some (.inl (W (x1 + 1)))
  else some (.inr (.inl ()))
noncomputable def slices_Index_Part_Part (a0 : (List Part)) (a1 : Part) : Option (Int) :=
  Option.bind (loopO (slices_Index_Part_Part_L1 a0 a1) 0) fun x3 =>
    Sum.elim (fun x4 => some (-1)) (fun x5 => some x5) x3
noncomputable def c134 : Con D := ⟨134, [.lf (.sl 10), .lf (.int .i64), .lf (.int .i64)], [.lf (.int .i64)], [.one (.h 0 [0]), .agg [.h 1 [], .h 2 []]], [], [.one (.h 0 [])], [], fun h => slices_Index_Part_Part h.1 ⟨h.2.1, h.2.2⟩⟩
theorem c134_ok : ConOk Tryz.prog T c134 := fn_ok (Φ := []) (rs := [.tmp 4]) (an := (.n none .o (.n none (.n none .o (.n none (.loop ⟨[.lf (.int .i64)], [(8, .one (.h 0 []))], [], [], 2384⟩ false [(.exit 0, ⟨[], [], [], [], 2384⟩)] .o) .o)) .o))) pOk repOk (AllC.mem (l := []) trivial) hmix Tryz.call134 Tryz.func134 rfl rfl (by kernel_rfl) (fun h => by kernel_rfl)

noncomputable def slices_Contains_Part_Part (a0 : (List Part)) (a1 : Part) : Option (Bool) := Option.bind (slices_Index_Part_Part a0 a1) fun x1 => some (decide (x1 ≥ 0))
noncomputable def c102 : Con D := ⟨102, [.lf (.sl 10), .lf (.int .i64), .lf (.int .i64)], [.lf .bool], [.one (.h 0 [0]), .agg [.h 1 [], .h 2 []]], [], [.one (.h 0 [])], [], fun h => slices_Contains_Part_Part h.1 ⟨h.2.1, h.2.2⟩⟩
theorem c102_ok : ConOk Tryz.prog T c102 := fn_ok (Φ := [c134]) (rs := [.tmp 4]) (an := .o) pOk repOk (AllC.mem (⟨c134_ok, trivial⟩ : AllC _ _ [c134])) hmix Tryz.call102 Tryz.func102 rfl rfl (by kernel_rfl) (fun h => by kernel_rfl)

noncomputable def board_Broken (a0 : Power) (a1 : Int) (a2 : Int) : Option (Bool) := Option.bind (slices_Contains_Part_Part a0.Broken (Part.mk a1 a2)) fun x1 => some x1
noncomputable def c65 : Con D := ⟨65, [.lf (.sl 1), .lf (.sl 9), .lf (.sl 0), .lf (.sl 10), .lf (.int .i64), .lf (.int .i64)], [.lf .bool], [.agg [.h 0 [0], .h 1 [0], .h 2 [0], .h 3 [0]], .one (.h 4 []), .one (.h 5 [])], [], [.one (.h 0 [])], [], fun h => board_Broken ⟨h.1, h.2.1, h.2.2.1, h.2.2.2.1⟩ h.2.2.2.2.1 h.2.2.2.2.2⟩
theorem c65_ok : ConOk Tryz.prog T c65 := fn_ok (Φ := [c102]) (rs := [.tmp 6]) (an := .o) pOk repOk (AllC.mem (⟨c102_ok, trivial⟩ : AllC _ _ [c102])) hmix Tryz.call65 Tryz.func65 rfl rfl (by kernel_rfl) (fun h => by kernel_rfl)

noncomputable def shed_relief__dangerous_1 (a0 : Int) (a1 : Int) (a2 : relief) : Option (Bool × relief) := Option.bind (board_Broken a2.power a0 a1) fun x1 => some (x1, a2)
noncomputable def c125 : Con D := ⟨125, [.lf (.int .i64), .lf (.int .i64), .el 12], [.lf .bool, .el 12], [.one (.h 0 []), .one (.h 1 []), .one (.ptr 1000 0)], [(1000, .box [.rp 2 12 [0]])], [.one (.h 0 [])], [(1000, .box [.rp 1 12 [0]])], fun h => shed_relief__dangerous_1 h.1 h.2.1 h.2.2⟩
theorem c125_ok : ConOk Tryz.prog T c125 := fn_ok (Φ := [c65]) (rs := [.tmp 5]) (an := .o) pOk repOk (AllC.mem (⟨c65_ok, trivial⟩ : AllC _ _ [c65])) hmix Tryz.call125 Tryz.func125 rfl rfl (by kernel_rfl) (fun h => by kernel_rfl)

noncomputable def relief_dangerous (a0 : relief) (a1 : Breaker) : Option (Bool) :=
  Option.bind (shed_relief__dangerous_1 3 a1.A a0) fun x1 =>
    if x1.1 = true then some true
    else
      if (a1.Kind == 1) = true then
        Option.bind (shed_relief__dangerous_1 3 a1.B x1.2) fun x6 => some x6.1
      else
        if (a1.Kind == 2) = true then
          Option.bind
            (Option.bind (shed_relief__dangerous_1 1 a1.B x1.2) fun x3 =>
              if x3.1 = true then some (true, x3.2)
              else Option.bind (idx x3.2.power.Sources a1.B) fun x4 => some (x4.State != 2, x3.2))
            fun x5 => some x5.1
        else Option.bind (shed_relief__dangerous_1 4 a1.B x1.2) fun x2 => some x2.1
noncomputable def c82 : Con D := ⟨82, [.el 12, .lf (.int .i64), .lf (.int .i64), .lf (.int .i64)], [.lf .bool], [.one (.rp 0 12 [0]), .agg [.h 11 [], .h 12 [], .h 13 []]], [], [.one (.h 0 [])], [], fun h => relief_dangerous h.1 ⟨h.2.1, h.2.2.1, h.2.2.2⟩⟩
theorem c82_ok : ConOk Tryz.prog T c82 := fn_ok (Φ := [c125]) (rs := [.tmp 4]) (an := (.n none .o (.n none .o (.n none (.n none (.n none .o (.n none .o (.n none .o (.n none .o (.n none .o (.n none (.n none (.r (some (true, [(.normal, ⟨[.lf .bool, .el 12], [(4, .one (.h 0 []))], [(2000, .box [.rp 1 12 [0]])], [2000], 3216⟩)])) .nil) .o) .o)))))) .o) .o)))) pOk repOk (AllC.mem (⟨c125_ok, trivial⟩ : AllC _ _ [c125])) hmix Tryz.call82 Tryz.func82 rfl rfl (by kernel_rfl) (fun h => by kernel_rfl)

noncomputable def board_in (a0 : Int) (a1 : Int) (a2 : Int) : Option (Bool) := Option.bind (if decide (a0 ≥ a1) = true then some (decide (a0 ≤ a2)) else some false) fun x1 => some x1
noncomputable def c94 : Con D := ⟨94, [.lf (.int .i64), .lf (.int .i64), .lf (.int .i64)], [.lf .bool], [.one (.h 0 []), .one (.h 1 []), .one (.h 2 [])], [], [.one (.h 0 [])], [], fun h => board_in h.1 h.2.1 h.2.2⟩
theorem c94_ok : ConOk Tryz.prog T c94 := fn_ok (Φ := []) (rs := [.tmp 6]) (an := (.n none .o (.n none (.r (some (true, [(.normal, ⟨[.lf .bool], [(6, .one (.h 0 []))], [], [], 2128⟩)])) .nil) .o))) pOk repOk (AllC.mem (l := []) trivial) hmix Tryz.call94 Tryz.func94 rfl rfl (by kernel_rfl) (fun h => by kernel_rfl)

noncomputable def slices_Index_int_int_L1 (a0 : List
  Int) (a1 : Int) : Int →
  Option
    (Int ⊕
      Unit ⊕
        Int) := fun x1 =>
  if decide (x1 < len a0) = true then
    Option.bind (idx a0 x1) fun x2 =>
      if (a1 == x2) = true then some (.inr (.inr x1)) else some (.inl (W (x1 + 1)))
  else some (.inr (.inl ()))
noncomputable def slices_Index_int_int (a0 : (List Int)) (a1 : Int) : Option (Int) :=
  Option.bind (loopO (slices_Index_int_int_L1 a0 a1) 0) fun x3 =>
    Sum.elim (fun x4 => some (-1)) (fun x5 => some x5) x3
noncomputable def c117 : Con D := ⟨117, [.lf (.sl 0), .lf (.int .i64)], [.lf (.int .i64)], [.one (.h 0 [0]), .one (.h 1 [])], [], [.one (.h 0 [])], [], fun h => slices_Index_int_int h.1 h.2⟩
theorem c117_ok : ConOk Tryz.prog T c117 := fn_ok (Φ := []) (rs := [.tmp 4]) (an := (.n none .o (.n none (.n none .o (.n none (.loop ⟨[.lf (.int .i64)], [(8, .one (.h 0 []))], [], [], 2320⟩ false [(.exit 0, ⟨[], [], [], [], 2320⟩)] .o) .o)) .o))) pOk repOk (AllC.mem (l := []) trivial) hmix Tryz.call117 Tryz.func117 rfl rfl (by kernel_rfl) (fun h => by kernel_rfl)

noncomputable def slices_Contains_int_int (a0 : (List Int)) (a1 : Int) : Option (Bool) := Option.bind (slices_Index_int_int a0 a1) fun x1 => some (decide (x1 ≥ 0))
noncomputable def c77 : Con D := ⟨77, [.lf (.sl 0), .lf (.int .i64)], [.lf .bool], [.one (.h 0 [0]), .one (.h 1 [])], [], [.one (.h 0 [])], [], fun h => slices_Contains_int_int h.1 h.2⟩
theorem c77_ok : ConOk Tryz.prog T c77 := fn_ok (Φ := [c117]) (rs := [.tmp 4]) (an := .o) pOk repOk (AllC.mem (⟨c117_ok, trivial⟩ : AllC _ _ [c117])) hmix Tryz.call77 Tryz.func77 rfl rfl (by kernel_rfl) (fun h => by kernel_rfl)

noncomputable def board_breakers_1 (a0 : (List Int)) : Option (Bool) := some (len a0 == 0)
noncomputable def c130 : Con D := ⟨130, [.lf (.sl 0)], [.lf .bool], [.one (.h 0 [0])], [], [.one (.h 0 [])], [], fun h => board_breakers_1 h⟩
theorem c130_ok : ConOk Tryz.prog T c130 := fn_ok (Φ := []) (rs := [.tmp 2]) (an := .o) pOk repOk (AllC.mem (l := []) trivial) hmix Tryz.call130 Tryz.func130 rfl rfl (by kernel_rfl) (fun h => by kernel_rfl)

noncomputable def slices_IndexFunc_int_int_L1 (a0 : List
  (List
    Int)) : Int →
  Option
    (Int ⊕
      Unit ⊕
        Int) := fun x1 =>
  if decide (x1 < len a0) = true then
    Option.bind (idx a0 x1) fun x2 =>
      Option.bind (board_breakers_1 x2) fun x3 =>
        if x3 = true then some (.inr (.inr x1)) else some (.inl (W (x1 + 1)))
  else some (.inr (.inl ()))
noncomputable def slices_IndexFunc_int_int (a0 : (List (List Int))) : Option (Int) :=
  Option.bind (loopO (slices_IndexFunc_int_int_L1 a0) 0) fun x4 =>
    Sum.elim (fun x5 => some (-1)) (fun x6 => some x6) x4
noncomputable def c139 : Con D := ⟨139, [.lf (.sl 14)], [.lf (.int .i64)], [.one (.h 0 [0]), .one (.fn 130 [])], [], [.one (.h 0 [])], [], fun h => slices_IndexFunc_int_int h⟩
theorem c139_ok : ConOk Tryz.prog T c139 := fn_ok (Φ := [c130]) (rs := [.tmp 4]) (an := (.n none .o (.n none (.n none .o (.n none (.loop ⟨[.lf (.int .i64)], [(8, .one (.h 0 []))], [], [], 2320⟩ false [(.exit 0, ⟨[], [], [], [], 2320⟩)] .o) .o)) .o))) pOk repOk (AllC.mem (⟨c130_ok, trivial⟩ : AllC _ _ [c130])) hmix Tryz.call139 Tryz.func139 rfl rfl (by kernel_rfl) (fun h => by kernel_rfl)

noncomputable def slices_ContainsFunc_int_int (a0 : (List (List Int))) : Option (Bool) := Option.bind (slices_IndexFunc_int_int a0) fun x1 => some (decide (x1 ≥ 0))
noncomputable def c129 : Con D := ⟨129, [.lf (.sl 14)], [.lf .bool], [.one (.h 0 [0]), .one (.fn 130 [])], [], [.one (.h 0 [])], [], fun h => slices_ContainsFunc_int_int h⟩
theorem c129_ok : ConOk Tryz.prog T c129 := fn_ok (Φ := [c139]) (rs := [.tmp 4]) (an := .o) pOk repOk (AllC.mem (⟨c139_ok, trivial⟩ : AllC _ _ [c139])) hmix Tryz.call129 Tryz.func129 rfl rfl (by kernel_rfl) (fun h => by kernel_rfl)

noncomputable def board_breakers_L1 (a0 : Board) : Int × List Int × List (List Int) →
  Option
    (Int × List Int × List (List Int) ⊕
      List Int × List (List Int) ⊕
        Bool) := fun x3 =>
  if decide (x3.1 < len a0.Breakers) = true then
    Option.bind (idx a0.Breakers x3.1) fun x4 =>
      Option.bind (board_in x4.A 0 (W (a0.Buses - 1))) fun x5 =>
        if (!x5) = true then some (.inr (.inr false))
        else
          Option.bind
            (if (x4.Kind == 1) = true then
              Option.bind (board_in x4.B (W (x4.A + 1)) (W (a0.Buses - 1))) fun x6 => some x6
            else some false)
            fun x7 =>
            Option.bind
              (if x7 = true then some (.inl (x3.2.1, x3.2.2))
              else
                Option.bind
                  (if (x4.Kind == 2) = true then
                    Option.bind (board_in x4.B 0 (W (len x3.2.1 - 1))) fun x8 =>
                      if x8 = true then Option.bind (idx x3.2.1 x4.B) fun x9 => some (x9 == 0)
                      else some false
                  else some false)
                  fun x10 =>
                  Option.bind
                    (if x10 = true then
                      Option.bind (idx x3.2.1 x4.B) fun x23 =>
                        Option.bind (idx x3.2.1 x4.B) fun x24 =>
                          Option.bind (idx x3.2.1 x4.B) fun x25 =>
                            Option.bind (setO x3.2.1 x4.B (W (x23 + 1))) fun x26 =>
                              some (.inl (x26, x3.2.2))
                    else
                      Option.bind
                        (if (x4.Kind == 3) = true then
                          Option.bind (board_in x4.B 0 (W (len x3.2.2 - 1))) fun x11 =>
                            if x11 = true then
                              Option.bind (idx x3.2.2 x4.B) fun x12 =>
                                Option.bind (idx x3.2.2 x4.B) fun x13 =>
                                  Option.bind (slices_Contains_int_int x13 x4.A) fun x14 => some (!x14, x3.2.2)
                            else some (false, x3.2.2)
                        else some (false, x3.2.2))
                        fun x15 =>
                        if x15.1 = true then
                          Option.bind (idx x15.2 x4.B) fun x16 =>
                            Option.bind (idx x15.2 x4.B) fun x17 =>
                              Option.bind (idx x15.2 x4.B) fun x18 =>
                                Option.bind (app x18 [x4.A]) fun x19 =>
                                  Option.bind (setO x15.2 x4.B x19) fun x20 =>
                                    Option.bind (idx x20 x4.B) fun x21 =>
                                      Option.bind (eqO x4.B x4.B) fun x22 => some (.inl (x3.2.1, x20))
                        else some (.inr (.inr (.inr (.inr false)))))
                    fun x27 => Sum.elim (fun x28 => some (.inl (x28.1, x28.2))) (fun x29 => some x29) x27)
              fun x30 =>
              Sum.elim (fun x31 => some (.inl (W (x3.1 + 1), x31.1, x31.2))) (fun x32 => some x32)
                x30
  else some (.inr (.inl (x3.2.1, x3.2.2)))
noncomputable def board_breakers (a0 : Board) : Option (Bool) :=
  Option.bind (mkZ 0 (len a0.Sources)) fun x1 =>
    Option.bind (mkZ [] (len a0.Consumers)) fun x2 =>
      Option.bind (loopO (board_breakers_L1 a0) (0, x1, x2)) fun x33 =>
        Sum.elim
          (fun x34 =>
            Option.bind
              (Option.bind (slices_Contains_int_int x34.1 0) fun x35 =>
                if (!x35) = true then Option.bind (slices_ContainsFunc_int_int x34.2) fun x36 => some !x36
                else some false)
              fun x37 => some x37)
          (fun x38 => some x38) x33
noncomputable def c95 : Con D := ⟨95, [.lf (.int .i64), .lf (.sl 5), .lf (.sl 6), .lf (.sl 7), .lf (.int .i64), .lf (.int .i64)], [.lf .bool], [.agg [.h 0 [], .h 1 [0], .h 2 [0], .h 3 [0], .h 4 [], .h 5 []]], [], [.one (.h 0 [])], [], fun h => board_breakers ⟨h.1, h.2.1, h.2.2.1, h.2.2.2.1, h.2.2.2.2.1, h.2.2.2.2.2⟩⟩
theorem c95_ok : ConOk Tryz.prog T c95 := fn_ok (Φ := [c77, c94, c129]) (rs := [.tmp 2]) (an := (.n none .o (.n none .o (.n none (.n none .o (.n none (.loop ⟨[.lf (.int .i64), .lf (.sl 0), .lf (.sl 14)], [(18, .one (.h 0 []))], [(2320, .sl 0 3 1 []), (2576, .kid 14 22 3 0 2)], [2320, 2576], 3088⟩ false [(.exit 0, ⟨[.lf (.sl 0), .lf (.sl 14)], [], [(2320, .sl 0 3 0 []), (2576, .kid 14 22 3 0 1)], [2320, 2576], 3088⟩)] (.n none .o (.n none .o (.n none (.n none (.n none .o (.n none .o (.n none (.n none (.r (some (true, [(.normal, ⟨[.lf .bool], [(29, .one (.h 0 [])), (34, .one (.any)), (35, .one (.any)), (36, .one (.any)), (37, .one (.any)), (38, .one (.any)), (39, .one (.any)), (40, .one (.any)), (41, .one (.any)), (42, .one (.any))], [], [], 3923⟩)])) .nil) (.n (some (false, [(.normal, ⟨[.lf (.sl 0), .lf (.sl 14)], [], [(2320, .sl 0 3 0 []), (2576, .kid 14 22 3 0 1)], [2320, 2576], 3988⟩)])) .o (.n none (.r (some (true, [(.normal, ⟨[.lf .bool], [(44, .one (.h 0 [])), (49, .one (.any)), (50, .one (.any)), (51, .one (.any)), (52, .one (.any)), (53, .one (.any)), (54, .one (.any)), (57, .one (.any)), (58, .one (.any)), (59, .one (.any)), (60, .one (.any)), (61, .one (.any)), (62, .one (.any))], [], [], 3988⟩)])) .nil) (.n (some (false, [(.normal, ⟨[.lf (.sl 0), .lf (.sl 14)], [], [(2320, .sl 0 3 0 []), (2576, .kid 14 22 3 0 1)], [2320, 2576], 4053⟩)])) .o (.n none (.r (some (true, [(.normal, ⟨[.lf .bool, .lf (.sl 14)], [(71, .one (.h 0 [])), (76, .one (.any)), (77, .one (.any)), (78, .one (.any)), (79, .one (.any)), (80, .one (.any)), (81, .one (.any)), (84, .one (.any)), (85, .one (.any)), (86, .one (.any)), (87, .one (.any)), (88, .one (.any)), (89, .one (.any)), (90, .one (.any)), (91, .one (.any)), (92, .one (.any))], [(2576, .kid 14 22 3 0 1)], [2576], 4053⟩)])) .nil) .o))))) .o))) .o) .o)))) .o)) (.n none (.r (some (true, [(.normal, ⟨[.lf .bool], [(2, .one (.h 0 []))], [], [], 3154⟩)])) .nil) .o))))) pOk repOk (AllC.mem (⟨c77_ok, c94_ok, c129_ok, trivial⟩ : AllC _ _ [c77, c94, c129])) hmix Tryz.call95 Tryz.func95 rfl rfl (by kernel_rfl) (fun h => by kernel_rfl)

noncomputable def board_source (a0 : Source) : Option (Bool) :=
  Option.bind
    (Option.bind (board_in a0.Rating 1 50000) fun x1 =>
      if x1 = true then
        Option.bind (board_in a0.Least 0 a0.Rating) fun x2 =>
          if x2 = true then Option.bind (board_in a0.Start 0 600) fun x3 => some x3
          else some false
      else some false)
    fun x4 => some x4
noncomputable def c96 : Con D := ⟨96, [.lf (.int .i64), .lf (.int .i64), .lf (.int .i64)], [.lf .bool], [.agg [.h 0 [], .h 1 [], .h 2 []]], [], [.one (.h 0 [])], [], fun h => board_source ⟨h.1, h.2.1, h.2.2⟩⟩
theorem c96_ok : ConOk Tryz.prog T c96 := fn_ok (Φ := [c94]) (rs := [.tmp 2]) (an := (.n none .o (.n none (.r (some (true, [(.normal, ⟨[.lf .bool], [(2, .one (.h 0 []))], [], [], 2192⟩)])) .nil) .o))) pOk repOk (AllC.mem (⟨c94_ok, trivial⟩ : AllC _ _ [c94])) hmix Tryz.call96 Tryz.func96 rfl rfl (by kernel_rfl) (fun h => by kernel_rfl)

noncomputable def board_consumer_L1 (a0 : Consumer) (a1 : Int) : Int →
  Option
    (Int ⊕
      Unit ⊕
        Bool) := fun x1 =>
  if decide (x1 < len a0.Needs) = true then
    Option.bind (idx a0.Needs x1) fun x2 =>
      Option.bind
        (Option.bind (board_in x2 0 (W (a1 - 1))) fun x3 =>
          if (!x3) = true then some true
          else
            if decide (x1 > 0) = true then
              Option.bind (idx a0.Needs (W (x1 - 1))) fun x4 => some (decide (x4 ≥ x2))
            else some false)
        fun x5 => if x5 = true then some (.inr (.inr false)) else some (.inl (W (x1 + 1)))
  else some (.inr (.inl ()))
noncomputable def board_consumer (a0 : Consumer) (a1 : Int) : Option (Bool) :=
  Option.bind (loopO (board_consumer_L1 a0 a1) 0) fun x6 =>
    Sum.elim
      (fun x7 =>
        Option.bind
          (Option.bind (board_in a0.Load 0 50000) fun x8 =>
            if x8 = true then
              Option.bind (board_in a0.Least 0 a0.Load) fun x9 =>
                if x9 = true then
                  Option.bind (board_in a0.Preference 0 15) fun x10 =>
                    if x10 = true then
                      Option.bind (board_in a0.Thruster (-1) 7) fun x11 =>
                        if x11 = true then some (decide (len a0.Needs ≤ 4)) else some false
                    else some false
                else some false
            else some false)
          fun x12 => some x12)
      (fun x13 => some x13) x6
noncomputable def c97 : Con D := ⟨97, [.lf (.int .i64), .lf (.int .i64), .lf (.int .i64), .lf (.int .i64), .lf (.sl 0), .lf (.int .i64)], [.lf .bool], [.agg [.h 0 [], .h 1 [], .h 2 [], .h 3 [], .h 4 [0]], .one (.h 5 [])], [], [.one (.h 0 [])], [], fun h => board_consumer ⟨h.1, h.2.1, h.2.2.1, h.2.2.2.1, h.2.2.2.2.1⟩ h.2.2.2.2.2⟩
theorem c97_ok : ConOk Tryz.prog T c97 := fn_ok (Φ := [c94]) (rs := [.tmp 4]) (an := (.n none .o (.n none (.n none .o (.n none (.loop ⟨[.lf (.int .i64)], [(10, .one (.h 0 []))], [], [], 2448⟩ false [(.exit 0, ⟨[], [], [], [], 2448⟩)] (.n none .o (.n none .o (.n none (.n none (.n none .o (.n none (.r (some (true, [(.normal, ⟨[.lf .bool], [(21, .one (.any)), (22, .one (.any)), (23, .one (.any)), (24, .one (.any)), (25, .one (.any)), (26, .one (.any)), (27, .one (.any)), (28, .one (.any)), (29, .one (.any)), (30, .one (.any)), (31, .one (.any)), (32, .one (.any)), (33, .one (.h 0 []))], [], [], 2897⟩)])) .nil) .o)) .o) .o)))) .o)) (.n none (.r (some (true, [(.normal, ⟨[.lf .bool], [(4, .one (.h 0 []))], [], [], 2512⟩)])) .nil) .o)))) pOk repOk (AllC.mem (⟨c94_ok, trivial⟩ : AllC _ _ [c94])) hmix Tryz.call97 Tryz.func97 rfl rfl (by kernel_rfl) (fun h => by kernel_rfl)

noncomputable def board_Check_L1 (a0 : Board) : Bool × Int →
  Option
    (Bool × Int ⊕
      Bool) := fun x7 =>
  if decide (x7.2 < len a0.Sources) = true then
    Option.bind (idx a0.Sources x7.2) fun x8 =>
      Option.bind (if x7.1 = true then Option.bind (board_source x8) fun x9 => some x9 else some false) fun x10 =>
        some (.inl (x10, W (x7.2 + 1)))
  else some (.inr x7.1)
noncomputable def board_Check_L2 (a0 : Board) : Bool × Int →
  Option
    (Bool × Int ⊕
      Bool) := fun x12 =>
  if decide (x12.2 < len a0.Consumers) = true then
    Option.bind (idx a0.Consumers x12.2) fun x13 =>
      Option.bind (if x12.1 = true then Option.bind (board_consumer x13 x12.2) fun x14 => some x14 else some false)
        fun x15 => some (.inl (x15, W (x12.2 + 1)))
  else some (.inr x12.1)
noncomputable def board_Check (a0 : Board) : Option (Int) :=
  Option.bind
    (Option.bind (board_in a0.Buses 1 6) fun x1 =>
      if (!x1) = true then some true
      else
        if decide (len a0.Breakers > 24) = true then some true
        else
          if decide (len a0.Sources > 8) = true then some true
          else some (decide (len a0.Consumers > 16)))
    fun x2 =>
    if x2 = true then some 2
    else
      Option.bind
        (Option.bind (board_breakers a0) fun x3 =>
          if x3 = true then
            Option.bind (board_in a0.Phase 0 1800) fun x4 =>
              if x4 = true then Option.bind (board_in a0.Frequency 0 6000) fun x5 => some x5
              else some false
          else some false)
        fun x6 =>
        Option.bind (loopO (board_Check_L1 a0) (x6, 0)) fun x11 =>
          Option.bind (loopO (board_Check_L2 a0) (x11, 0)) fun x16 =>
            if (!x16) = true then some 14 else some 0
noncomputable def c56 : Con D := ⟨56, [.lf (.int .i64), .lf (.sl 5), .lf (.sl 6), .lf (.sl 7), .lf (.int .i64), .lf (.int .i64)], [.lf (.int .i64)], [.agg [.h 0 [], .h 1 [0], .h 2 [0], .h 3 [0], .h 4 [], .h 5 []]], [], [.one (.h 0 [])], [], fun h => board_Check ⟨h.1, h.2.1, h.2.2.1, h.2.2.2.1, h.2.2.2.2.1, h.2.2.2.2.2⟩⟩
theorem c56_ok : ConOk Tryz.prog T c56 := fn_ok (Φ := [c94, c95, c96, c97]) (rs := [.tmp 2]) (an := (.n none .o (.n none (.n none (.r (some (true, [(.normal, ⟨[.lf .bool], [(29, .one (.h 0 []))], [], [], 2192⟩)])) .nil) .o) (.n none (.r (some (true, [(.normal, ⟨[.lf .bool], [(3, .one (.h 0 []))], [], [], 2257⟩)])) .nil) (.n none (.n none .o (.n none (.loop ⟨[.lf .bool, .lf (.int .i64)], [(3, .one (.h 0 [])), (45, .one (.h 1 []))], [], [], 2578⟩ true [(.exit 0, ⟨[.lf .bool], [(3, .one (.h 0 []))], [], [], 2578⟩)] (.n none .o (.n none .o (.n none (.n none (.n none .o (.r (some (true, [(.normal, ⟨[.lf .bool], [(3, .one (.h 0 [])), (51, .one (.any)), (52, .one (.any))], [], [], 2964⟩)])) .nil)) .o) .o)))) .o)) (.n none (.n none .o (.n none (.loop ⟨[.lf .bool, .lf (.int .i64)], [(3, .one (.h 0 [])), (58, .one (.h 1 []))], [], [], 2899⟩ true [(.exit 2, ⟨[.lf .bool], [(3, .one (.h 0 []))], [], [], 2899⟩)] (.n none .o (.n none .o (.n none (.n none (.n none .o (.r (some (true, [(.normal, ⟨[.lf .bool], [(3, .one (.h 0 [])), (65, .one (.any)), (66, .one (.any)), (67, .one (.any))], [], [], 3413⟩)])) .nil)) .o) .o)))) .o)) .o)))))) pOk repOk (AllC.mem (⟨c94_ok, c95_ok, c96_ok, c97_ok, trivial⟩ : AllC _ _ [c94, c95, c96, c97])) hmix Tryz.call56 Tryz.func56 rfl rfl (by kernel_rfl) (fun h => by kernel_rfl)

noncomputable def board_size (a0 : Board) (a1 : Int) : Option (Int) :=
  if (a1 == 1) = true then some (len a0.Sources)
  else
    if (a1 == 2) = true then some (len a0.Breakers)
    else
      if (a1 == 3) = true then some a0.Buses
      else if (a1 == 4) = true then some (len a0.Consumers) else some 0
noncomputable def c135 : Con D := ⟨135, [.lf (.int .i64), .lf (.sl 5), .lf (.sl 6), .lf (.sl 7), .lf (.int .i64), .lf (.int .i64), .lf (.int .i64)], [.lf (.int .i64)], [.agg [.h 0 [], .h 1 [0], .h 2 [0], .h 3 [0], .h 4 [], .h 5 []], .one (.h 6 [])], [], [.one (.h 0 [])], [], fun h => board_size ⟨h.1, h.2.1, h.2.2.1, h.2.2.2.1, h.2.2.2.2.1, h.2.2.2.2.2.1⟩ h.2.2.2.2.2.2⟩
theorem c135_ok : ConOk Tryz.prog T c135 := fn_ok (Φ := []) (rs := [.tmp 4]) (an := .o) pOk repOk (AllC.mem (l := []) trivial) hmix Tryz.call135 Tryz.func135 rfl rfl (by kernel_rfl) (fun h => by kernel_rfl)

noncomputable def cmp_isNaN_int (a0 : Int) : Option (Bool) := some (a0 != a0)
noncomputable def c99 : Con D := ⟨99, [.lf (.int .i64)], [.lf .bool], [.one (.h 0 [])], [], [.one (.h 0 [])], [], fun h => cmp_isNaN_int h⟩
theorem c99_ok : ConOk Tryz.prog T c99 := fn_ok (Φ := []) (rs := [.tmp 2]) (an := .o) pOk repOk (AllC.mem (l := []) trivial) hmix Tryz.call99 Tryz.func99 rfl rfl (by kernel_rfl) (fun h => by kernel_rfl)

noncomputable def cmp_Compare_int (a0 : Int) (a1 : Int) : Option (Int) :=
  Option.bind (cmp_isNaN_int a0) fun x1 =>
    Option.bind (cmp_isNaN_int a1) fun x2 =>
      if x1 = true then if x2 = true then some 0 else some (-1)
      else
        if x2 = true then some 1
        else
          if decide (a0 < a1) = true then some (-1)
          else if decide (a0 > a1) = true then some 1 else some 0
noncomputable def c59 : Con D := ⟨59, [.lf (.int .i64), .lf (.int .i64)], [.lf (.int .i64)], [.one (.h 0 []), .one (.h 1 [])], [], [.one (.h 0 [])], [], fun h => cmp_Compare_int h.1 h.2⟩
theorem c59_ok : ConOk Tryz.prog T c59 := fn_ok (Φ := [c99]) (rs := [.tmp 4]) (an := .o) pOk repOk (AllC.mem (⟨c99_ok, trivial⟩ : AllC _ _ [c99])) hmix Tryz.call59 Tryz.func59 rfl rfl (by kernel_rfl) (fun h => by kernel_rfl)

noncomputable def cmp_Or_int_L1 (a0 : List
  Int) : Int →
  Option
    (Int ⊕
      Unit ⊕
        Int) := fun x1 =>
  if decide (x1 < len a0) = true then
    Option.bind (idx a0 x1) fun x2 =>
      if (x2 != 0) = true then some (.inr (.inr x2)) else some (.inl (W (x1 + 1)))
  else some (.inr (.inl ()))
noncomputable def cmp_Or_int (a0 : (List Int)) : Option (Int) :=
  Option.bind (loopO (cmp_Or_int_L1 a0) 0) fun x3 =>
    Sum.elim (fun x4 => some 0) (fun x5 => some x5) x3
noncomputable def c136 : Con D := ⟨136, [.lf (.sl 0)], [.lf (.int .i64)], [.one (.h 0 [0])], [], [.one (.h 0 [])], [], fun h => cmp_Or_int h⟩
theorem c136_ok : ConOk Tryz.prog T c136 := fn_ok (Φ := []) (rs := [.tmp 2]) (an := (.n none .o (.n none .o (.n none (.n none .o (.n none (.loop ⟨[.lf (.int .i64)], [(8, .one (.h 0 []))], [], [], 2384⟩ false [(.exit 0, ⟨[], [], [], [], 2384⟩)] .o) .o)) .o)))) pOk repOk (AllC.mem (l := []) trivial) hmix Tryz.call136 Tryz.func136 rfl rfl (by kernel_rfl) (fun h => by kernel_rfl)

noncomputable def board_broken_L1 (a0 : Board) (a1 : List
  Part) : Int →
  Option
    (Int ⊕
      Unit ⊕
        Bool) := fun x1 =>
  if decide (x1 < len a1) = true then
    Option.bind (idx a1 x1) fun x2 =>
      Option.bind
        (Option.bind (board_size a0 x2.Kind) fun x3 =>
          Option.bind (board_in x2.Number 0 (W (x3 - 1))) fun x4 =>
            if (!x4) = true then some true
            else
              if decide (x1 > 0) = true then
                Option.bind (idx a1 (W (x1 - 1))) fun x5 =>
                  Option.bind (cmp_Compare_int x5.Kind x2.Kind) fun x6 =>
                    Option.bind (idx a1 (W (x1 - 1))) fun x7 =>
                      Option.bind (cmp_Compare_int x7.Number x2.Number) fun x8 =>
                        Option.bind (cmp_Or_int [x6, x8]) fun x9 => some (decide (x9 ≥ 0))
              else some false)
        fun x10 => if x10 = true then some (.inr (.inr false)) else some (.inl (W (x1 + 1)))
  else some (.inr (.inl ()))
noncomputable def board_broken (a0 : Board) (a1 : (List Part)) : Option (Bool) :=
  Option.bind (loopO (board_broken_L1 a0 a1) 0) fun x11 =>
    Sum.elim (fun x12 => some (decide (len a1 ≤ 32))) (fun x13 => some x13) x11
noncomputable def c104 : Con D := ⟨104, [.lf (.int .i64), .lf (.sl 5), .lf (.sl 6), .lf (.sl 7), .lf (.int .i64), .lf (.int .i64), .lf (.sl 10)], [.lf .bool], [.agg [.h 0 [], .h 1 [0], .h 2 [0], .h 3 [0], .h 4 [], .h 5 []], .one (.h 6 [0])], [], [.one (.h 0 [])], [], fun h => board_broken ⟨h.1, h.2.1, h.2.2.1, h.2.2.2.1, h.2.2.2.2.1, h.2.2.2.2.2.1⟩ h.2.2.2.2.2.2⟩
theorem c104_ok : ConOk Tryz.prog T c104 := fn_ok (Φ := [c59, c94, c135, c136]) (rs := [.tmp 4]) (an := (.n none .o (.n none (.n none .o (.n none (.loop ⟨[.lf (.int .i64)], [(9, .one (.h 0 []))], [], [], 2384⟩ false [(.exit 0, ⟨[], [], [], [], 2384⟩)] (.n none .o (.n none .o (.n none (.n none (.n none .o (.n none (.r (some (true, [(.normal, ⟨[.lf .bool], [(24, .one (.any)), (25, .one (.any)), (26, .one (.any)), (27, .one (.any)), (28, .one (.any)), (29, .one (.any)), (30, .one (.any)), (31, .one (.any)), (32, .one (.any)), (33, .one (.any)), (34, .one (.any)), (35, .one (.any)), (36, .one (.any)), (37, .one (.any)), (38, .one (.any)), (39, .one (.any)), (40, .one (.any)), (41, .one (.any)), (42, .one (.any)), (43, .one (.any)), (44, .one (.any)), (45, .one (.any)), (46, .one (.any)), (47, .one (.any)), (48, .one (.any)), (49, .one (.h 0 []))], [], [], 2897⟩)])) .nil) .o)) .o) .o)))) .o)) .o))) pOk repOk (AllC.mem (⟨c59_ok, c94_ok, c135_ok, c136_ok, trivial⟩ : AllC _ _ [c59, c94, c135, c136])) hmix Tryz.call104 Tryz.func104 rfl rfl (by kernel_rfl) (fun h => by kernel_rfl)

noncomputable def board_running (a0 : Running) : Option (Bool) :=
  Option.bind
    (Option.bind (board_in a0.State 0 3) fun x1 =>
      if x1 = true then
        Option.bind (board_in a0.Since 0 2147483648) fun x2 =>
          if x2 = true then
            Option.bind (board_in a0.Frequency 0 6000) fun x3 =>
              if x3 = true then Option.bind (board_in a0.Phase 0 3599) fun x4 => some x4
              else some false
          else some false
      else some false)
    fun x5 => some x5
noncomputable def c107 : Con D := ⟨107, [.lf (.int .i64), .lf (.int .i64), .lf (.int .i64), .lf (.int .i64)], [.lf .bool], [.agg [.h 0 [], .h 1 [], .h 2 [], .h 3 []]], [], [.one (.h 0 [])], [], fun h => board_running ⟨h.1, h.2.1, h.2.2.1, h.2.2.2⟩⟩
theorem c107_ok : ConOk Tryz.prog T c107 := fn_ok (Φ := [c94]) (rs := [.tmp 2]) (an := (.n none .o (.n none (.r (some (true, [(.normal, ⟨[.lf .bool], [(2, .one (.h 0 []))], [], [], 2192⟩)])) .nil) .o))) pOk repOk (AllC.mem (⟨c94_ok, trivial⟩ : AllC _ _ [c94])) hmix Tryz.call107 Tryz.func107 rfl rfl (by kernel_rfl) (fun h => by kernel_rfl)

noncomputable def board_State_1 (a0 : Running) : Option (Bool) := Option.bind (board_running a0) fun x1 => some !x1
noncomputable def c106 : Con D := ⟨106, [.lf (.int .i64), .lf (.int .i64), .lf (.int .i64), .lf (.int .i64)], [.lf .bool], [.agg [.h 0 [], .h 1 [], .h 2 [], .h 3 []]], [], [.one (.h 0 [])], [], fun h => board_State_1 ⟨h.1, h.2.1, h.2.2.1, h.2.2.2⟩⟩
theorem c106_ok : ConOk Tryz.prog T c106 := fn_ok (Φ := [c107]) (rs := [.tmp 2]) (an := .o) pOk repOk (AllC.mem (⟨c107_ok, trivial⟩ : AllC _ _ [c107])) hmix Tryz.call106 Tryz.func106 rfl rfl (by kernel_rfl) (fun h => by kernel_rfl)

noncomputable def slices_IndexFunc_Running_Running_L1 (a0 : List
  Running) : Int →
  Option
    (Int ⊕
      Unit ⊕
        Int) := fun x1 =>
  if decide (x1 < len a0) = true then
    Option.bind (idx a0 x1) fun x2 =>
      Option.bind (board_State_1 x2) fun x3 =>
        if x3 = true then some (.inr (.inr x1)) else some (.inl (W (x1 + 1)))
  else some (.inr (.inl ()))
noncomputable def slices_IndexFunc_Running_Running (a0 : (List Running)) : Option (Int) :=
  Option.bind (loopO (slices_IndexFunc_Running_Running_L1 a0) 0) fun x4 =>
    Sum.elim (fun x5 => some (-1)) (fun x6 => some x6) x4
noncomputable def c137 : Con D := ⟨137, [.lf (.sl 9)], [.lf (.int .i64)], [.one (.h 0 [0]), .one (.fn 106 [])], [], [.one (.h 0 [])], [], fun h => slices_IndexFunc_Running_Running h⟩
theorem c137_ok : ConOk Tryz.prog T c137 := fn_ok (Φ := [c106]) (rs := [.tmp 4]) (an := (.n none .o (.n none (.n none .o (.n none (.loop ⟨[.lf (.int .i64)], [(8, .one (.h 0 []))], [], [], 2320⟩ false [(.exit 0, ⟨[], [], [], [], 2320⟩)] .o) .o)) .o))) pOk repOk (AllC.mem (⟨c106_ok, trivial⟩ : AllC _ _ [c106])) hmix Tryz.call137 Tryz.func137 rfl rfl (by kernel_rfl) (fun h => by kernel_rfl)

noncomputable def slices_ContainsFunc_Running_Running (a0 : (List Running)) : Option (Bool) := Option.bind (slices_IndexFunc_Running_Running a0) fun x1 => some (decide (x1 ≥ 0))
noncomputable def c105 : Con D := ⟨105, [.lf (.sl 9)], [.lf .bool], [.one (.h 0 [0]), .one (.fn 106 [])], [], [.one (.h 0 [])], [], fun h => slices_ContainsFunc_Running_Running h⟩
theorem c105_ok : ConOk Tryz.prog T c105 := fn_ok (Φ := [c137]) (rs := [.tmp 4]) (an := .o) pOk repOk (AllC.mem (⟨c137_ok, trivial⟩ : AllC _ _ [c137])) hmix Tryz.call105 Tryz.func105 rfl rfl (by kernel_rfl) (fun h => by kernel_rfl)

end Rx
end Go.Proofs.YtfnphdhcgkondaaGreat
