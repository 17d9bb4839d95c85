/- Plain functions, walks. Written by a program (wip/gen). -/
import Derived.Test.YtnpnaopnhgkapaaRt
import Derived.Test.YtnpnaopnhgkapaaRg1
import Derived.Test.YtnpnaopnhgkapaaRg2
import Derived.Test.YtnpnaopnhgkapaaRg3
set_option linter.unusedVariables false
set_option maxRecDepth 100000
namespace Go.Proofs.Ytnpnaopnhgkapaa
open Go Go.RowKit Dp
namespace Rx

noncomputable def dynposlaw31_DisconnectExact_L1 (a1 : List
  Stage) : Int →
  Option
    (Int ⊕
      Unit ⊕
        Bool) := fun x2 =>
  if decide (x2 < len a1) = true then
    Option.bind (idx a1 x2) fun x3 =>
      Option.bind
        (if decide (len x3.Needs > 14) = true then some true else some (decide (sLen x3.Name > 40)))
        fun x4 =>
        if x4 = true then Option.bind dynposlaw31_sane fun x5 => some (.inr (.inr x5))
        else some (.inl (W (x2 + 1)))
  else some (.inr (.inl ()))
noncomputable def dynposlaw31_DisconnectExact_L3 (a3 : List
  Int) (x12 : Sequence) (x24 : List Int ×
  Int ×
    List
      Int) : Int →
  Option
    (Int ⊕
      Unit ⊕
        Int × List Int × Int ⊕
          List Int × Int ⊕
            Bool) := fun x25 =>
  if decide (x25 < 2) = true then
    Option.bind (idx [a3, x24.2.2] x25) fun x26 =>
      Option.bind (disconnect_Proves x12.Stages x26) fun x27 =>
        Option.bind (dynposref31_Proves x12.Stages x26) fun x28 =>
          if (!x27 == x28) = true then some (.inr (.inr (.inr (.inr false))))
          else some (.inl (W (x25 + 1)))
  else some (.inr (.inl ()))
noncomputable def dynposlaw31_DisconnectExact_L4 (a4 : Int) (x12 : Sequence) (x31 : Int ×
  List Int ×
    Int) : Int →
  Option
    (Int ⊕
      Unit ⊕
        Int × List Int × Int ⊕
          List Int × Int ⊕
            Bool) := fun x32 =>
  if decide (x32 < 2) = true then
    Option.bind (idx [a4, x31.1] x32) fun x33 =>
      Option.bind (disconnect_New x12.Stages x33) fun x34 =>
        Option.bind (dynposref31_New x12.Stages x33) fun x35 =>
          Option.bind
            (if (x34.2.1 != x35.2.1) = true then some true
            else
              Option.bind (dynposref31_Same (Progress.mk x34.1 x34.2.2) (Progress.mk x35.1 x35.2.2))
                fun x36 => some !x36)
            fun x37 =>
            if x37 = true then some (.inr (.inr (.inr (.inr false))))
            else some (.inl (W (x32 + 1)))
  else some (.inr (.inl ()))
noncomputable def dynposlaw31_DisconnectExact_L6 (a3 : List
  Int) (x12 : Sequence) (x42 : Progress) (x52 : List Int ×
  Int ×
    List
      Int) : Int →
  Option
    (Int ⊕
      Unit ⊕
        Int × List Int × Int ⊕
          List Int × Int ⊕
            Int × List Int × Int ⊕
              List Int × Int ⊕
                Bool) := fun x53 =>
  if decide (x53 < 3) = true then
    Option.bind (idx [a3, [], x52.2.2] x53) fun x54 =>
      Option.bind (disconnect_Step x12.Stages x42 x54) fun x55 =>
        Option.bind (dynposref31_Step x12.Stages x42 x54) fun x56 =>
          Option.bind
            (if (x55.2.1 != x56.2.1) = true then some true
            else
              Option.bind (dynposref31_Same (Progress.mk x55.1 x55.2.2) (Progress.mk x56.1 x56.2.2))
                fun x57 => some !x57)
            fun x58 =>
            if x58 = true then some (.inr (.inr (.inr (.inr (.inr (.inr false))))))
            else some (.inl (W (x53 + 1)))
  else some (.inr (.inl ()))
noncomputable def dynposlaw31_DisconnectExact_L5 (a2 : Progress) (a3 : List
  Int) (x9 : List Int ×
  Int ×
    List
      Stage) (x12 : Sequence) (x13 : Int ×
  List Work ×
    List Int ×
      Int) (x40 : Int ×
  List Work ×
    List Int ×
      Int) : Int × List Int × Int →
  Option
    (Int × List Int × Int ⊕
      List Int × Int ⊕
        Int × List Int × Int ⊕
          List Int × Int ⊕
            Bool) := fun x41 =>
  if decide (x41.1 < 3) = true then
    Option.bind (idx [Progress.mk x13.1 x13.2.1, Progress.mk x40.1 x40.2.1, a2] x41.1) fun x42 =>
      Option.bind (disconnect_Left x12.Stages x42) fun x43 =>
        Option.bind (dynposref31_Left x12.Stages x42) fun x44 =>
          Option.bind
            (if (x43.1 != x44.1) = true then some true
            else
              if (!x43.2 == x44.2) = true then some true
              else
                Option.bind (disconnect_Valid x12.Stages x42) fun x45 =>
                  Option.bind (dynposref31_Valid x12.Stages x42) fun x46 =>
                    if (!x45 == x46) = true then some true
                    else
                      Option.bind (disconnect_Done x42) fun x47 =>
                        Option.bind (dynposref31_Done x42) fun x48 =>
                          if (!x47 == x48) = true then some true
                          else
                            Option.bind (disconnect_Stuck x42) fun x49 =>
                              Option.bind (dynposref31_Stuck x42) fun x50 => some !x49 == x50)
            fun x51 =>
            if x51 = true then some (.inr (.inr (.inr (.inr false))))
            else
              Option.bind (Src_Fails (Src.mk x41.2.1 x41.2.2) x9.2.2) fun x52 =>
                Option.bind (loopO (dynposlaw31_DisconnectExact_L6 a3 x12 x42 x52) 0) fun x59 =>
                  Sum.elim (fun x60 => some (.inl (W (x41.1 + 1), x52.1, x52.2.1)))
                    (fun x61 => some x61) x59
  else some (.inr (.inl (x41.2.1, x41.2.2)))
noncomputable def dynposlaw31_DisconnectExact_L2 (a1 : List
  Stage) (a2 : Progress) (a3 : List
  Int) (a4 : Int) (x9 : List Int ×
  Int ×
    List
      Stage) (x10 : List Int ×
  Int ×
    List
      Stage) : Int × List Int × Int →
  Option
    (Int × List Int × Int ⊕
      List Int × Int ⊕
        Bool) := fun x11 =>
  if decide (x11.1 < 3) = true then
    Option.bind (idx [Sequence.mk x9.2.2, Sequence.mk x10.2.2, Sequence.mk a1] x11.1) fun x12 =>
      Option.bind (Src_Progress (Src.mk x11.2.1 x11.2.2) x9.2.2 12) fun x13 =>
        Option.bind
          (Option.bind (disconnect_Check x12.Stages) fun x14 =>
            Option.bind (dynposref31_Check x12.Stages) fun x15 =>
              if (x14 != x15) = true then some true
              else
                Option.bind (disconnect_Length x12.Stages) fun x16 =>
                  Option.bind (dynposref31_Length x12.Stages) fun x17 =>
                    if (x16 != x17) = true then some true
                    else
                      Option.bind (disconnect_Longest x12.Stages) fun x18 =>
                        Option.bind (dynposref31_Longest x12.Stages) fun x19 =>
                          if (x18 != x19) = true then some true
                          else
                            Option.bind (disconnect_Path x12.Stages) fun x20 =>
                              Option.bind (dynposref31_Path x12.Stages) fun x21 =>
                                Option.bind (dynposref01_Ints x20 x21) fun x22 => some !x22)
          fun x23 =>
          if x23 = true then some (.inr (.inr false))
          else
            Option.bind (Src_Some (Src.mk x13.2.2.1 x13.2.2.2) 8 3) fun x24 =>
              Option.bind (loopO (dynposlaw31_DisconnectExact_L3 a3 x12 x24) 0) fun x29 =>
                Sum.elim
                  (fun x30 =>
                    Option.bind (Src_N (Src.mk x24.1 x24.2.1) 9) fun x31 =>
                      Option.bind (loopO (dynposlaw31_DisconnectExact_L4 a4 x12 x31) 0) fun x38 =>
                        Sum.elim
                          (fun x39 =>
                            Option.bind
                              (Src_BentProgress (Src.mk x31.2.1 x31.2.2) (Progress.mk x13.1 x13.2.1))
                              fun x40 =>
                              Option.bind
                                (loopO (dynposlaw31_DisconnectExact_L5 a2 a3 x9 x12 x13 x40)
                                  (0, x40.2.2.1, x40.2.2.2))
                                fun x62 =>
                                Sum.elim (fun x63 => some (.inl (W (x11.1 + 1), x63.1, x63.2)))
                                  (fun x64 => some x64) x62)
                          (fun x65 => some x65) x38)
                  (fun x66 => some x66) x29
  else some (.inr (.inl (x11.2.1, x11.2.2)))
noncomputable def dynposlaw31_DisconnectExact (a0 : (List Int)) (a1 : (List Stage)) (a2 : Progress) (a3 : (List Int)) (a4 : Int) : Option (Bool) :=
  Option.bind
    (if decide (len a0 > 600) = true then some true
    else
      if decide (len a1 > 14) = true then some true
      else if decide (len a2.Works > 14) = true then some true else some (decide (len a3 > 20)))
    fun x1 =>
    if x1 = true then Option.bind dynposlaw31_sane fun x72 => some x72
    else
      Option.bind (loopO (dynposlaw31_DisconnectExact_L1 a1) 0) fun x6 =>
        Sum.elim
          (fun x7 =>
            Option.bind (dynposmake_New a0) fun x8 =>
              Option.bind (Src_Sequence (Src.mk x8.1 x8.2)) fun x9 =>
                Option.bind (Src_BentSequence (Src.mk x9.1 x9.2.1) x9.2.2) fun x10 =>
                  Option.bind
                    (loopO (dynposlaw31_DisconnectExact_L2 a1 a2 a3 a4 x9 x10) (0, x10.1, x10.2.1))
                    fun x67 =>
                    Sum.elim (fun x68 => Option.bind dynposlaw31_sane fun x69 => some x69) (fun x70 => some x70) x67)
          (fun x71 => some x71) x6
noncomputable def c4 : Con D := ⟨4, [.lf (.sl 0), .lf (.sl 4), .lf (.int .i64), .lf (.sl 6), .lf (.sl 0), .lf (.int .i64)], [.lf .bool], [.one (.h 0 [0]), .agg [.h 1 [0]], .agg [.h 2 [], .h 3 [0]], .one (.h 4 [0]), .one (.h 5 [])], [], [.one (.h 0 [])], [], fun h => dynposlaw31_DisconnectExact h.1 h.2.1 ⟨h.2.2.1, h.2.2.2.1⟩ h.2.2.2.2.1 h.2.2.2.2.2⟩
theorem c4_ok : ConOk Try.prog T c4 := fn_ok (Φ := [c9, c10, c11, c12, c13, c14, c15, c16, c17, c18, c19, c20, c21, c22, c23, c24, c25, c26, c27, c28, c29, c30, c31, c32, c33, c34, c35, c36, c37, c38, c39, c40, c41]) (rs := [.tmp 10]) (an := (.n none .o (.n none (.n none (.r (some (true, [(.normal, ⟨[.lf .bool], [(57, .one (.h 0 []))], [], [], 2256⟩)])) .nil) .o) (.n none (.n none .o (.n none (.loop ⟨[.lf (.int .i64)], [(62, .one (.h 0 []))], [], [], 2577⟩ false [(.exit 0, ⟨[], [], [], [], 2577⟩)] (.n none .o (.n none .o (.n none (.n none (.n none .o (.n none (.r (some (true, [(.normal, ⟨[.lf .bool], [(71, .one (.any)), (72, .one (.any)), (73, .one (.any)), (74, .one (.any)), (75, .one (.h 0 []))], [], [], 2962⟩)])) .nil) .o)) .o) .o)))) .o)) (.n none .o (.n none .o (.n none (.n none (.f [2841] .o) (.n none (.loop ⟨[.lf (.int .i64), .lf (.sl 0), .lf (.int .i64)], [(88, .one (.h 0 []))], [(2649, .box [.h 1 [0, 1], .h 2 []])], [2649], 3537⟩ false [(.exit 2, ⟨[.lf (.sl 0), .lf (.int .i64)], [], [(2649, .box [.h 0 [0, 1], .h 1 []])], [2649], 3537⟩)] (.n none .o (.n none .o (.n none (.n none (.n none .o (.n none .o (.n none (.n none (.r (some (true, [(.normal, ⟨[.lf .bool], [(100, .one (.any)), (101, .one (.any)), (102, .one (.any)), (103, .one (.any)), (104, .one (.any)), (107, .one (.any)), (108, .one (.any)), (109, .one (.any)), (110, .one (.any)), (111, .one (.any)), (114, .one (.any)), (115, .one (.any)), (116, .one (.any)), (117, .one (.any)), (118, .one (.any)), (119, .one (.any)), (120, .one (.h 0 []))], [], [], 4180⟩)])) .nil) .o) (.n none (.n none .o (.n none (.loop ⟨[.lf (.int .i64)], [(125, .one (.h 0 []))], [], [], 4565⟩ false [(.exit 4, ⟨[], [], [], [], 4565⟩)] .o) .o)) (.n none (.n none .o (.n none (.loop ⟨[.lf (.int .i64)], [(140, .one (.h 0 []))], [], [], 4949⟩ false [(.exit 6, ⟨[], [], [], [], 4949⟩)] (.n none .o (.n none .o (.n none (.n none (.n none .o (.n none .o (.n none .o (.n none (.r (some (true, [(.normal, ⟨[.lf .bool], [(159, .one (.any)), (160, .one (.any)), (161, .one (.any)), (162, .one (.any)), (163, .one (.h 0 []))], [], [], 6358⟩)])) .nil) .o)))) .o) .o)))) .o)) (.n none .o (.n none (.loop ⟨[.lf (.int .i64), .lf (.sl 0), .lf (.int .i64)], [(171, .one (.h 0 []))], [(2649, .box [.h 1 [0, 1], .h 2 []])], [2649], 5461⟩ false [(.exit 8, ⟨[.lf (.sl 0), .lf (.int .i64)], [], [(2649, .box [.h 0 [0, 1], .h 1 []])], [2649], 5461⟩)] (.n none .o (.n none .o (.n none (.n none (.n none .o (.n none .o (.n none .o (.n none (.n none (.r (some (true, [(.normal, ⟨[.lf .bool], [(190, .one (.any)), (191, .one (.any)), (192, .one (.any)), (195, .one (.any)), (196, .one (.any)), (197, .one (.any)), (198, .one (.any)), (199, .one (.any)), (200, .one (.any)), (201, .one (.any)), (204, .one (.any)), (205, .one (.any)), (206, .one (.any)), (207, .one (.any)), (208, .one (.any)), (211, .one (.any)), (212, .one (.any)), (213, .one (.any)), (214, .one (.any)), (215, .one (.any)), (216, .one (.h 0 []))], [], [], 6808⟩)])) .nil) .o) (.n none .o (.n none (.loop ⟨[.lf (.int .i64)], [(222, .one (.h 0 []))], [], [], 7257⟩ false [(.exit 10, ⟨[], [], [], [], 7257⟩)] (.n none .o (.n none .o (.n none (.n none (.n none .o (.n none .o (.n none .o (.n none (.r (some (true, [(.normal, ⟨[.lf .bool], [(243, .one (.any)), (244, .one (.any)), (245, .one (.any)), (246, .one (.any)), (247, .one (.h 0 []))], [], [], 8794⟩)])) .nil) .o)))) .o) .o)))) .o)))))) .o) .o)))) .o))))))) .o) .o)))) .o)) .o))))))) pOk repOk (AllC.mem (⟨c9_ok, c10_ok, c11_ok, c12_ok, c13_ok, c14_ok, c15_ok, c16_ok, c17_ok, c18_ok, c19_ok, c20_ok, c21_ok, c22_ok, c23_ok, c24_ok, c25_ok, c26_ok, c27_ok, c28_ok, c29_ok, c30_ok, c31_ok, c32_ok, c33_ok, c34_ok, c35_ok, c36_ok, c37_ok, c38_ok, c39_ok, c40_ok, c41_ok, trivial⟩ : AllC _ _ [c9, c10, c11, c12, c13, c14, c15, c16, c17, c18, c19, c20, c21, c22, c23, c24, c25, c26, c27, c28, c29, c30, c31, c32, c33, c34, c35, c36, c37, c38, c39, c40, c41])) hmix Try.call4 Try.func4 rfl rfl (by kernel_rfl) (fun h => by kernel_rfl)

end Rx
end Go.Proofs.Ytnpnaopnhgkapaa
