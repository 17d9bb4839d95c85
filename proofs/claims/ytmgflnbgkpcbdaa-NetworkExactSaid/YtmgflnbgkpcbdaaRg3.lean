/- Plain functions, walks. Written by a program (wip/gen). -/
import Derived.Test.YtmgflnbgkpcbdaaRt
import Derived.Test.YtmgflnbgkpcbdaaRg1
import Derived.Test.YtmgflnbgkpcbdaaRg2
set_option linter.unusedVariables false
set_option maxRecDepth 100000
namespace Go.Proofs.Ytmgflnbgkpcbdaa
open Go Go.RowKit Dp
namespace Rx

noncomputable def dynposref32_Deliver_L1 (a0 : Net) (a3 : List
  Message) : Int →
  Option
    (Int ⊕
      Unit ⊕
        Int ×
          List Port ×
            List
              Message) := fun x2 =>
  if decide (x2 < len a3) = true then
    Option.bind (idx a3 x2) fun x3 =>
      Option.bind
        (Option.bind (dynposref32_in x3.From 0 (W (a0.Nodes - 1))) fun x4 =>
          if (!x4) = true then some true
          else Option.bind (dynposref32_in x3.To 0 (W (a0.Nodes - 1))) fun x5 => some !x5)
        fun x6 =>
        if x6 = true then some (.inr (.inr (1, [], []))) else some (.inl (W (x2 + 1)))
  else some (.inr (.inl ()))
noncomputable def dynposref32_Deliver_L2 (a2 : List
  Port) : Int →
  Option
    (Int ⊕
      Unit ⊕
        Int ×
          List Port ×
            List
              Message) := fun x9 =>
  if decide (x9 < len a2) = true then
    Option.bind (idx a2 x9) fun x10 =>
      Option.bind (dynposref32_Port x10) fun x11 =>
        if (!x11) = true then some (.inr (.inr (1, [], []))) else some (.inl (W (x9 + 1)))
  else some (.inr (.inl ()))
noncomputable def dynposref32_Deliver_L4 (a0 : Net) (x16 : Message) (x17 : Int) : Int × List Message × List Port →
  Option
    (Int × List Message × List Port ⊕
      List Message ×
        List
          Port) := fun x18 =>
  if decide (x18.1 < x17) = true then
    Option.bind (idx x18.2.2 (W (W (x16.To * a0.Nodes) + x16.From))) fun x19 =>
      Option.bind (dynposref32_Accept x19 x16.Number) fun x20 =>
        Option.bind
          (if x20.2.2 = true then
            Option.bind (idx x18.2.2 (W (W (x16.To * a0.Nodes) + x16.From))) fun x21 =>
              Option.bind (idx x18.2.2 (W (W (x16.To * a0.Nodes) + x16.From))) fun x22 =>
                Option.bind (setO x18.2.2 (W (W (x16.To * a0.Nodes) + x16.From)) (Port.mk x20.1 x20.2.1))
                  fun x23 => Option.bind (app x18.2.1 [x16]) fun x24 => some (x24, x23)
          else some (x18.2.1, x18.2.2))
          fun x25 => some (.inl (W (x18.1 + 1), x25.1, x25.2))
  else some (.inr (x18.2.1, x18.2.2))
noncomputable def dynposref32_Deliver_L3 (a0 : Net) (a1 : List
  Part) (a3 : List
  Message) : Int × List Message × List Port →
  Option
    (Int × List Message × List Port ⊕
      List Message ×
        List
          Port) := fun x15 =>
  if decide (x15.1 < len a3) = true then
    Option.bind (idx a3 x15.1) fun x16 =>
      Option.bind (dynposref32_Copies a0 a1 x16.From x16.To) fun x17 =>
        Option.bind (loopO (dynposref32_Deliver_L4 a0 x16 x17) (0, x15.2.1, x15.2.2)) fun x26 =>
          some (.inl (W (x15.1 + 1), x26.1, x26.2))
  else some (.inr (x15.2.1, x15.2.2))
noncomputable def dynposref32_Deliver (a0 : Net) (a1 : (List Part)) (a2 : (List Port)) (a3 : (List Message)) : Option (Int × (List Port) × (List Message)) :=
  Option.bind (dynposref32_Check a0) fun x1 =>
    if (x1 != 0) = true then some (x1, [], [])
    else
      if (len a2 != W (a0.Nodes * a0.Nodes)) = true then some (8, [], [])
      else
        Option.bind (loopO (dynposref32_Deliver_L1 a0 a3) 0) fun x7 =>
          Sum.elim
            (fun x8 =>
              Option.bind (loopO (dynposref32_Deliver_L2 a2) 0) fun x12 =>
                Sum.elim
                  (fun x13 =>
                    if decide (len a3 > 60) = true then some (2, [], [])
                    else
                      Option.bind (app [] a2) fun x14 =>
                        Option.bind (loopO (dynposref32_Deliver_L3 a0 a1 a3) (0, [], x14)) fun x27 =>
                          some (0, x27.2, x27.1))
                  (fun x28 => some x28) x12)
            (fun x29 => some x29) x7
noncomputable def c25 : Con D := ⟨25, [.lf (.int .i64), .lf (.sl 4), .lf (.sl 5), .lf (.sl 6), .lf (.sl 7)], [.lf (.int .i64), .lf (.sl 6), .lf (.sl 7)], [.agg [.h 0 [], .h 1 [0]], .one (.h 2 [0]), .one (.h 3 [0]), .one (.h 4 [0])], [], [.one (.own 1000), .one (.own 1001), .one (.h 0 [])], [(1000, .sl 6 28 1 [0, 1]), (1001, .sl 7 65 2 [])], fun h => dynposref32_Deliver ⟨h.1, h.2.1⟩ h.2.2.1 h.2.2.2.1 h.2.2.2.2⟩
theorem c25_ok : ConOk Try.prog T c25 := fn_ok (Φ := [c12, c19, c28, c30, c34]) (rs := [.tmp 8, .tmp 9, .tmp 10]) (an := (.n none .o (.n none .o (.n none .o (.n none (.n none .o (.n none (.loop ⟨[.lf (.int .i64)], [(38, .one (.h 0 []))], [], [], 3344⟩ false [(.exit 0, ⟨[], [], [], [], 3344⟩)] (.n none .o (.n none .o (.n none (.n none (.n none .o (.n none (.r (some (true, [(.normal, ⟨[.lf .bool], [(50, .one (.any)), (51, .one (.any)), (52, .one (.any)), (53, .one (.any)), (54, .one (.any)), (55, .one (.any)), (56, .one (.any)), (57, .one (.h 0 []))], [], [], 3729⟩)])) .nil) .o)) .o) .o)))) .o)) (.n none (.n none .o (.n none (.loop ⟨[.lf (.int .i64)], [(61, .one (.h 0 []))], [], [], 3600⟩ false [(.exit 2, ⟨[], [], [], [], 3600⟩)] .o) .o)) (.n none .o (.n none .o (.n none .o (.n none (.n none .o (.n none (.loop ⟨[.lf (.int .i64), .lf (.sl 7), .lf (.sl 6)], [(17, .one (.own 4240)), (76, .one (.h 0 []))], [(4240, .sl 7 65 1 []), (3856, .sl 6 28 2 [0, 1])], [3856], 4304⟩ true [(.exit 4, ⟨[.lf (.sl 7), .lf (.sl 6)], [(17, .one (.own 4240))], [(4240, .sl 7 65 0 []), (3856, .sl 6 28 1 [0, 1])], [3856], 4304⟩)] (.n none .o (.n none .o (.n none (.n none (.n none .o (.n none .o (.n none .o (.n none (.loop ⟨[.lf (.int .i64), .lf (.sl 7), .lf (.sl 6)], [(17, .one (.own 5715)), (95, .one (.h 0 []))], [(5715, .sl 7 65 1 []), (3856, .sl 6 28 2 [0, 1])], [3856, 4240], 5779⟩ true [(.exit 6, ⟨[.lf (.sl 7), .lf (.sl 6)], [(17, .one (.own 5715))], [(5715, .sl 7 65 0 []), (3856, .sl 6 28 1 [0, 1])], [3856, 4240], 5779⟩)] (.n none .o (.n none .o (.n none (.n none (.n none .o (.n none .o (.n (some (true, [(.normal, ⟨[.lf (.sl 7), .lf (.sl 6)], [(17, .one (.own 6742))], [(6742, .sl 7 65 0 []), (3856, .sl 6 28 1 [0, 1])], [3856, 5715], 6806⟩)])) .o .o))) .o) .o)))) .o)))) .o) .o)))) .o)) .o)))))))))) pOk repOk (AllC.mem (⟨c12_ok, c19_ok, c28_ok, c30_ok, c34_ok, trivial⟩ : AllC _ _ [c12, c19, c28, c30, c34])) hmix Try.call25 Try.func25 rfl rfl (by kernel_rfl) (fun h => by kernel_rfl)

noncomputable def dynposref32_Messages_L1 (a0 : List
  Message) (a1 : List
  Message) : Int →
  Option
    (Int ⊕
      Unit ⊕
        Bool) := fun x1 =>
  if decide (x1 < len a0) = true then
    Option.bind (idx a0 x1) fun x2 =>
      Option.bind (idx a1 x1) fun x3 =>
        if (!(x2.From == x3.From && (x2.To == x3.To && (x2.Number == x3.Number && x2.Value == x3.Value)))) = true then
          some (.inr (.inr false))
        else some (.inl (W (x1 + 1)))
  else some (.inr (.inl ()))
noncomputable def dynposref32_Messages (a0 : (List Message)) (a1 : (List Message)) : Option (Bool) :=
  if (len a0 != len a1) = true then some false
  else
    Option.bind (loopO (dynposref32_Messages_L1 a0 a1) 0) fun x4 =>
      Sum.elim (fun x5 => some true) (fun x6 => some x6) x4
noncomputable def c26 : Con D := ⟨26, [.lf (.sl 7), .lf (.sl 7)], [.lf .bool], [.one (.h 0 [0]), .one (.h 1 [0])], [], [.one (.h 0 [])], [], fun h => dynposref32_Messages h.1 h.2⟩
theorem c26_ok : ConOk Try.prog T c26 := fn_ok (Φ := []) (rs := [.tmp 4]) (an := (.n none .o (.n none .o (.n none (.n none .o (.n none (.loop ⟨[.lf (.int .i64)], [(13, .one (.h 0 []))], [], [], 2640⟩ false [(.exit 0, ⟨[], [], [], [], 2640⟩)] .o) .o)) .o)))) pOk repOk (AllC.mem (l := []) trivial) hmix Try.call26 Try.func26 rfl rfl (by kernel_rfl) (fun h => by kernel_rfl)

noncomputable def dynposlaw32_NetworkExact_L3 (a4 : Int) (a5 : Int) (a6 : Int) (x12 : Net) (x20 : List
  Part) (x21 : Int ×
  List Int ×
    Int) (x22 : Int ×
  List Int ×
    Int) (x23 : Int ×
  List Int ×
    Int) : Int →
  Option
    (Int ⊕
      Unit ⊕
        Int × List Int × Int ⊕
          List Int × Int ⊕
            Int × List Int × Int ⊕
              List Int × Int ⊕
                Bool) := fun x24 =>
  if decide (x24 < 2) = true then
    Option.bind (idx [(a6, a4, a5), (x21.1, x22.1, x23.1)] x24) fun x25 =>
      Option.bind
        (Option.bind (network_Reach x12 x20 x25.1 x25.2.1 x25.2.2) fun x26 =>
          Option.bind (dynposref32_Reach x12 x20 x25.1 x25.2.1 x25.2.2) fun x27 =>
            if (!x26 == x27) = true then some true
            else
              Option.bind (network_Copies x12 x20 x25.2.1 x25.2.2) fun x28 =>
                Option.bind (dynposref32_Copies x12 x20 x25.2.1 x25.2.2) fun x29 => some (x28 != x29))
        fun x30 =>
        if x30 = true then some (.inr (.inr (.inr (.inr (.inr (.inr false))))))
        else some (.inl (W (x24 + 1)))
  else some (.inr (.inl ()))
noncomputable def dynposlaw32_NetworkExact_L4 (a6 : Int) (a8 : List
  Int) (x12 : Net) (x20 : List
  Part) (x33 : List Int ×
  Int ×
    List
      Int) : Int × List Int × Int →
  Option
    (Int × List Int × Int ⊕
      List Int × Int ⊕
        Int × List Int × Int ⊕
          List Int × Int ⊕
            Int × List Int × Int ⊕
              List Int × Int ⊕
                Bool) := fun x34 =>
  if decide (x34.1 < 2) = true then
    Option.bind (idx [a8, x33.2.2] x34.1) fun x35 =>
      Option.bind (Src_N (Src.mk x34.2.1 x34.2.2) 2) fun x36 =>
        Option.bind
          (Option.bind (network_Cut x12 x20 x36.1 x35) fun x37 =>
            Option.bind (dynposref32_Cut x12 x20 x36.1 x35) fun x38 =>
              if (!x37 == x38) = true then some true
              else
                Option.bind (network_Cut x12 x20 a6 x35) fun x39 =>
                  Option.bind (dynposref32_Cut x12 x20 a6 x35) fun x40 => some !x39 == x40)
          fun x41 =>
          if x41 = true then some (.inr (.inr (.inr (.inr (.inr (.inr false))))))
          else some (.inl (W (x34.1 + 1), x36.2.1, x36.2.2))
  else some (.inr (.inl (x34.2.1, x34.2.2)))
noncomputable def dynposlaw32_NetworkExact_L6 (x10 : List Int ×
  Int ×
    List Cable ×
      List
        Port) (x12 : Net) (x20 : List
  Part) (x46 : List
  Message) (x48 : List
  Port) : Int →
  Option
    (Int ⊕
      Unit ⊕
        Int ⊕
          Unit ⊕
            Int × List Int × Int ⊕
              List Int × Int ⊕
                Int × List Int × Int ⊕
                  List Int × Int ⊕
                    Bool) := fun x49 =>
  if decide (x49 < 2) = true then
    Option.bind (idx [x10.2.2.2, x48] x49) fun x50 =>
      Option.bind (network_Deliver x12 x20 x50 x46) fun x51 =>
        Option.bind (dynposref32_Deliver x12 x20 x50 x46) fun x52 =>
          Option.bind
            (if (x51.1 != x52.1) = true then some true
            else
              Option.bind (dynposref32_All x51.2.1 x52.2.1) fun x53 =>
                if (!x53) = true then some true
                else Option.bind (dynposref32_Messages x51.2.2 x52.2.2) fun x54 => some !x54)
            fun x55 =>
            if x55 = true then
              some (.inr (.inr (.inr (.inr (.inr (.inr (.inr (.inr false))))))))
            else some (.inl (W (x49 + 1)))
  else some (.inr (.inl ()))
noncomputable def dynposlaw32_NetworkExact_L5 (a3 : Port) (a9 : List
  Message) (x10 : List Int ×
  Int ×
    List Cable ×
      List
        Port) (x12 : Net) (x20 : List
  Part) (x44 : List Int ×
  Int ×
    List
      Message) : Int →
  Option
    (Int ⊕
      Unit ⊕
        Int × List Int × Int ⊕
          List Int × Int ⊕
            Int × List Int × Int ⊕
              List Int × Int ⊕
                Bool) := fun x45 =>
  if decide (x45 < 2) = true then
    Option.bind (idx [a9, x44.2.2] x45) fun x46 =>
      Option.bind (app [] x10.2.2.2) fun x47 =>
        Option.bind (app x47 [a3]) fun x48 =>
          Option.bind (loopO (dynposlaw32_NetworkExact_L6 x10 x12 x20 x46 x48) 0) fun x56 =>
            Sum.elim (fun x57 => some (.inl (W (x45 + 1)))) (fun x58 => some x58) x56
  else some (.inr (.inl ()))
noncomputable def dynposlaw32_NetworkExact_L2 (a2 : List
  Part) (a3 : Port) (a4 : Int) (a5 : Int) (a6 : Int) (a8 : List
  Int) (a9 : List
  Message) (x3 : Int ×
  List Int ×
    Int ×
      List
        Cable) (x4 : List Int ×
  Int ×
    List Cable ×
      List
        Part) (x10 : List Int ×
  Int ×
    List Cable ×
      List
        Port) (x12 : Net) : Int × List Int × Int →
  Option
    (Int × List Int × Int ⊕
      List Int × Int ⊕
        Int × List Int × Int ⊕
          List Int × Int ⊕
            Bool) := fun x19 =>
  if decide (x19.1 < 2) = true then
    Option.bind (idx [x4.2.2.2, a2] x19.1) fun x20 =>
      Option.bind (Src_N (Src.mk x19.2.1 x19.2.2) 2) fun x21 =>
        Option.bind (Src_N (Src.mk x21.2.1 x21.2.2) 5) fun x22 =>
          Option.bind (Src_N (Src.mk x22.2.1 x22.2.2) 5) fun x23 =>
            Option.bind (loopO (dynposlaw32_NetworkExact_L3 a4 a5 a6 x12 x20 x21 x22 x23) 0) fun x31 =>
              Sum.elim
                (fun x32 =>
                  Option.bind (Src_Some (Src.mk x23.2.1 x23.2.2) 5 2) fun x33 =>
                    Option.bind
                      (loopO (dynposlaw32_NetworkExact_L4 a6 a8 x12 x20 x33) (0, x33.1, x33.2.1))
                      fun x42 =>
                      Sum.elim
                        (fun x43 =>
                          Option.bind
                            (Src_Messages (Src.mk x43.1 x43.2) (Net.mk x3.1 x10.2.2.1) 6)
                            fun x44 =>
                            Option.bind (loopO (dynposlaw32_NetworkExact_L5 a3 a9 x10 x12 x20 x44) 0)
                              fun x59 =>
                              Sum.elim (fun x60 => some (.inl (W (x19.1 + 1), x44.1, x44.2.1)))
                                (fun x61 => some x61) x59)
                        (fun x62 => some x62) x42)
                (fun x63 => some x63) x31
  else some (.inr (.inl (x19.2.1, x19.2.2)))
noncomputable def dynposlaw32_NetworkExact_L1 (a1 : Net) (a2 : List
  Part) (a3 : Port) (a4 : Int) (a5 : Int) (a6 : Int) (a8 : List
  Int) (a9 : List
  Message) (x3 : Int ×
  List Int ×
    Int ×
      List
        Cable) (x4 : List Int ×
  Int ×
    List Cable ×
      List
        Part) (x9 : List
  Cable) (x10 : List Int ×
  Int ×
    List Cable ×
      List
        Port) : Int × List Int × Int →
  Option
    (Int × List Int × Int ⊕
      List Int × Int ⊕
        Bool) := fun x11 =>
  if decide (x11.1 < 3) = true then
    Option.bind (idx [Net.mk x3.1 x10.2.2.1, Net.mk x3.1 x9, a1] x11.1) fun x12 =>
      Option.bind
        (Option.bind (network_Check x12) fun x13 =>
          Option.bind (dynposref32_Check x12) fun x14 =>
            if (x13 != x14) = true then some true
            else
              Option.bind (network_Ports x12) fun x15 =>
                Option.bind (dynposref32_Ports x12) fun x16 =>
                  Option.bind (dynposref32_All x15 x16) fun x17 => some !x17)
        fun x18 =>
        if x18 = true then some (.inr (.inr false))
        else
          Option.bind
            (loopO (dynposlaw32_NetworkExact_L2 a2 a3 a4 a5 a6 a8 a9 x3 x4 x10 x12)
              (0, x11.2.1, x11.2.2))
            fun x64 =>
            Sum.elim (fun x65 => some (.inl (W (x11.1 + 1), x65.1, x65.2))) (fun x66 => some x66) x64
  else some (.inr (.inl (x11.2.1, x11.2.2)))
noncomputable def dynposlaw32_NetworkExact_L8 (a7 : Int) (x71 : Port) (x74 : Int ×
  List Int ×
    Int) (x75 : Int ×
  List Int ×
    Int) : Int →
  Option
    (Int ⊕
      Unit ⊕
        Int × List Int × Int ⊕
          List Int × Int ⊕
            Bool) := fun x76 =>
  if decide (x76 < 3) = true then
    Option.bind (idx [a7, x74.1, W (x71.High - x75.1)] x76) fun x77 =>
      Option.bind (network_Accept x71 x77) fun x78 =>
        Option.bind (dynposref32_Accept x71 x77) fun x79 =>
          Option.bind
            (if (!x78.2.1 == x79.2.2) = true then some true
            else
              Option.bind (dynposref32_Same (Port.mk x78.1 x78.2.2) (Port.mk x79.1 x79.2.1)) fun x80 =>
                some !x80)
            fun x81 =>
            if x81 = true then some (.inr (.inr (.inr (.inr false))))
            else some (.inl (W (x76 + 1)))
  else some (.inr (.inl ()))
noncomputable def dynposlaw32_NetworkExact_L7 (a7 : Int) (x69 : List
  Port) : Int × List Int × Int →
  Option
    (Int × List Int × Int ⊕
      List Int × Int ⊕
        Bool) := fun x70 =>
  if decide (x70.1 < len x69) = true then
    Option.bind (idx x69 x70.1) fun x71 =>
      Option.bind (network_Port x71) fun x72 =>
        Option.bind (dynposref32_Port x71) fun x73 =>
          if (!x72 == x73) = true then some (.inr (.inr false))
          else
            Option.bind (Src_N (Src.mk x70.2.1 x70.2.2) 80) fun x74 =>
              Option.bind (Src_N (Src.mk x74.2.1 x74.2.2) 40) fun x75 =>
                Option.bind (loopO (dynposlaw32_NetworkExact_L8 a7 x71 x74 x75) 0) fun x82 =>
                  Sum.elim (fun x83 => some (.inl (W (x70.1 + 1), x75.2.1, x75.2.2)))
                    (fun x84 => some x84) x82
  else some (.inr (.inl (x70.2.1, x70.2.2)))
noncomputable def dynposlaw32_NetworkExact (a0 : (List Int)) (a1 : Net) (a2 : (List Part)) (a3 : Port) (a4 : Int) (a5 : Int) (a6 : Int) (a7 : Int) (a8 : (List Int)) (a9 : (List Message)) : Option (Bool) :=
  Option.bind
    (if decide (len a0 > 600) = true then some true
    else
      if decide (len a1.Cables > 30) = true then some true
      else
        if decide (len a2 > 20) = true then some true
        else
          if decide (len a3.Below > 40) = true then some true
          else if decide (len a8 > 10) = true then some true else some (decide (len a9 > 70)))
    fun x1 =>
    if x1 = true then Option.bind dynposlaw32_sane fun x90 => some x90
    else
      Option.bind (dynposmake_New a0) fun x2 =>
        Option.bind (Src_Net (Src.mk x2.1 x2.2)) fun x3 =>
          Option.bind (Src_Cables (Src.mk x3.2.1 x3.2.2.1) (Net.mk x3.1 x3.2.2.2)) fun x4 =>
            Option.bind (app [] x4.2.2.1) fun x5 =>
              Option.bind (Src_N (Src.mk x4.1 x4.2.1) 3) fun x6 =>
                Option.bind (Src_Range (Src.mk x6.2.1 x6.2.2) (-1) 4) fun x7 =>
                  Option.bind (Src_Range (Src.mk x7.2.1 x7.2.2) 0 6) fun x8 =>
                    Option.bind (app x5 [Cable.mk x6.1 x7.1 x8.1]) fun x9 =>
                      Option.bind (Src_Ports_v1 (Src.mk x8.2.1 x8.2.2) (Net.mk x3.1 x4.2.2.1))
                        fun x10 =>
                        Option.bind
                          (loopO (dynposlaw32_NetworkExact_L1 a1 a2 a3 a4 a5 a6 a8 a9 x3 x4 x9 x10)
                            (0, x10.1, x10.2.1))
                          fun x67 =>
                          Sum.elim
                            (fun x68 =>
                              Option.bind
                                (app
                                  [a3, Port.mk 40 [9, 39],
                                    Port.mk 3 [1]]
                                  x10.2.2.2)
                                fun x69 =>
                                Option.bind (loopO (dynposlaw32_NetworkExact_L7 a7 x69) (0, x68.1, x68.2))
                                  fun x85 =>
                                  Sum.elim (fun x86 => Option.bind dynposlaw32_sane fun x87 => some x87)
                                    (fun x88 => some x88) x85)
                            (fun x89 => some x89) x67
noncomputable def c3 : Con D := ⟨3, [.lf (.sl 0), .lf (.int .i64), .lf (.sl 4), .lf (.sl 5), .lf (.int .i64), .lf (.sl 0), .lf (.int .i64), .lf (.int .i64), .lf (.int .i64), .lf (.int .i64), .lf (.sl 0), .lf (.sl 7)], [.lf .bool], [.one (.h 0 [0]), .agg [.h 1 [], .h 2 [0]], .one (.h 3 [0]), .agg [.h 4 [], .h 5 [0]], .one (.h 6 []), .one (.h 7 []), .one (.h 8 []), .one (.h 9 []), .one (.h 10 [0]), .one (.h 11 [0])], [], [.one (.h 0 [])], [], fun h => dynposlaw32_NetworkExact h.1 ⟨h.2.1, h.2.2.1⟩ h.2.2.2.1 ⟨h.2.2.2.2.1, h.2.2.2.2.2.1⟩ h.2.2.2.2.2.2.1 h.2.2.2.2.2.2.2.1 h.2.2.2.2.2.2.2.2.1 h.2.2.2.2.2.2.2.2.2.1 h.2.2.2.2.2.2.2.2.2.2.1 h.2.2.2.2.2.2.2.2.2.2.2⟩
theorem c3_ok : ConOk Try.prog T c3 := fn_ok (Φ := [c4, c5, c6, c7_1, c8, c9, c10_1, c11, c12, c13, c14, c15, c16, c17, c18, c19, c20, c21, c22, c23, c24, c25, c26, c27, c28, c29, c30, c31]) (rs := [.tmp 20]) (an := (.n none .o (.n none (.n none (.r (some (true, [(.normal, ⟨[.lf .bool], [(82, .one (.h 0 []))], [], [], 2256⟩)])) .nil) .o) (.n none .o (.n none .o (.n none .o (.n none .o (.n none .o (.n none .o (.n none (.n none (.f [2521] .o) (.n none (.f [4185, 2841] (.loop ⟨[.lf (.int .i64), .lf (.sl 0), .lf (.int .i64)], [(112, .one (.h 0 []))], [(2329, .box [.h 1 [0, 1], .h 2 []])], [2329], 4689⟩ false [(.exit 0, ⟨[.lf (.sl 0), .lf (.int .i64)], [], [(2329, .box [.h 0 [0, 1], .h 1 []])], [2329], 4689⟩)] (.n none .o (.n none .o (.n none (.n none (.n none .o (.n none (.n none (.r (some (true, [(.normal, ⟨[.lf .bool], [(121, .one (.any)), (122, .one (.any)), (123, .one (.any)), (124, .one (.any)), (125, .one (.any)), (126, .one (.any)), (127, .one (.h 0 []))], [], [], 5012⟩)])) .nil) .o) (.n none .o (.n none (.loop ⟨[.lf (.int .i64), .lf (.sl 0), .lf (.int .i64)], [(131, .one (.h 0 []))], [(2329, .box [.h 1 [0, 1], .h 2 []])], [2329], 5333⟩ false [(.exit 2, ⟨[.lf (.sl 0), .lf (.int .i64)], [], [(2329, .box [.h 0 [0, 1], .h 1 []])], [2329], 5333⟩)] (.n none .o (.n none .o (.n none (.n none (.n none .o (.n none (.n none .o (.n none (.loop ⟨[.lf (.int .i64)], [(146, .one (.h 0 []))], [], [], 6424⟩ false [(.exit 4, ⟨[], [], [], [], 6424⟩)] (.n none .o (.n none .o (.n none (.n none (.n none .o (.n none (.r (some (true, [(.normal, ⟨[.lf .bool], [(169, .one (.any)), (170, .one (.any)), (171, .one (.any)), (172, .one (.any)), (173, .one (.any)), (174, .one (.any)), (175, .one (.any)), (176, .one (.any)), (177, .one (.any)), (178, .one (.any)), (179, .one (.any)), (180, .one (.any)), (181, .one (.any)), (182, .one (.any)), (183, .one (.any)), (184, .one (.h 0 []))], [], [], 6745⟩)])) .nil) .o)) .o) .o)))) .o)) (.n none (.n none .o (.n none (.loop ⟨[.lf (.int .i64), .lf (.sl 0), .lf (.int .i64)], [(190, .one (.h 0 []))], [(2329, .box [.h 1 [0, 1], .h 2 []])], [2329], 6808⟩ false [(.exit 6, ⟨[.lf (.sl 0), .lf (.int .i64)], [], [(2329, .box [.h 0 [0, 1], .h 1 []])], [2329], 6808⟩)] (.n none .o (.n none .o (.n none (.n none (.n none .o (.n none .o (.n none (.r (some (true, [(.normal, ⟨[.lf .bool], [(207, .one (.any)), (208, .one (.any)), (209, .one (.any)), (210, .one (.any)), (211, .one (.any)), (212, .one (.any)), (213, .one (.any)), (214, .one (.any)), (215, .one (.any)), (216, .one (.any)), (217, .one (.any)), (218, .one (.h 0 []))], [], [], 7259⟩)])) .nil) .o))) .o) .o)))) .o)) (.n none .o (.n none (.loop ⟨[.lf (.int .i64)], [(225, .one (.h 0 []))], [], [], 7258⟩ false [(.exit 8, ⟨[], [], [], [], 7258⟩)] (.n none .o (.n none .o (.n none (.n none (.n none .o (.n none .o (.n none (.loop ⟨[.lf (.int .i64)], [(235, .one (.h 0 []))], [], [], 8027⟩ false [(.exit 10, ⟨[], [], [], [], 8027⟩)] (.n none .o (.n none .o (.n none (.n none (.n none .o (.n none .o (.n none .o (.n none (.r (some (true, [(.normal, ⟨[.lf .bool], [(260, .one (.any)), (261, .one (.any)), (262, .one (.any)), (263, .one (.any)), (266, .one (.any)), (267, .one (.any)), (268, .one (.any)), (269, .one (.any)), (270, .one (.h 0 []))], [], [], 9820⟩)])) .nil) .o)))) .o) .o)))) .o))) .o) .o)))) .o))))) .o) .o)))) .o)))) .o) .o))))) .o)) (.n none (.n none .o (.n none (.loop ⟨[.lf (.int .i64), .lf (.sl 0), .lf (.int .i64)], [(284, .one (.h 0 []))], [(2329, .box [.h 1 [0, 1], .h 2 []])], [2329], 5395⟩ false [(.exit 12, ⟨[.lf (.sl 0), .lf (.int .i64)], [], [(2329, .box [.h 0 [0, 1], .h 1 []])], [2329], 5395⟩)] (.n none .o (.n none .o (.n none (.n none (.n none .o (.n none .o (.n none .o (.n none (.loop ⟨[.lf (.int .i64)], [(302, .one (.h 0 []))], [], [], 6742⟩ false [(.exit 14, ⟨[], [], [], [], 6742⟩)] (.n none .o (.n none .o (.n none (.n none (.n none .o (.n none .o (.n none .o (.n none (.r (some (true, [(.normal, ⟨[.lf .bool], [(321, .one (.any)), (322, .one (.any)), (323, .one (.any)), (324, .one (.any)), (325, .one (.h 0 []))], [], [], 8151⟩)])) .nil) .o)))) .o) .o)))) .o)))) .o) .o)))) .o)) .o))))))))))) pOk repOk (AllC.mem (⟨c4_ok, c5_ok, c6_ok, c7_1_ok, c8_ok, c9_ok, c10_1_ok, c11_ok, c12_ok, c13_ok, c14_ok, c15_ok, c16_ok, c17_ok, c18_ok, c19_ok, c20_ok, c21_ok, c22_ok, c23_ok, c24_ok, c25_ok, c26_ok, c27_ok, c28_ok, c29_ok, c30_ok, c31_ok, trivial⟩ : AllC _ _ [c4, c5, c6, c7_1, c8, c9, c10_1, c11, c12, c13, c14, c15, c16, c17, c18, c19, c20, c21, c22, c23, c24, c25, c26, c27, c28, c29, c30, c31])) hmix Try.call3 Try.func3 rfl rfl (by kernel_rfl) (fun h => by kernel_rfl)

end Rx
end Go.Proofs.Ytmgflnbgkpcbdaa
