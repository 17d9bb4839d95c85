import Derived.Test.YtfnphdhcgkondaaGreatRt
set_option linter.unusedVariables false
set_option maxRecDepth 100000
namespace Go.Proofs.YtfnphdhcgkondaaGreat
open Go Go.RowKit Dp
namespace Rx
abbrev z0 : List Ht := [.lf (.int .i64), .lf (.sl 4), .lf (.sl 5), .lf (.sl 6), .lf (.int .i64), .lf (.int .i64), .lf (.sl 1), .lf (.sl 8), .lf (.sl 0), .lf (.sl 9), .lf (.int .i64)]
abbrev z1 : List Ht := [.lf (.int .i64), .lf (.sl 4), .lf (.sl 5), .lf (.sl 6), .lf (.int .i64), .lf (.int .i64), .lf (.sl 1), .lf (.sl 8), .lf (.sl 0), .lf (.sl 9)]
abbrev z2 : List PC := [.agg [.h 0 [], .h 1 [0], .h 2 [0], .h 3 [0], .h 4 [], .h 5 []], .agg [.h 6 [0], .h 7 [0], .h 8 [0], .h 9 [0]], .one (.h 10 [])]
abbrev z3 : List (Nat × PO) := [(1000, .box [.fn 118 [.ptr 1001 0, .ptr 1002 0]]), (1001, .box [.h 1 [], .h 2 [0], .h 3 [0], .h 4 [0], .h 5 [], .h 6 []]), (1002, .box [.h 7 [0], .h 8 [0], .h 9 [0], .h 10 [0]])]
abbrev z4 : List Ht := [.lf (.int .i64), .lf (.sl 4), .lf (.sl 5), .lf (.sl 6), .lf (.int .i64), .lf (.int .i64), .lf (.sl 1), .lf (.sl 8), .lf (.sl 0), .lf (.sl 9), .lf (.sl 10)]
abbrev z5 : List PC := [.agg [.h 0 [], .h 1 [0], .h 2 [0], .h 3 [0], .h 4 [], .h 5 []], .agg [.h 6 [0], .h 7 [0], .h 8 [0], .h 9 [0]]]
abbrev z6 : An := (.n none .o (.n none (.n none .o (.n none (.loop ⟨[.lf (.int .i64), .lf (.sl 0)], [(4, .one (.own 2512)), (15, .one (.h 0 []))], [(2512, .sl 0 3 1 [])], [], 2576⟩ true [(.exit 0, ⟨[.lf (.sl 0)], [(4, .one (.own 2512))], [(2512, .sl 0 3 0 [])], [], 2576⟩)] (.n none .o (.n none .o (.n none (.n none (.n none .o (.n none (.r (some (true, [(.normal, ⟨[.lf .bool], [(29, .one (.any)), (30, .one (.any)), (31, .one (.any)), (32, .one (.h 0 []))], [], [], 3090⟩)])) .nil) (.n (some (true, [(.normal, ⟨[.lf (.sl 0)], [(4, .one (.own 3091))], [(3091, .sl 0 3 0 [])], [2512], 3155⟩)])) .o .o))) .o) .o)))) .o)) (.n none .o (.n none (.loop ⟨[.lf (.int .i64), .lf (.int .i64), .lf (.sl 4), .lf (.sl 5), .lf (.sl 6), .lf (.int .i64), .lf (.int .i64), .lf (.sl 1), .lf (.sl 8), .lf (.sl 0), .lf (.sl 9), .lf (.sl 10)], [(40, .one (.h 0 []))], [(1000, .box [.h 1 [], .h 2 [0], .h 3 [0], .h 4 [0], .h 5 [], .h 6 [], .own 1001, .own 1002, .own 1003, .own 1004, .own 2769]), (1001, .sl 1 4 7 []), (1002, .sl 8 48 8 []), (1003, .sl 0 3 9 []), (1004, .sl 9 84 10 []), (2769, .sl 10 74 11 [])], [1000, 1001, 1002, 1003, 1004, 1005], 2833⟩ true [(.exit 2, ⟨z4, [], [(1000, .box [.h 0 [], .h 1 [0], .h 2 [0], .h 3 [0], .h 4 [], .h 5 [], .own 1001, .own 1002, .own 1003, .own 1004, .own 2769]), (1001, .sl 1 4 6 []), (1002, .sl 8 48 7 []), (1003, .sl 0 3 8 []), (1004, .sl 9 84 9 []), (2769, .sl 10 74 10 [])], [1000, 1001, 1002, 1003, 1004, 1005], 2833⟩)] .o) .o))))
abbrev z7 : List Ht := [.lf .bool, .lf (.int .i64), .lf (.sl 4), .lf (.sl 5), .lf (.sl 6), .lf (.int .i64), .lf (.int .i64), .lf (.sl 1), .lf (.sl 8), .lf (.sl 0), .lf (.sl 9)]
abbrev z8 : List Ht := [.lf (.int .i64), .lf (.int .i64), .lf (.sl 4), .lf (.sl 5), .lf (.sl 6), .lf (.int .i64), .lf (.int .i64), .lf (.sl 1), .lf (.sl 8), .lf (.sl 0), .lf (.sl 9)]
abbrev z9 : List Ht := [.lf (.int .i64)]
abbrev z10 : List PC := [.one (.h 0 [])]
abbrev z11 : List (Nat × PO) := [(1000, .box [.h 0 [], .h 1 [0], .h 2 [0], .h 3 [0], .h 4 [], .h 5 [], .own 1001, .own 1002, .own 1003, .own 1004, .own 1005]), (1001, .sl 1 4 6 []), (1002, .sl 8 48 7 []), (1003, .sl 0 3 8 []), (1004, .sl 9 84 9 []), (1005, .sl 10 74 10 [])]
abbrev z12 : An := (.n none .o (.n none (.n none .o (.n none (.loop ⟨z9, [(8, .one (.h 0 []))], [], [], 2320⟩ false [(.exit 0, ⟨[], [], [], [], 2320⟩)] .o) .o)) .o))
abbrev z13 : List (Nat × PO) := [(1000, .sl 1 4 1 []), (1001, .sl 8 48 2 []), (1002, .sl 0 3 3 []), (1003, .sl 9 84 4 []), (1004, .sl 10 74 5 [])]
abbrev z14 : An := (.n none .o (.n none .o (.n none (.n none .o (.n none (.loop ⟨z9, [(13, .one (.h 0 []))], [], [], 2640⟩ false [(.exit 0, ⟨[], [], [], [], 2640⟩)] .o) .o)) .o)))
abbrev z15 : List PC := [.agg [.own 1000, .own 1001, .own 1002, .own 1003], .one (.own 1004), .one (.h 0 [])]
abbrev z16 : List Ht := [.lf (.int .i64), .lf (.sl 1), .lf (.sl 8), .lf (.sl 0), .lf (.sl 9), .lf (.sl 10)]
abbrev z17 : List Ht := [.lf (.int .i64), .lf (.sl 4), .lf (.sl 5), .lf (.sl 6), .lf (.int .i64), .lf (.int .i64)]
abbrev z18 : An := (.n none .o (.n none .o (.n none .o (.n none (.n none .o (.n none (.loop ⟨[.lf (.int .i64), .lf (.int .i64), .lf (.sl 0)], [(5, .one (.h 0 [])), (6, .one (.h 1 []))], [(1000, .sl 0 3 2 [])], [1000], 2704⟩ true [(.exit 0, ⟨[.lf (.int .i64), .lf (.sl 0)], [(5, .one (.h 0 []))], [(1000, .sl 0 3 1 [])], [1000], 2704⟩)] (.n none .o (.n none (.n none (.n none .o (.n none .o (.n (some (true, [(.normal, ⟨[.lf (.int .i64), .lf (.sl 0)], [(5, .one (.h 0 []))], [(1000, .sl 0 3 1 [])], [1000], 3603⟩)])) .o .o))) .o) .o))) .o)) .o))))
abbrev z19 : List (Nat × PO) := [(1000, .box [.h 0 [], .h 1 [0], .h 2 [0], .h 3 [0], .h 4 [], .h 5 [], .own 1001, .own 1002, .own 1003, .own 1004, .own 1006]), (1001, .sl 1 4 6 []), (1002, .sl 8 48 7 []), (1003, .sl 0 3 8 []), (1004, .sl 9 84 9 []), (1006, .sl 10 74 10 [])]
abbrev z20 : List Ht := [.lf (.sl 0), .lf (.int .i64), .lf (.sl 4), .lf (.sl 5), .lf (.sl 6), .lf (.int .i64), .lf (.int .i64), .lf (.sl 1), .lf (.sl 8), .lf (.sl 0), .lf (.sl 9)]
abbrev z21 : List PC := [.agg [.h 0 [], .h 1 [0], .h 2 [0], .h 3 [0], .h 4 [], .h 5 []]]
abbrev z22 : An := (.n none .o (.n none (.n none .o (.n none (.loop ⟨z8, [(8, .one (.h 0 []))], z3, [1000, 1001, 1002], 2320⟩ false [(.exit 0, ⟨z1, [], [(1000, .box [.fn 118 [.ptr 1001 0, .ptr 1002 0]]), (1001, .box [.h 0 [], .h 1 [0], .h 2 [0], .h 3 [0], .h 4 [], .h 5 []]), (1002, .box [.h 6 [0], .h 7 [0], .h 8 [0], .h 9 [0]])], [1000, 1001, 1002], 2320⟩)] .o) .o)) .o))
abbrev z23 : List (Nat × PO) := [(2000, .box [.h 1 [], .h 2 [0], .h 3 [0], .h 4 [0], .h 5 [], .h 6 []]), (2128, .box [.h 7 [0], .h 8 [0], .h 9 [0], .h 10 [0]]), (2320, .box [.fn 118 [.ptr 2000 0, .ptr 2128 0]])]
abbrev z24 : List Ht := [.lf (.int .i64), .lf (.sl 0)]
abbrev z25 : List Ht := [.lf (.int .i64), .lf (.int .i64), .lf (.sl 4), .lf (.sl 5), .lf (.sl 6), .lf (.int .i64), .lf (.int .i64), .lf (.sl 1), .lf (.sl 8), .lf (.sl 0), .lf (.sl 9), .lf (.sl 10)]
abbrev z26 : List (Nat × PO) := [(1000, .box [.h 0 [], .h 1 [0], .h 2 [0], .h 3 [0], .h 4 [], .h 5 [], .own 1006, .own 1007, .own 1008, .own 1009, .own 1010]), (1001, .sl 1 4 6 []), (1002, .sl 8 48 7 []), (1003, .sl 0 3 8 []), (1004, .sl 9 84 9 []), (1006, .sl 1 4 10 []), (1007, .sl 8 48 11 []), (1008, .sl 0 3 12 []), (1009, .sl 9 84 13 []), (1010, .sl 10 74 14 [])]
abbrev z27 : List Ht := [.lf (.int .i64), .lf (.sl 4), .lf (.sl 5), .lf (.sl 6), .lf (.int .i64), .lf (.int .i64), .lf (.sl 1), .lf (.sl 8), .lf (.sl 0), .lf (.sl 9), .lf (.sl 0), .lf (.sl 10)]
abbrev z28 : List Ht := [.lf (.sl 0)]
abbrev z29 : List (Nat × PO) := [(1000, .sl 0 3 0 [])]
abbrev z30 : List (Nat × PO) := [(1000, .box [.h 0 [], .h 1 [0], .h 2 [0], .h 3 [0], .h 4 [], .h 5 [], .own 1001, .own 1002, .own 1003, .own 1004, .own 1007]), (1001, .sl 1 4 6 []), (1002, .sl 8 48 7 []), (1003, .sl 0 3 8 []), (1004, .sl 9 84 9 []), (1006, .sl 0 3 10 []), (1007, .sl 10 74 11 [])]
abbrev z31 : List (Nat × PO) := [(1000, .box [.h 0 [], .h 1 [0], .h 2 [0], .h 3 [0], .h 4 [], .h 5 [], .own 1001, .own 1002, .own 1003, .own 1004, .own 1005]), (1001, .sl 1 4 6 []), (1002, .sl 8 48 7 []), (1003, .sl 0 3 8 []), (1004, .sl 9 84 9 []), (1005, .sl 10 74 10 []), (1006, .sl 0 3 11 [])]
abbrev z32 : An := (.n none .o (.n none .o (.n none .o (.n none (.n none .o (.n none (.loop ⟨[.lf (.int .i64), .lf (.int .i64)], [(9, .one (.h 0 [])), (22, .one (.h 1 []))], [], [], 3216⟩ true [(.exit 0, ⟨z9, [(9, .one (.h 0 []))], [], [], 3216⟩)] .o) .o)) .o))))
abbrev z33 : List Ht := [.lf (.int .i64), .lf (.sl 4), .lf (.sl 5), .lf (.sl 6), .lf (.int .i64), .lf (.int .i64), .lf (.int .i64), .lf (.int .i64)]
abbrev z34 : List Ht := [.lf (.sl 0), .lf (.int .i64), .lf (.sl 1), .lf (.sl 8), .lf (.sl 0), .lf (.sl 9)]
abbrev z35 : List Ht := [.lf (.sl 0), .lf (.int .i64)]
abbrev z36 : List Ht := [.lf (.int .i64), .lf (.sl 4), .lf (.sl 5), .lf (.sl 6), .lf (.int .i64), .lf (.int .i64), .lf (.sl 1), .lf (.sl 8), .lf (.sl 0), .lf (.sl 9), .lf (.sl 1), .lf (.sl 8), .lf (.sl 0), .lf (.sl 9), .lf (.sl 10)]
abbrev z37 : List PC := [.one (.h 0 []), .one (.h 1 [])]
abbrev z38 : List Ht := [.lf (.sl 1), .lf (.sl 8), .lf (.sl 0), .lf (.sl 9)]
abbrev z39 : List Ht := [.lf (.int .i64), .lf (.sl 4), .lf (.sl 5), .lf (.sl 6), .lf (.int .i64), .lf (.int .i64), .lf (.sl 1), .lf (.sl 8), .lf (.sl 0), .lf (.sl 9), .lf (.sl 1), .lf (.sl 8), .lf (.sl 0), .lf (.sl 9)]
abbrev z40 : List Ht := [.lf (.int .i64), .lf (.sl 4), .lf (.sl 5), .lf (.sl 6), .lf (.int .i64), .lf (.int .i64), .lf (.sl 1), .lf (.sl 8), .lf (.sl 0), .lf (.sl 9), .lf (.sl 10), .lf (.sl 0), .lf (.int .i64)]
abbrev z41 : List Ht := [.lf (.int .i64), .lf (.int .i64)]
abbrev z42 : List (Nat × PO) := [(1000, .box [.h 0 [0], .h 1 []])]
abbrev z43 : List Ht := [.lf (.int .i64), .lf (.sl 0), .lf (.int .i64)]
abbrev z44 : List (Nat × PO) := [(1000, .sl 1 4 0 []), (1001, .sl 8 48 1 []), (1002, .sl 0 3 2 []), (1003, .sl 9 84 3 [])]
abbrev z45 : List Ht := [.lf (.int .i64), .lf (.sl 4), .lf (.sl 5), .lf (.sl 6), .lf (.int .i64), .lf (.int .i64), .lf (.sl 1), .lf (.sl 8), .lf (.sl 0), .lf (.sl 9), .lf (.sl 10), .lf (.int .i64)]
abbrev z46 : List Ht := [.lf (.int .i64), .lf (.sl 4), .lf (.sl 5), .lf (.sl 6), .lf (.int .i64), .lf (.int .i64), .lf (.sl 1), .lf (.sl 8), .lf (.sl 0), .lf (.sl 9), .lf (.int .i64), .lf (.sl 10)]
abbrev z47 : List Ht := [.lf .bool, .lf (.int .i64), .lf (.sl 4), .lf (.sl 5), .lf (.sl 6), .lf (.int .i64), .lf (.int .i64), .lf (.sl 1), .lf (.sl 8), .lf (.sl 0), .lf (.sl 9), .lf (.sl 10)]
abbrev z48 : List PC := [.agg [.h 0 [], .h 1 [0], .h 2 [0], .h 3 [0], .h 4 [], .h 5 []], .agg [.h 6 [0], .h 7 [0], .h 8 [0], .h 9 [0]], .agg [.h 10 [0], .h 11 [0], .h 12 [0], .h 13 [0]]]
abbrev z49 : List PC := [.one (.own 1000)]
abbrev z50 : List (Nat × PO) := [(1000, .box [.h 1 [0], .h 2 []])]
abbrev z51 : An := (.n none .o (.n none (.n none .o (.n none (.loop ⟨z9, [(8, .one (.h 0 []))], [], [], 2384⟩ false [(.exit 0, ⟨[], [], [], [], 2384⟩)] .o) .o)) .o))
abbrev z52 : List Ht := [.lf (.sl 10), .lf (.sl 1)]
abbrev z53 : List Ht := [.lf (.int .i64), .lf (.sl 13)]
abbrev z54 : List Ht := [.lf (.int .i64), .lf (.int .i64), .lf (.int .i64), .lf (.int .i64)]
abbrev z55 : List (Nat × PO) := [(1001, .box [.h 1 [], .h 2 [0], .h 3 [0], .h 4 [0], .h 5 [], .h 6 []]), (1002, .box [.h 7 [0], .h 8 [0], .h 9 [0], .h 10 [0]])]
abbrev z56 : List (Nat × PO) := [(1000, .box [.h 1 [], .h 2 [0], .h 3 [0], .h 4 [0], .h 5 [], .h 6 []]), (1001, .box [.h 7 [0], .h 8 [0], .h 9 [0], .h 10 [0]])]
abbrev z57 : List PC := [.one (.h 0 [0]), .one (.h 1 [0])]
abbrev z58 : List Ht := [.lf (.int .i64), .lf .bool]
abbrev z59 : List Ht := [.lf (.int .i64), .lf (.sl 10), .lf (.sl 1)]
abbrev z60 : List Ht := [.lf (.sl 0), .lf (.int .i64), .lf (.sl 0)]
abbrev z61 : An := (.n none .o (.n none (.r (some (true, [(.normal, ⟨[.lf .bool], [(6, .one (.h 0 []))], [], [], 2128⟩)])) .nil) .o))
abbrev z62 : An := (.n none .o (.n none (.r (some (true, [(.normal, ⟨[.lf .bool], [(3, .one (.h 0 []))], [], [], 2192⟩)])) .nil) .o))
abbrev z63 : An := (.n none .o (.n none (.r (some (true, [(.normal, ⟨[.lf .bool], [(2, .one (.h 0 []))], [], [], 2192⟩)])) .nil) .o))
abbrev z64 : List Ht := [.lf (.int .i64), .lf (.sl 4), .lf (.sl 5), .lf (.sl 6), .lf (.int .i64), .lf (.int .i64), .lf (.sl 0), .lf (.sl 10)]
abbrev z65 : List Ht := [.lf (.sl 13)]
abbrev z66 : List (Nat × PC) := [(4, .one (.h 0 []))]
abbrev z67 : List Ht := [.lf (.sl 1), .lf (.sl 8), .lf (.sl 0), .lf (.sl 9), .lf (.sl 1), .lf (.sl 8), .lf (.sl 0), .lf (.sl 9)]
abbrev z68 : List PC := [.one (.ptr 1000 0)]
abbrev z69 : List Ht := [.lf (.int .i64), .lf (.int .i64), .lf (.int .i64)]
abbrev z70 : List PC := [.agg [.own 1000, .own 1001, .own 1002, .own 1003]]
abbrev CK (c : Con D) := ConOk Tryz.prog T c
theorem fo (Φ : List (Con D)) (rs : List ResultVar) (an : An) (hΦ : AllC Tryz.prog T Φ) {c : Con D} {fn : Func} {code : Code} (hent : ∀ (args : Array Value) (w : World), (callFunc c.f args).run Tryz.prog w = .ok (.enter c.f args) w) (hf : Tryz.prog.funcs[c.f]? = some fn) (hb : fn.body = some code) (hrs : fn.results = rs.toArray) (hst : ((writes code).all (fun t => Nat.blt t fn.ntmps) && Nat.ble c.args.length fn.ntmps && ksOk c.res c.ob' && nodupB (c.ob'.map Prod.fst) && c.ob'.all (fun p => Nat.ble 1000 p.1) && Nat.ble c.ob'.length 40) = true) (hfn : ∀ h, sem T Φ c rs code an h = c.fn h) : CK c := fn_ok pOk repOk (AllC.mem hΦ) hmix hent hf hb hrs hst hfn
noncomputable def dynposmake_Small_L1 (a0 : Board) : Int →
 Option
 (Int ⊕
 Unit ⊕
 Bool) := fun x1 =>
 if decide (x1 < len a0.Consumers) = true then
 Option.bind (idx a0.Consumers x1) fun x2 =>
 if decide (len x2.Needs > 8) = true then some (.inr (.inr false))
 else some (.inl (W (x1 + 1)))
 else some (.inr (.inl ()))
noncomputable def dynposmake_Small (a0 : Board) (a1 : Power) : Option (Bool) :=
 Option.bind (loopO (dynposmake_Small_L1 a0) 0) fun x3 =>
 Sum.elim
 (fun x4 =>
 Option.bind
 (if decide (len a0.Breakers ≤ 14) = true then
 if decide (len a0.Sources ≤ 10) = true then
 if decide (len a0.Consumers ≤ 8) = true then
 if decide (len a1.Closed ≤ 14) = true then
 if decide (len a1.Sources ≤ 10) = true then
 if decide (len a1.Limits ≤ 10) = true then some (decide (len a1.Broken ≤ 10))
 else some false
 else some false
 else some false
 else some false
 else some false
 else some false)
 fun x5 => some x5)
 (fun x6 => some x6) x3
noncomputable def c27 : Con D := ⟨27, z1, [.lf .bool], z5, [], z10, [], fun h => dynposmake_Small ⟨h.1, h.2.1, h.2.2.1, h.2.2.2.1, h.2.2.2.2.1, h.2.2.2.2.2.1⟩ ⟨h.2.2.2.2.2.2.1, h.2.2.2.2.2.2.2.1, h.2.2.2.2.2.2.2.2.1, h.2.2.2.2.2.2.2.2.2⟩⟩
theorem c27_ok : CK c27 := fo [] [.tmp 4] (.n none .o (.n none (.n none .o (.n none (.loop ⟨z9, [(10, .one (.h 0 []))], [], [], 2512⟩ false [(.exit 0, ⟨[], [], [], [], 2512⟩)] .o) .o)) (.n none (.r (some (true, [(.normal, ⟨[.lf .bool], z66, [], [], 2576⟩)])) .nil) .o))) trivial Tryz.call27 Tryz.func27 rfl rfl (by kernel_rfl) fun h => by kernel_rfl
noncomputable def dynposlaw18_pair : Option (Int × Int × Int × (List Breaker) × (List Source) × (List Consumer) × (List Bool) × (List Running) × (List Int)) := some
 (1, 0, 0,
 [Breaker.mk 2 0 0, Breaker.mk 3 0 0,
 Breaker.mk 3 0 1],
 [Source.mk 100 0 0],
 [Consumer.mk 60 20 0 (-1) [],
 Consumer.mk 70 70 1 (-1) []],
 [true, true, true], [Running.mk 2 0 5000 0],
 [60, 70])
noncomputable def c47 : Con D := ⟨47, [], [.lf (.int .i64), .lf (.int .i64), .lf (.int .i64), .lf (.sl 4), .lf (.sl 5), .lf (.sl 6), .lf (.sl 1), .lf (.sl 8), .lf (.sl 0)], [], [], [.agg [.h 0 [], .own 1000, .own 1001, .own 1002, .h 1 [], .h 2 []], .agg [.own 1003, .own 1004, .own 1005, .nils]], [(1000, .sl 4 44 3 []), (1001, .sl 5 89 4 []), (1002, .sl 6 57 5 []), (1003, .sl 1 4 6 []), (1004, .sl 8 48 7 []), (1005, .sl 0 3 8 [])], fun h => dynposlaw18_pair⟩
theorem c47_ok : CK c47 := fo [] [.cell 0 29, .cell 1 34] .o trivial Tryz.call47 Tryz.func47 rfl rfl (by kernel_rfl) fun h => by kernel_rfl
noncomputable def board_in (a0 : Int) (a1 : Int) (a2 : Int) : Option (Bool) := Option.bind (if decide (a0 ≥ a1) = true then some (decide (a0 ≤ a2)) else some false) fun x1 => some x1
noncomputable def c94 : Con D := ⟨94, z69, [.lf .bool], [.one (.h 0 []), .one (.h 1 []), .one (.h 2 [])], [], z10, [], fun h => board_in h.1 h.2.1 h.2.2⟩
theorem c94_ok : CK c94 := fo [] [.tmp 6] z61 trivial Tryz.call94 Tryz.func94 rfl rfl (by kernel_rfl) fun h => by kernel_rfl
noncomputable def slices_Index_int_int_L1 (a0 : List
 Int) (a1 : Int) : Int →
 Option
 (Int ⊕
 Unit ⊕
 Int) := fun x1 =>
 if decide (x1 < len a0) = true then
 Option.bind (idx a0 x1) fun x2 =>
 if (a1 == x2) = true then some (.inr (.inr x1)) else some (.inl (W (x1 + 1)))
 else some (.inr (.inl ()))
noncomputable def slices_Index_int_int (a0 : (List Int)) (a1 : Int) : Option (Int) :=
 Option.bind (loopO (slices_Index_int_int_L1 a0 a1) 0) fun x3 =>
 Sum.elim (fun x4 => some (-1)) (fun x5 => some x5) x3
noncomputable def c117 : Con D := ⟨117, z35, z9, [.one (.h 0 [0]), .one (.h 1 [])], [], z10, [], fun h => slices_Index_int_int h.1 h.2⟩
theorem c117_ok : CK c117 := fo [] [.tmp 4] z12 trivial Tryz.call117 Tryz.func117 rfl rfl (by kernel_rfl) fun h => by kernel_rfl
noncomputable def slices_Contains_int_int (a0 : (List Int)) (a1 : Int) : Option (Bool) := Option.bind (slices_Index_int_int a0 a1) fun x1 => some (decide (x1 ≥ 0))
noncomputable def c77 : Con D := ⟨77, z35, [.lf .bool], [.one (.h 0 [0]), .one (.h 1 [])], [], z10, [], fun h => slices_Contains_int_int h.1 h.2⟩
theorem c77_ok : CK c77 := fo [c117] [.tmp 4] .o ⟨c117_ok, trivial⟩ Tryz.call77 Tryz.func77 rfl rfl (by kernel_rfl) fun h => by kernel_rfl
noncomputable def board_breakers_1 (a0 : (List Int)) : Option (Bool) := some (len a0 == 0)
noncomputable def c130 : Con D := ⟨130, z28, [.lf .bool], [.one (.h 0 [0])], [], z10, [], fun h => board_breakers_1 h⟩
theorem c130_ok : CK c130 := fo [] [.tmp 2] .o trivial Tryz.call130 Tryz.func130 rfl rfl (by kernel_rfl) fun h => by kernel_rfl
noncomputable def slices_IndexFunc_int_int_L1 (a0 : List
 (List
 Int)) : Int →
 Option
 (Int ⊕
 Unit ⊕
 Int) := fun x1 =>
 if decide (x1 < len a0) = true then
 Option.bind (idx a0 x1) fun x2 =>
 Option.bind (board_breakers_1 x2) fun x3 =>
 if x3 = true then some (.inr (.inr x1)) else some (.inl (W (x1 + 1)))
 else some (.inr (.inl ()))
noncomputable def slices_IndexFunc_int_int (a0 : (List (List Int))) : Option (Int) :=
 Option.bind (loopO (slices_IndexFunc_int_int_L1 a0) 0) fun x4 =>
 Sum.elim (fun x5 => some (-1)) (fun x6 => some x6) x4
noncomputable def c139 : Con D := ⟨139, [.lf (.sl 12)], z9, [.one (.h 0 [0]), .one (.fn 130 [])], [], z10, [], fun h => slices_IndexFunc_int_int h⟩
theorem c139_ok : CK c139 := fo [c130] [.tmp 4] z12 ⟨c130_ok, trivial⟩ Tryz.call139 Tryz.func139 rfl rfl (by kernel_rfl) fun h => by kernel_rfl
noncomputable def slices_ContainsFunc_int_int (a0 : (List (List Int))) : Option (Bool) := Option.bind (slices_IndexFunc_int_int a0) fun x1 => some (decide (x1 ≥ 0))
noncomputable def c129 : Con D := ⟨129, [.lf (.sl 12)], [.lf .bool], [.one (.h 0 [0]), .one (.fn 130 [])], [], z10, [], fun h => slices_ContainsFunc_int_int h⟩
theorem c129_ok : CK c129 := fo [c139] [.tmp 4] .o ⟨c139_ok, trivial⟩ Tryz.call129 Tryz.func129 rfl rfl (by kernel_rfl) fun h => by kernel_rfl
noncomputable def board_breakers_L1 (a0 : Board) : Int × List Int × List (List Int) →
 Option
 (Int × List Int × List (List Int) ⊕
 List Int × List (List Int) ⊕
 Bool) := fun x3 =>
 if decide (x3.1 < len a0.Breakers) = true then
 Option.bind (idx a0.Breakers x3.1) fun x4 =>
 Option.bind (board_in x4.A 0 (W (a0.Buses - 1))) fun x5 =>
 if (!x5) = true then some (.inr (.inr false))
 else
 Option.bind
 (if (x4.Kind == 1) = true then
 Option.bind (board_in x4.B (W (x4.A + 1)) (W (a0.Buses - 1))) fun x6 => some x6
 else some false)
 fun x7 =>
 Option.bind
 (if x7 = true then some (.inl (x3.2.1, x3.2.2))
 else
 Option.bind
 (if (x4.Kind == 2) = true then
 Option.bind (board_in x4.B 0 (W (len x3.2.1 - 1))) fun x8 =>
 if x8 = true then Option.bind (idx x3.2.1 x4.B) fun x9 => some (x9 == 0)
 else some false
 else some false)
 fun x10 =>
 Option.bind
 (if x10 = true then
 Option.bind (idx x3.2.1 x4.B) fun x23 =>
 Option.bind (idx x3.2.1 x4.B) fun x24 =>
 Option.bind (idx x3.2.1 x4.B) fun x25 =>
 Option.bind (setO x3.2.1 x4.B (W (x23 + 1))) fun x26 =>
 some (.inl (x26, x3.2.2))
 else
 Option.bind
 (if (x4.Kind == 3) = true then
 Option.bind (board_in x4.B 0 (W (len x3.2.2 - 1))) fun x11 =>
 if x11 = true then
 Option.bind (idx x3.2.2 x4.B) fun x12 =>
 Option.bind (idx x3.2.2 x4.B) fun x13 =>
 Option.bind (slices_Contains_int_int x13 x4.A) fun x14 => some (!x14, x3.2.2)
 else some (false, x3.2.2)
 else some (false, x3.2.2))
 fun x15 =>
 if x15.1 = true then
 Option.bind (idx x15.2 x4.B) fun x16 =>
 Option.bind (idx x15.2 x4.B) fun x17 =>
 Option.bind (idx x15.2 x4.B) fun x18 =>
 Option.bind (app x18 [x4.A]) fun x19 =>
 Option.bind (setO x15.2 x4.B x19) fun x20 =>
 Option.bind (idx x20 x4.B) fun x21 =>
 Option.bind (eqO x4.B x4.B) fun x22 => some (.inl (x3.2.1, x20))
 else some (.inr (.inr (.inr (.inr false)))))
 fun x27 => Sum.elim (fun x28 => some (.inl (x28.1, x28.2))) (fun x29 => some x29) x27)
 fun x30 =>
 Sum.elim (fun x31 => some (.inl (W (x3.1 + 1), x31.1, x31.2))) (fun x32 => some x32)
 x30
 else some (.inr (.inl (x3.2.1, x3.2.2)))
noncomputable def board_breakers (a0 : Board) : Option (Bool) :=
 Option.bind (mkZ 0 (len a0.Sources)) fun x1 =>
 Option.bind (mkZ [] (len a0.Consumers)) fun x2 =>
 Option.bind (loopO (board_breakers_L1 a0) (0, x1, x2)) fun x33 =>
 Sum.elim
 (fun x34 =>
 Option.bind
 (Option.bind (slices_Contains_int_int x34.1 0) fun x35 =>
 if (!x35) = true then Option.bind (slices_ContainsFunc_int_int x34.2) fun x36 => some !x36
 else some false)
 fun x37 => some x37)
 (fun x38 => some x38) x33
noncomputable def c95 : Con D := ⟨95, z17, [.lf .bool], z21, [], z10, [], fun h => board_breakers ⟨h.1, h.2.1, h.2.2.1, h.2.2.2.1, h.2.2.2.2.1, h.2.2.2.2.2⟩⟩
theorem c95_ok : CK c95 := fo [c77, c94, c129] [.tmp 2] (.n none .o (.n none .o (.n none (.n none .o (.n none (.loop ⟨[.lf (.int .i64), .lf (.sl 0), .lf (.sl 12)], [(18, .one (.h 0 []))], [(2320, .sl 0 3 1 []), (2576, .kid 12 22 3 0 2)], [2320, 2576], 3088⟩ false [(.exit 0, ⟨[.lf (.sl 0), .lf (.sl 12)], [], [(2320, .sl 0 3 0 []), (2576, .kid 12 22 3 0 1)], [2320, 2576], 3088⟩)] (.n none .o (.n none .o (.n none (.n none (.n none .o (.n none .o (.n none (.n none (.r (some (true, [(.normal, ⟨[.lf .bool], [(29, .one (.h 0 [])), (34, .one (.any)), (35, .one (.any)), (36, .one (.any)), (37, .one (.any)), (38, .one (.any)), (39, .one (.any)), (40, .one (.any)), (41, .one (.any)), (42, .one (.any))], [], [], 3923⟩)])) .nil) (.n (some (false, [(.normal, ⟨[.lf (.sl 0), .lf (.sl 12)], [], [(2320, .sl 0 3 0 []), (2576, .kid 12 22 3 0 1)], [2320, 2576], 3988⟩)])) .o (.n none (.r (some (true, [(.normal, ⟨[.lf .bool], [(44, .one (.h 0 [])), (49, .one (.any)), (50, .one (.any)), (51, .one (.any)), (52, .one (.any)), (53, .one (.any)), (54, .one (.any)), (57, .one (.any)), (58, .one (.any)), (59, .one (.any)), (60, .one (.any)), (61, .one (.any)), (62, .one (.any))], [], [], 3988⟩)])) .nil) (.n (some (false, [(.normal, ⟨[.lf (.sl 0), .lf (.sl 12)], [], [(2320, .sl 0 3 0 []), (2576, .kid 12 22 3 0 1)], [2320, 2576], 4053⟩)])) .o (.n none (.r (some (true, [(.normal, ⟨[.lf .bool, .lf (.sl 12)], [(71, .one (.h 0 [])), (76, .one (.any)), (77, .one (.any)), (78, .one (.any)), (79, .one (.any)), (80, .one (.any)), (81, .one (.any)), (84, .one (.any)), (85, .one (.any)), (86, .one (.any)), (87, .one (.any)), (88, .one (.any)), (89, .one (.any)), (90, .one (.any)), (91, .one (.any)), (92, .one (.any))], [(2576, .kid 12 22 3 0 1)], [2576], 4053⟩)])) .nil) .o))))) .o))) .o) .o)))) .o)) (.n none (.r (some (true, [(.normal, ⟨[.lf .bool], [(2, .one (.h 0 []))], [], [], 3154⟩)])) .nil) .o)))) ⟨c77_ok, c94_ok, c129_ok, trivial⟩ Tryz.call95 Tryz.func95 rfl rfl (by kernel_rfl) fun h => by kernel_rfl
noncomputable def board_source (a0 : Source) : Option (Bool) :=
 Option.bind
 (Option.bind (board_in a0.Rating 1 50000) fun x1 =>
 if x1 = true then
 Option.bind (board_in a0.Least 0 a0.Rating) fun x2 =>
 if x2 = true then Option.bind (board_in a0.Start 0 600) fun x3 => some x3
 else some false
 else some false)
 fun x4 => some x4
noncomputable def c96 : Con D := ⟨96, z69, [.lf .bool], [.agg [.h 0 [], .h 1 [], .h 2 []]], [], z10, [], fun h => board_source ⟨h.1, h.2.1, h.2.2⟩⟩
theorem c96_ok : CK c96 := fo [c94] [.tmp 2] z63 ⟨c94_ok, trivial⟩ Tryz.call96 Tryz.func96 rfl rfl (by kernel_rfl) fun h => by kernel_rfl
noncomputable def board_consumer_L1 (a0 : Consumer) (a1 : Int) : Int →
 Option
 (Int ⊕
 Unit ⊕
 Bool) := fun x1 =>
 if decide (x1 < len a0.Needs) = true then
 Option.bind (idx a0.Needs x1) fun x2 =>
 Option.bind
 (Option.bind (board_in x2 0 (W (a1 - 1))) fun x3 =>
 if (!x3) = true then some true
 else
 if decide (x1 > 0) = true then
 Option.bind (idx a0.Needs (W (x1 - 1))) fun x4 => some (decide (x4 ≥ x2))
 else some false)
 fun x5 => if x5 = true then some (.inr (.inr false)) else some (.inl (W (x1 + 1)))
 else some (.inr (.inl ()))
noncomputable def board_consumer (a0 : Consumer) (a1 : Int) : Option (Bool) :=
 Option.bind (loopO (board_consumer_L1 a0 a1) 0) fun x6 =>
 Sum.elim
 (fun x7 =>
 Option.bind
 (Option.bind (board_in a0.Load 0 50000) fun x8 =>
 if x8 = true then
 Option.bind (board_in a0.Least 0 a0.Load) fun x9 =>
 if x9 = true then
 Option.bind (board_in a0.Preference 0 15) fun x10 =>
 if x10 = true then
 Option.bind (board_in a0.Thruster (-1) 7) fun x11 =>
 if x11 = true then some (decide (len a0.Needs ≤ 4)) else some false
 else some false
 else some false
 else some false)
 fun x12 => some x12)
 (fun x13 => some x13) x6
noncomputable def c97 : Con D := ⟨97, [.lf (.int .i64), .lf (.int .i64), .lf (.int .i64), .lf (.int .i64), .lf (.sl 0), .lf (.int .i64)], [.lf .bool], [.agg [.h 0 [], .h 1 [], .h 2 [], .h 3 [], .h 4 [0]], .one (.h 5 [])], [], z10, [], fun h => board_consumer ⟨h.1, h.2.1, h.2.2.1, h.2.2.2.1, h.2.2.2.2.1⟩ h.2.2.2.2.2⟩
theorem c97_ok : CK c97 := fo [c94] [.tmp 4] (.n none .o (.n none (.n none .o (.n none (.loop ⟨z9, [(10, .one (.h 0 []))], [], [], 2448⟩ false [(.exit 0, ⟨[], [], [], [], 2448⟩)] (.n none .o (.n none .o (.n none (.n none (.n none .o (.n none (.r (some (true, [(.normal, ⟨[.lf .bool], [(21, .one (.any)), (22, .one (.any)), (23, .one (.any)), (24, .one (.any)), (25, .one (.any)), (26, .one (.any)), (27, .one (.any)), (28, .one (.any)), (29, .one (.any)), (30, .one (.any)), (31, .one (.any)), (32, .one (.any)), (33, .one (.h 0 []))], [], [], 2897⟩)])) .nil) .o)) .o) .o)))) .o)) (.n none (.r (some (true, [(.normal, ⟨[.lf .bool], z66, [], [], 2512⟩)])) .nil) .o))) ⟨c94_ok, trivial⟩ Tryz.call97 Tryz.func97 rfl rfl (by kernel_rfl) fun h => by kernel_rfl
noncomputable def board_Check_L1 (a0 : Board) : Bool × Int →
 Option
 (Bool × Int ⊕
 Bool) := fun x7 =>
 if decide (x7.2 < len a0.Sources) = true then
 Option.bind (idx a0.Sources x7.2) fun x8 =>
 Option.bind (if x7.1 = true then Option.bind (board_source x8) fun x9 => some x9 else some false) fun x10 =>
 some (.inl (x10, W (x7.2 + 1)))
 else some (.inr x7.1)
noncomputable def board_Check_L2 (a0 : Board) : Bool × Int →
 Option
 (Bool × Int ⊕
 Bool) := fun x12 =>
 if decide (x12.2 < len a0.Consumers) = true then
 Option.bind (idx a0.Consumers x12.2) fun x13 =>
 Option.bind (if x12.1 = true then Option.bind (board_consumer x13 x12.2) fun x14 => some x14 else some false)
 fun x15 => some (.inl (x15, W (x12.2 + 1)))
 else some (.inr x12.1)
noncomputable def board_Check (a0 : Board) : Option (Int) :=
 Option.bind
 (Option.bind (board_in a0.Buses 1 6) fun x1 =>
 if (!x1) = true then some true
 else
 if decide (len a0.Breakers > 24) = true then some true
 else
 if decide (len a0.Sources > 8) = true then some true
 else some (decide (len a0.Consumers > 16)))
 fun x2 =>
 if x2 = true then some 2
 else
 Option.bind
 (Option.bind (board_breakers a0) fun x3 =>
 if x3 = true then
 Option.bind (board_in a0.Phase 0 1800) fun x4 =>
 if x4 = true then Option.bind (board_in a0.Frequency 0 6000) fun x5 => some x5
 else some false
 else some false)
 fun x6 =>
 Option.bind (loopO (board_Check_L1 a0) (x6, 0)) fun x11 =>
 Option.bind (loopO (board_Check_L2 a0) (x11, 0)) fun x16 =>
 if (!x16) = true then some 14 else some 0
noncomputable def c56 : Con D := ⟨56, z17, z9, z21, [], z10, [], fun h => board_Check ⟨h.1, h.2.1, h.2.2.1, h.2.2.2.1, h.2.2.2.2.1, h.2.2.2.2.2⟩⟩
theorem c56_ok : CK c56 := fo [c94, c95, c96, c97] [.tmp 2] (.n none .o (.n none (.n none (.r (some (true, [(.normal, ⟨[.lf .bool], [(29, .one (.h 0 []))], [], [], 2192⟩)])) .nil) .o) (.n none (.r (some (true, [(.normal, ⟨[.lf .bool], [(3, .one (.h 0 []))], [], [], 2257⟩)])) .nil) (.n none (.n none .o (.n none (.loop ⟨[.lf .bool, .lf (.int .i64)], [(3, .one (.h 0 [])), (45, .one (.h 1 []))], [], [], 2578⟩ true [(.exit 0, ⟨[.lf .bool], [(3, .one (.h 0 []))], [], [], 2578⟩)] (.n none .o (.n none .o (.n none (.n none (.n none .o (.r (some (true, [(.normal, ⟨[.lf .bool], [(3, .one (.h 0 [])), (51, .one (.any)), (52, .one (.any))], [], [], 2964⟩)])) .nil)) .o) .o)))) .o)) (.n none (.n none .o (.n none (.loop ⟨[.lf .bool, .lf (.int .i64)], [(3, .one (.h 0 [])), (58, .one (.h 1 []))], [], [], 2899⟩ true [(.exit 2, ⟨[.lf .bool], [(3, .one (.h 0 []))], [], [], 2899⟩)] (.n none .o (.n none .o (.n none (.n none (.n none .o (.r (some (true, [(.normal, ⟨[.lf .bool], [(3, .one (.h 0 [])), (65, .one (.any)), (66, .one (.any)), (67, .one (.any))], [], [], 3413⟩)])) .nil)) .o) .o)))) .o)) .o))))) ⟨c94_ok, c95_ok, c96_ok, c97_ok, trivial⟩ Tryz.call56 Tryz.func56 rfl rfl (by kernel_rfl) fun h => by kernel_rfl
noncomputable def cmp_isNaN_int (a0 : Int) : Option (Bool) := some (a0 != a0)
noncomputable def c99 : Con D := ⟨99, z9, [.lf .bool], z10, [], z10, [], fun h => cmp_isNaN_int h⟩
theorem c99_ok : CK c99 := fo [] [.tmp 2] .o trivial Tryz.call99 Tryz.func99 rfl rfl (by kernel_rfl) fun h => by kernel_rfl
noncomputable def cmp_Compare_int (a0 : Int) (a1 : Int) : Option (Int) :=
 Option.bind (cmp_isNaN_int a0) fun x1 =>
 Option.bind (cmp_isNaN_int a1) fun x2 =>
 if x1 = true then if x2 = true then some 0 else some (-1)
 else
 if x2 = true then some 1
 else
 if decide (a0 < a1) = true then some (-1)
 else if decide (a0 > a1) = true then some 1 else some 0
noncomputable def c59 : Con D := ⟨59, z41, z9, z37, [], z10, [], fun h => cmp_Compare_int h.1 h.2⟩
theorem c59_ok : CK c59 := fo [c99] [.tmp 4] .o ⟨c99_ok, trivial⟩ Tryz.call59 Tryz.func59 rfl rfl (by kernel_rfl) fun h => by kernel_rfl
noncomputable def shed_Order_1 (a0 : Int) (a1 : Int) (a2 : Board) : Option (Int) :=
 Option.bind (idx a2.Consumers a0) fun x1 =>
 Option.bind (idx a2.Consumers a1) fun x2 =>
 Option.bind (cmp_Compare_int x1.Preference x2.Preference) fun x3 => some x3
noncomputable def c58 : Con D := ⟨58, [.lf (.int .i64), .lf (.int .i64), .el 3], z9, [.one (.h 0 []), .one (.h 1 []), .one (.rp 2 3 [0])], [], z10, [], fun h => shed_Order_1 h.1 h.2.1 h.2.2⟩
theorem c58_ok : CK c58 := fo [c59] [.tmp 5] .o ⟨c59_ok, trivial⟩ Tryz.call58 Tryz.func58 rfl rfl (by kernel_rfl) fun h => by kernel_rfl
noncomputable def slices_insertionSortCmpFunc_int_L2 (a1 : Int) (a3 : Board) : Int × List Int →
 Option
 (Int × List Int ⊕
 List
 Int) := fun x2 =>
 Option.bind
 (if decide (x2.1 > a1) = true then
 Option.bind (idx x2.2 x2.1) fun x3 =>
 Option.bind (idx x2.2 (W (x2.1 - 1))) fun x4 =>
 Option.bind (shed_Order_1 x3 x4 a3) fun x5 => some (decide (x5 < 0))
 else some false)
 fun x6 =>
 if x6 = true then
 Option.bind (idx x2.2 (W (x2.1 - 1))) fun x7 =>
 Option.bind (idx x2.2 x2.1) fun x8 =>
 Option.bind (idx x2.2 x2.1) fun x9 =>
 Option.bind (idx x2.2 x2.1) fun x10 =>
 Option.bind (setO x2.2 x2.1 x7) fun x11 =>
 Option.bind (idx x11 (W (x2.1 - 1))) fun x12 =>
 Option.bind (idx x11 (W (x2.1 - 1))) fun x13 =>
 Option.bind (setO x11 (W (x2.1 - 1)) x8) fun x14 =>
 some (.inl (W (x2.1 - 1), x14))
 else some (.inr x2.2)
noncomputable def slices_insertionSortCmpFunc_int_L1 (a1 : Int) (a2 : Int) (a3 : Board) : Int × List Int →
 Option
 (Int × List Int ⊕
 List
 Int) := fun x1 =>
 if decide (x1.1 < a2) = true then
 Option.bind (loopO (slices_insertionSortCmpFunc_int_L2 a1 a3) (x1.1, x1.2)) fun x15 =>
 some (.inl (W (x1.1 + 1), x15))
 else some (.inr x1.2)
noncomputable def slices_insertionSortCmpFunc_int (a0 : (List Int)) (a1 : Int) (a2 : Int) (a3 : Board) : Option ((List Int)) :=
 Option.bind (loopO (slices_insertionSortCmpFunc_int_L1 a1 a2 a3) (W (a1 + 1), a0)) fun x16 => some x16
noncomputable def c131 : Con D := ⟨131, [.lf (.sl 0), .lf (.int .i64), .lf (.int .i64), .el 3], z28, [.one (.own 1000), .one (.h 1 []), .one (.h 2 []), .one (.fn 58 [.rp 3 3 [0]])], z29, [], z29, fun h => slices_insertionSortCmpFunc_int h.1 h.2.1 h.2.2.1 h.2.2.2⟩
theorem c131_ok : CK c131 := fo [c58] [] (.n none .o (.n none (.loop ⟨z24, [(8, .one (.h 0 []))], [(1000, .sl 0 3 1 [])], [1000], 2256⟩ true [(.exit 0, ⟨z28, [], z29, [1000], 2256⟩)] (.n none .o (.n none (.n none (.n none .o (.n none (.loop ⟨z24, [(9, .one (.h 0 []))], [(1000, .sl 0 3 1 [])], [1000], 2642⟩ true [(.exit 2, ⟨z28, [(22, .one (.any)), (23, .one (.any)), (24, .one (.any)), (25, .one (.any)), (26, .one (.any)), (27, .one (.any)), (28, .one (.any)), (29, .one (.any)), (30, .one (.any)), (31, .one (.any)), (32, .one (.any)), (33, .one (.any))], z29, [1000], 2642⟩)] (.n none (.n none (.r (some (true, [(.normal, ⟨[.lf .bool], [(22, .one (.any)), (23, .one (.any)), (24, .one (.any)), (25, .one (.any)), (26, .one (.any)), (27, .one (.any)), (28, .one (.any)), (29, .one (.any)), (30, .one (.any)), (31, .one (.any)), (32, .one (.any)), (33, .one (.any)), (34, .one (.h 0 []))], [], [], 2708⟩)])) .nil) .o) .o)) .o)) .o) .o))) .o)) ⟨c58_ok, trivial⟩ Tryz.call131 Tryz.func131 rfl rfl (by kernel_rfl) fun h => by kernel_rfl
def c132 : Con D := ⟨132, [.lf (.sl 0), .lf (.int .i64), .lf (.int .i64), .lf (.int .i64), .el 3], [], [.one (.h 0 [0]), .one (.h 1 []), .one (.h 2 []), .one (.h 3 []), .one (.fn 58 [.rp 4 3 [0]])], [], [], [], fun h => none⟩
theorem c132_ok : CK c132 := none_ok Tryz.call132 rfl (fun h => rfl)
noncomputable def slices_stableCmpFunc_int_L1 (a1 : Int) (a2 : Board) : Int × Int × List Int →
 Option
 (Int × Int × List Int ⊕
 Int ×
 List
 Int) := fun x1 =>
 if decide (x1.2.1 ≤ a1) = true then
 Option.bind (slices_insertionSortCmpFunc_int x1.2.2 x1.1 x1.2.1 a2) fun x2 =>
 some (.inl (x1.2.1, W (x1.2.1 + 20), x2))
 else some (.inr (x1.1, x1.2.2))
noncomputable def slices_stableCmpFunc_int_L3 (a1 : Int) : Int × Int →
 Option (Int × Int ⊕ Int) := fun x6 => if decide (x6.2 ≤ a1) = true then none else some (.inr x6.1)
noncomputable def slices_stableCmpFunc_int_L2 (a1 : Int) : Int →
 Option
 (Int ⊕
 Unit) := fun x5 =>
 if decide (x5 < a1) = true then
 Option.bind (loopO (slices_stableCmpFunc_int_L3 a1) (0, W (2 * x5))) fun x8 =>
 Option.bind (if decide (W (x8 + x5) < a1) = true then none else some ()) fun x10 =>
 some (.inl (W (x5 * 2)))
 else some (.inr ())
noncomputable def slices_stableCmpFunc_int (a0 : (List Int)) (a1 : Int) (a2 : Board) : Option ((List Int)) :=
 Option.bind (loopO (slices_stableCmpFunc_int_L1 a1 a2) (0, 20, a0)) fun x3 =>
 Option.bind (slices_insertionSortCmpFunc_int x3.2 x3.1 a1 a2) fun x4 =>
 Option.bind (loopO (slices_stableCmpFunc_int_L2 a1) 20) fun x11 => some x4
noncomputable def c98 : Con D := ⟨98, [.lf (.sl 0), .lf (.int .i64), .el 3], z28, [.one (.own 1000), .one (.h 1 []), .one (.fn 58 [.rp 2 3 [0]])], z29, [], z29, fun h => slices_stableCmpFunc_int h.1 h.2.1 h.2.2⟩
theorem c98_ok : CK c98 := fo [c131, c132] [] (.n none .o (.n none .o (.n none (.n none (.loop ⟨[.lf (.int .i64), .lf (.int .i64), .lf (.sl 0)], [(7, .one (.h 0 [])), (8, .one (.h 1 []))], [(1000, .sl 0 3 2 [])], [1000], 2320⟩ true [(.exit 0, ⟨z24, [(7, .one (.h 0 []))], [(1000, .sl 0 3 1 [])], [1000], 2320⟩)] .o) .o) (.n none .o (.n none (.loop ⟨z9, [(6, .one (.h 0 []))], [], [], 2706⟩ true [(.exit 2, ⟨[], [], [], [], 2706⟩)] (.n none .o (.n none (.n none .o (.n none (.n none (.loop ⟨z41, [(7, .one (.h 0 [])), (8, .one (.h 1 []))], [], [], 3219⟩ true [(.exit 4, ⟨z9, [(7, .one (.h 0 []))], [], [], 3219⟩)] .o) .o) (.n none (.n none .o (.n none .o (.n (some (true, [(.normal, ⟨[], [], [], [], 3732⟩)])) .o .o))) .o))) .o))) .o))))) ⟨c131_ok, c132_ok, trivial⟩ Tryz.call98 Tryz.func98 rfl rfl (by kernel_rfl) fun h => by kernel_rfl
noncomputable def slices_SortStableFunc_int_int (a0 : (List Int)) (a1 : Board) : Option ((List Int)) := Option.bind (slices_stableCmpFunc_int a0 (len a0) a1) fun x1 => some x1
noncomputable def c57 : Con D := ⟨57, [.lf (.sl 0), .el 3], z28, [.one (.own 1000), .one (.fn 58 [.rp 1 3 [0]])], z29, [], z29, fun h => slices_SortStableFunc_int_int h.1 h.2⟩
theorem c57_ok : CK c57 := fo [c98] [] .o ⟨c98_ok, trivial⟩ Tryz.call57 Tryz.func57 rfl rfl (by kernel_rfl) fun h => by kernel_rfl
noncomputable def shed_Order_L1 (a0 : Board) : Int × List Int →
 Option
 (Int × List Int ⊕
 List
 Int) := fun x2 =>
 if decide (x2.1 < len a0.Consumers) = true then
 Option.bind (app x2.2 [x2.1]) fun x3 => some (.inl (W (x2.1 + 1), x3))
 else some (.inr x2.2)
noncomputable def shed_Order (a0 : Board) : Option ((List Int)) :=
 Option.bind (board_Check a0) fun x1 =>
 if (x1 != 0) = true then some []
 else
 Option.bind (loopO (shed_Order_L1 a0) (0, [])) fun x4 =>
 Option.bind (slices_SortStableFunc_int_int x4 a0) fun x5 => some x5
noncomputable def c24 : Con D := ⟨24, z17, z28, z21, [], z49, z29, fun h => shed_Order ⟨h.1, h.2.1, h.2.2.1, h.2.2.2.1, h.2.2.2.2.1, h.2.2.2.2.2⟩⟩
theorem c24_ok : CK c24 := fo [c56, c57] [.tmp 2] (.n none .o (.n none .o (.n none .o (.n none (.n none .o (.n none (.loop ⟨z24, [(3, .one (.own 2640)), (11, .one (.h 0 []))], [(2640, .sl 0 3 1 [])], [], 2704⟩ true [(.exit 0, ⟨z28, [(3, .one (.own 2640))], [(2640, .sl 0 3 0 [])], [], 2704⟩)] .o) .o)) .o)))) ⟨c56_ok, c57_ok, trivial⟩ Tryz.call24 Tryz.func24 rfl rfl (by kernel_rfl) fun h => by kernel_rfl
noncomputable def board_size (a0 : Board) (a1 : Int) : Option (Int) :=
 if (a1 == 1) = true then some (len a0.Sources)
 else
 if (a1 == 2) = true then some (len a0.Breakers)
 else
 if (a1 == 3) = true then some a0.Buses
 else if (a1 == 4) = true then some (len a0.Consumers) else some 0
noncomputable def c135 : Con D := ⟨135, [.lf (.int .i64), .lf (.sl 4), .lf (.sl 5), .lf (.sl 6), .lf (.int .i64), .lf (.int .i64), .lf (.int .i64)], z9, [.agg [.h 0 [], .h 1 [0], .h 2 [0], .h 3 [0], .h 4 [], .h 5 []], .one (.h 6 [])], [], z10, [], fun h => board_size ⟨h.1, h.2.1, h.2.2.1, h.2.2.2.1, h.2.2.2.2.1, h.2.2.2.2.2.1⟩ h.2.2.2.2.2.2⟩
theorem c135_ok : CK c135 := fo [] [.tmp 4] .o trivial Tryz.call135 Tryz.func135 rfl rfl (by kernel_rfl) fun h => by kernel_rfl
noncomputable def cmp_Or_int_L1 (a0 : List
 Int) : Int →
 Option
 (Int ⊕
 Unit ⊕
 Int) := fun x1 =>
 if decide (x1 < len a0) = true then
 Option.bind (idx a0 x1) fun x2 =>
 if (x2 != 0) = true then some (.inr (.inr x2)) else some (.inl (W (x1 + 1)))
 else some (.inr (.inl ()))
noncomputable def cmp_Or_int (a0 : (List Int)) : Option (Int) :=
 Option.bind (loopO (cmp_Or_int_L1 a0) 0) fun x3 =>
 Sum.elim (fun x4 => some 0) (fun x5 => some x5) x3
noncomputable def c136 : Con D := ⟨136, z28, z9, [.one (.h 0 [0])], [], z10, [], fun h => cmp_Or_int h⟩
theorem c136_ok : CK c136 := fo [] [.tmp 2] (.n none .o z51) trivial Tryz.call136 Tryz.func136 rfl rfl (by kernel_rfl) fun h => by kernel_rfl
noncomputable def board_broken_L1 (a0 : Board) (a1 : List
 Part) : Int →
 Option
 (Int ⊕
 Unit ⊕
 Bool) := fun x1 =>
 if decide (x1 < len a1) = true then
 Option.bind (idx a1 x1) fun x2 =>
 Option.bind
 (Option.bind (board_size a0 x2.Kind) fun x3 =>
 Option.bind (board_in x2.Number 0 (W (x3 - 1))) fun x4 =>
 if (!x4) = true then some true
 else
 if decide (x1 > 0) = true then
 Option.bind (idx a1 (W (x1 - 1))) fun x5 =>
 Option.bind (cmp_Compare_int x5.Kind x2.Kind) fun x6 =>
 Option.bind (idx a1 (W (x1 - 1))) fun x7 =>
 Option.bind (cmp_Compare_int x7.Number x2.Number) fun x8 =>
 Option.bind (cmp_Or_int [x6, x8]) fun x9 => some (decide (x9 ≥ 0))
 else some false)
 fun x10 => if x10 = true then some (.inr (.inr false)) else some (.inl (W (x1 + 1)))
 else some (.inr (.inl ()))
noncomputable def board_broken (a0 : Board) (a1 : (List Part)) : Option (Bool) :=
 Option.bind (loopO (board_broken_L1 a0 a1) 0) fun x11 =>
 Sum.elim (fun x12 => some (decide (len a1 ≤ 32))) (fun x13 => some x13) x11
noncomputable def c104 : Con D := ⟨104, [.lf (.int .i64), .lf (.sl 4), .lf (.sl 5), .lf (.sl 6), .lf (.int .i64), .lf (.int .i64), .lf (.sl 9)], [.lf .bool], [.agg [.h 0 [], .h 1 [0], .h 2 [0], .h 3 [0], .h 4 [], .h 5 []], .one (.h 6 [0])], [], z10, [], fun h => board_broken ⟨h.1, h.2.1, h.2.2.1, h.2.2.2.1, h.2.2.2.2.1, h.2.2.2.2.2.1⟩ h.2.2.2.2.2.2⟩
theorem c104_ok : CK c104 := fo [c59, c94, c135, c136] [.tmp 4] (.n none .o (.n none (.n none .o (.n none (.loop ⟨z9, [(9, .one (.h 0 []))], [], [], 2384⟩ false [(.exit 0, ⟨[], [], [], [], 2384⟩)] (.n none .o (.n none .o (.n none (.n none (.n none .o (.n none (.r (some (true, [(.normal, ⟨[.lf .bool], [(24, .one (.any)), (25, .one (.any)), (26, .one (.any)), (27, .one (.any)), (28, .one (.any)), (29, .one (.any)), (30, .one (.any)), (31, .one (.any)), (32, .one (.any)), (33, .one (.any)), (34, .one (.any)), (35, .one (.any)), (36, .one (.any)), (37, .one (.any)), (38, .one (.any)), (39, .one (.any)), (40, .one (.any)), (41, .one (.any)), (42, .one (.any)), (43, .one (.any)), (44, .one (.any)), (45, .one (.any)), (46, .one (.any)), (47, .one (.any)), (48, .one (.any)), (49, .one (.h 0 []))], [], [], 2897⟩)])) .nil) .o)) .o) .o)))) .o)) .o)) ⟨c59_ok, c94_ok, c135_ok, c136_ok, trivial⟩ Tryz.call104 Tryz.func104 rfl rfl (by kernel_rfl) fun h => by kernel_rfl
noncomputable def board_running (a0 : Running) : Option (Bool) :=
 Option.bind
 (Option.bind (board_in a0.State 0 3) fun x1 =>
 if x1 = true then
 Option.bind (board_in a0.Since 0 2147483648) fun x2 =>
 if x2 = true then
 Option.bind (board_in a0.Frequency 0 6000) fun x3 =>
 if x3 = true then Option.bind (board_in a0.Phase 0 3599) fun x4 => some x4
 else some false
 else some false
 else some false)
 fun x5 => some x5
noncomputable def c107 : Con D := ⟨107, z54, [.lf .bool], [.agg [.h 0 [], .h 1 [], .h 2 [], .h 3 []]], [], z10, [], fun h => board_running ⟨h.1, h.2.1, h.2.2.1, h.2.2.2⟩⟩
theorem c107_ok : CK c107 := fo [c94] [.tmp 2] z63 ⟨c94_ok, trivial⟩ Tryz.call107 Tryz.func107 rfl rfl (by kernel_rfl) fun h => by kernel_rfl
noncomputable def board_State_1 (a0 : Running) : Option (Bool) := Option.bind (board_running a0) fun x1 => some !x1
noncomputable def c106 : Con D := ⟨106, z54, [.lf .bool], [.agg [.h 0 [], .h 1 [], .h 2 [], .h 3 []]], [], z10, [], fun h => board_State_1 ⟨h.1, h.2.1, h.2.2.1, h.2.2.2⟩⟩
theorem c106_ok : CK c106 := fo [c107] [.tmp 2] .o ⟨c107_ok, trivial⟩ Tryz.call106 Tryz.func106 rfl rfl (by kernel_rfl) fun h => by kernel_rfl
noncomputable def slices_IndexFunc_Running_Running_L1 (a0 : List
 Running) : Int →
 Option
 (Int ⊕
 Unit ⊕
 Int) := fun x1 =>
 if decide (x1 < len a0) = true then
 Option.bind (idx a0 x1) fun x2 =>
 Option.bind (board_State_1 x2) fun x3 =>
 if x3 = true then some (.inr (.inr x1)) else some (.inl (W (x1 + 1)))
 else some (.inr (.inl ()))
noncomputable def slices_IndexFunc_Running_Running (a0 : (List Running)) : Option (Int) :=
 Option.bind (loopO (slices_IndexFunc_Running_Running_L1 a0) 0) fun x4 =>
 Sum.elim (fun x5 => some (-1)) (fun x6 => some x6) x4
noncomputable def c137 : Con D := ⟨137, [.lf (.sl 8)], z9, [.one (.h 0 [0]), .one (.fn 106 [])], [], z10, [], fun h => slices_IndexFunc_Running_Running h⟩
theorem c137_ok : CK c137 := fo [c106] [.tmp 4] z12 ⟨c106_ok, trivial⟩ Tryz.call137 Tryz.func137 rfl rfl (by kernel_rfl) fun h => by kernel_rfl
noncomputable def slices_ContainsFunc_Running_Running (a0 : (List Running)) : Option (Bool) := Option.bind (slices_IndexFunc_Running_Running a0) fun x1 => some (decide (x1 ≥ 0))
noncomputable def c105 : Con D := ⟨105, [.lf (.sl 8)], [.lf .bool], [.one (.h 0 [0]), .one (.fn 106 [])], [], z10, [], fun h => slices_ContainsFunc_Running_Running h⟩
theorem c105_ok : CK c105 := fo [c137] [.tmp 4] .o ⟨c137_ok, trivial⟩ Tryz.call105 Tryz.func105 rfl rfl (by kernel_rfl) fun h => by kernel_rfl
noncomputable def board_closed_L1 (a0 : Board) (a1 : Power) (a2 : Int) : Int × Int →
 Option
 (Int × Int ⊕
 Int) := fun x1 =>
 if decide (x1.2 < len a0.Breakers) = true then
 Option.bind (idx a0.Breakers x1.2) fun x2 =>
 Option.bind
 (if (x2.Kind == 3) = true then
 if (x2.B == a2) = true then Option.bind (idx a1.Closed x1.2) fun x3 => some x3 else some false
 else some false)
 fun x4 =>
 Option.bind (if x4 = true then some (W (x1.1 + 1)) else some x1.1) fun x5 =>
 some (.inl (x5, W (x1.2 + 1)))
 else some (.inr x1.1)
noncomputable def board_closed (a0 : Board) (a1 : Power) (a2 : Int) : Option (Int) := Option.bind (loopO (board_closed_L1 a0 a1 a2) (0, 0)) fun x6 => some x6
noncomputable def c108 : Con D := ⟨108, z0, z9, z2, [], z10, [], fun h => board_closed ⟨h.1, h.2.1, h.2.2.1, h.2.2.2.1, h.2.2.2.2.1, h.2.2.2.2.2.1⟩ ⟨h.2.2.2.2.2.2.1, h.2.2.2.2.2.2.2.1, h.2.2.2.2.2.2.2.2.1, h.2.2.2.2.2.2.2.2.2.1⟩ h.2.2.2.2.2.2.2.2.2.2⟩
theorem c108_ok : CK c108 := fo [] [.tmp 6] (.n none .o (.n none .o (.n none (.n none .o (.n none (.loop ⟨z41, [(7, .one (.h 0 [])), (13, .one (.h 1 []))], [], [], 2576⟩ true [(.exit 0, ⟨z9, [(7, .one (.h 0 []))], [], [], 2576⟩)] (.n none .o (.n none .o (.n none (.n none (.n none .o (.n none (.r (some (true, [(.normal, ⟨[.lf .bool], [(22, .one (.any)), (23, .one (.any)), (24, .one (.any)), (25, .one (.any)), (28, .one (.any)), (29, .one (.any)), (30, .one (.any)), (31, .one (.any)), (32, .one (.any)), (33, .one (.h 0 []))], [], [], 3090⟩)])) .nil) (.n (some (true, [(.normal, ⟨z9, [(7, .one (.h 0 []))], [], [], 3155⟩)])) .o .o))) .o) .o)))) .o)) .o))) trivial Tryz.call108 Tryz.func108 rfl rfl (by kernel_rfl) fun h => by kernel_rfl
noncomputable def board_State_L1 (a0 : Board) (a1 : Power) : Bool × Int →
 Option
 (Bool × Int ⊕
 Bool) := fun x6 =>
 if decide (x6.2 < len a1.Limits) = true then
 Option.bind (idx a1.Limits x6.2) fun x7 =>
 Option.bind
 (if x6.1 = true then
 Option.bind (idx a0.Consumers x6.2) fun x8 =>
 Option.bind (board_in x7 0 x8.Load) fun x9 =>
 if x9 = true then Option.bind (board_closed a0 a1 x6.2) fun x10 => some (decide (x10 ≤ 1))
 else some false
 else some false)
 fun x11 => some (.inl (x11, W (x6.2 + 1)))
 else some (.inr x6.1)
noncomputable def board_State (a0 : Board) (a1 : Power) : Option (Int) :=
 Option.bind (board_Check a0) fun x1 =>
 if (x1 != 0) = true then some x1
 else
 Option.bind
 (if (len a1.Closed != len a0.Breakers) = true then some true
 else if (len a1.Sources != len a0.Sources) = true then some true else some (len a1.Limits != len a0.Consumers))
 fun x2 =>
 if x2 = true then some 8
 else
 Option.bind
 (Option.bind (board_broken a0 a1.Broken) fun x3 =>
 if x3 = true then Option.bind (slices_ContainsFunc_Running_Running a1.Sources) fun x4 => some !x4
 else some false)
 fun x5 =>
 Option.bind (loopO (board_State_L1 a0 a1) (x5, 0)) fun x12 =>
 if (!x12) = true then some 11 else some 0
noncomputable def c70 : Con D := ⟨70, z1, z9, z5, [], z10, [], fun h => board_State ⟨h.1, h.2.1, h.2.2.1, h.2.2.2.1, h.2.2.2.2.1, h.2.2.2.2.2.1⟩ ⟨h.2.2.2.2.2.2.1, h.2.2.2.2.2.2.2.1, h.2.2.2.2.2.2.2.2.1, h.2.2.2.2.2.2.2.2.2⟩⟩
theorem c70_ok : CK c70 := fo [c56, c94, c104, c105, c108] [.tmp 4] (.n none .o (.n none .o (.n none (.n none (.r (some (true, [(.normal, ⟨[.lf .bool], [(38, .one (.h 0 []))], [], [], 2576⟩)])) .nil) .o) (.n none (.r (some (true, [(.normal, ⟨[.lf .bool], [(6, .one (.h 0 []))], [], [], 2641⟩)])) .nil) (.n none (.n none .o (.n none (.loop ⟨[.lf .bool, .lf (.int .i64)], [(6, .one (.h 0 [])), (52, .one (.h 1 []))], [], [], 2962⟩ true [(.exit 0, ⟨[.lf .bool], [(6, .one (.h 0 []))], [], [], 2962⟩)] (.n none .o (.n none .o (.n none (.n none (.n none .o (.r (some (true, [(.normal, ⟨[.lf .bool], [(6, .one (.h 0 [])), (59, .one (.any)), (60, .one (.any)), (61, .one (.any)), (62, .one (.any)), (63, .one (.any)), (64, .one (.any)), (65, .one (.any)), (66, .one (.any)), (69, .one (.any)), (70, .one (.any)), (71, .one (.any)), (72, .one (.any)), (73, .one (.any))], [], [], 3412⟩)])) .nil)) .o) .o)))) .o)) .o))))) ⟨c56_ok, c94_ok, c104_ok, c105_ok, c108_ok, trivial⟩ Tryz.call70 Tryz.func70 rfl rfl (by kernel_rfl) fun h => by kernel_rfl
noncomputable def board_groups_L1 (x1 : List
 Int) : Int × List Int →
 Option
 (Int × List Int ⊕
 List
 Int) := fun x2 =>
 if decide (x2.1 < len x1) = true then
 Option.bind (idx x2.2 x2.1) fun x3 =>
 Option.bind (idx x2.2 x2.1) fun x4 =>
 Option.bind (setO x2.2 x2.1 x2.1) fun x5 => some (.inl (W (x2.1 + 1), x5))
 else some (.inr x2.2)
noncomputable def board_groups_L3 (a0 : Board) (a1 : Power) : Int × List Int →
 Option
 (Int × List Int ⊕
 List
 Int) := fun x8 =>
 if decide (x8.1 < len a0.Breakers) = true then
 Option.bind (idx a0.Breakers x8.1) fun x9 =>
 Option.bind
 (if (x9.Kind == 1) = true then Option.bind (idx a1.Closed x8.1) fun x10 => some x10 else some false)
 fun x11 =>
 Option.bind
 (if x11 = true then
 Option.bind (idx x8.2 x9.A) fun x12 =>
 Option.bind (idx x8.2 x9.B) fun x13 =>
 Option.bind (idx x8.2 x9.A) fun x14 =>
 Option.bind (idx x8.2 x9.A) fun x15 =>
 Option.bind (setO x8.2 x9.A (imin x12 x13)) fun x16 =>
 Option.bind (idx x16 x9.B) fun x17 =>
 Option.bind (idx x16 x9.B) fun x18 =>
 Option.bind (setO x16 x9.B (imin x12 x13)) fun x19 => some x19
 else some x8.2)
 fun x20 => some (.inl (W (x8.1 + 1), x20))
 else some (.inr x8.2)
noncomputable def board_groups_L2 (a0 : Board) (a1 : Power) (x6 : List
 Int) : Int × List Int →
 Option
 (Int × List Int ⊕
 List
 Int) := fun x7 =>
 if decide (x7.1 < len x6) = true then
 Option.bind (loopO (board_groups_L3 a0 a1) (0, x7.2)) fun x21 =>
 some (.inl (W (x7.1 + 1), x21))
 else some (.inr x7.2)
noncomputable def board_groups (a0 : Board) (a1 : Power) : Option ((List Int)) :=
 Option.bind (mkZ 0 a0.Buses) fun x1 =>
 Option.bind (loopO (board_groups_L1 x1) (0, x1)) fun x6 =>
 Option.bind (loopO (board_groups_L2 a0 a1 x6) (0, x6)) fun x22 => some x22
noncomputable def c113 : Con D := ⟨113, z1, z28, z5, [], z49, z29, fun h => board_groups ⟨h.1, h.2.1, h.2.2.1, h.2.2.2.1, h.2.2.2.2.1, h.2.2.2.2.2.1⟩ ⟨h.2.2.2.2.2.2.1, h.2.2.2.2.2.2.2.1, h.2.2.2.2.2.2.2.2.1, h.2.2.2.2.2.2.2.2.2⟩⟩
theorem c113_ok : CK c113 := fo [] [.tmp 4] (.n none .o (.n none .o (.n none (.n none .o (.n none (.loop ⟨z24, [(15, .one (.h 0 []))], [(2320, .sl 0 3 1 [])], [2320], 2704⟩ true [(.exit 0, ⟨z28, [], [(2320, .sl 0 3 0 [])], [2320], 2704⟩)] .o) .o)) (.n none (.n none .o (.n none (.loop ⟨z24, [(25, .one (.h 0 []))], [(2320, .sl 0 3 1 [])], [2320], 2961⟩ true [(.exit 2, ⟨z28, [], [(2320, .sl 0 3 0 [])], [2320], 2961⟩)] (.n none .o (.n none .o (.n none (.n none (.n none .o (.n none (.loop ⟨z24, [(30, .one (.h 0 []))], [(2320, .sl 0 3 1 [])], [2320], 3347⟩ true [(.exit 4, ⟨z28, [], [(2320, .sl 0 3 0 [])], [2320], 3347⟩)] (.n none .o (.n none .o (.n none (.n none (.n none .o (.n none (.r (some (true, [(.normal, ⟨[.lf .bool], [(39, .one (.any)), (40, .one (.any)), (41, .one (.any)), (42, .one (.any)), (43, .one (.any)), (44, .one (.h 0 []))], [], [], 3861⟩)])) .nil) (.n (some (true, [(.normal, ⟨z28, [], [(2320, .sl 0 3 0 [])], [2320], 3926⟩)])) .o .o))) .o) .o)))) .o)) .o) .o)))) .o)) .o)))) trivial Tryz.call113 Tryz.func113 rfl rfl (by kernel_rfl) fun h => by kernel_rfl
noncomputable def board_led_L1 (a0 : Board) (a1 : Power) (a2 : Int) (a3 : Int) : Int →
 Option
 (Int ⊕
 Unit ⊕
 Int ×
 Bool) := fun x1 =>
 if decide (x1 < len a0.Breakers) = true then
 Option.bind (idx a0.Breakers x1) fun x2 =>
 Option.bind
 (if (x2.Kind == a2) = true then
 if (x2.B == a3) = true then Option.bind (idx a1.Closed x1) fun x3 => some x3 else some false
 else some false)
 fun x4 => if x4 = true then some (.inr (.inr (x2.A, true))) else some (.inl (W (x1 + 1)))
 else some (.inr (.inl ()))
noncomputable def board_led (a0 : Board) (a1 : Power) (a2 : Int) (a3 : Int) : Option (Int × Bool) :=
 Option.bind (loopO (board_led_L1 a0 a1 a2 a3) 0) fun x5 =>
 Sum.elim (fun x6 => some (0, false)) (fun x7 => some x7) x5
noncomputable def c133 : Con D := ⟨133, [.lf (.int .i64), .lf (.sl 4), .lf (.sl 5), .lf (.sl 6), .lf (.int .i64), .lf (.int .i64), .lf (.sl 1), .lf (.sl 8), .lf (.sl 0), .lf (.sl 9), .lf (.int .i64), .lf (.int .i64)], z58, [.agg [.h 0 [], .h 1 [0], .h 2 [0], .h 3 [0], .h 4 [], .h 5 []], .agg [.h 6 [0], .h 7 [0], .h 8 [0], .h 9 [0]], .one (.h 10 []), .one (.h 11 [])], [], z37, [], fun h => board_led ⟨h.1, h.2.1, h.2.2.1, h.2.2.2.1, h.2.2.2.2.1, h.2.2.2.2.2.1⟩ ⟨h.2.2.2.2.2.2.1, h.2.2.2.2.2.2.2.1, h.2.2.2.2.2.2.2.2.1, h.2.2.2.2.2.2.2.2.2.1⟩ h.2.2.2.2.2.2.2.2.2.2.1 h.2.2.2.2.2.2.2.2.2.2.2⟩
theorem c133_ok : CK c133 := fo [] [.tmp 8, .tmp 9] (.n none .o (.n none (.n none .o (.n none (.loop ⟨z9, [(15, .one (.h 0 []))], [], [], 2576⟩ false [(.exit 0, ⟨[], [], [], [], 2576⟩)] (.n none .o (.n none .o (.n none (.n none (.n none .o (.n none (.r (some (true, [(.normal, ⟨[.lf .bool], [(25, .one (.any)), (26, .one (.any)), (27, .one (.any)), (28, .one (.any)), (31, .one (.any)), (32, .one (.any)), (33, .one (.any)), (34, .one (.any)), (35, .one (.any)), (36, .one (.h 0 []))], [], [], 3089⟩)])) .nil) .o)) .o) .o)))) .o)) .o)) trivial Tryz.call133 Tryz.func133 rfl rfl (by kernel_rfl) fun h => by kernel_rfl
noncomputable def board_connected (a0 : Board) (a1 : Power) (a2 : Int) : Option (Int × Bool) :=
 Option.bind
 (Option.bind (board_in a2 0 (W (len a1.Sources - 1))) fun x1 =>
 if (!x1) = true then some true else Option.bind (idx a1.Sources a2) fun x2 => some (x2.State != 2))
 fun x3 =>
 if x3 = true then some (0, false)
 else Option.bind (board_led a0 a1 2 a2) fun x4 => some (x4.1, x4.2)
noncomputable def c114 : Con D := ⟨114, z0, z58, z2, [], z37, [], fun h => board_connected ⟨h.1, h.2.1, h.2.2.1, h.2.2.2.1, h.2.2.2.2.1, h.2.2.2.2.2.1⟩ ⟨h.2.2.2.2.2.2.1, h.2.2.2.2.2.2.2.1, h.2.2.2.2.2.2.2.2.1, h.2.2.2.2.2.2.2.2.2.1⟩ h.2.2.2.2.2.2.2.2.2.2⟩
theorem c114_ok : CK c114 := fo [c94, c133] [.tmp 6, .tmp 7] (.n none .o (.n none (.n none (.r (some (true, [(.normal, ⟨[.lf .bool], [(23, .one (.h 0 []))], [], [], 2320⟩)])) .nil) .o) .o)) ⟨c94_ok, c133_ok, trivial⟩ Tryz.call114 Tryz.func114 rfl rfl (by kernel_rfl) fun h => by kernel_rfl
noncomputable def board_fed (a0 : Board) (a1 : Power) (a2 : Int) : Option (Int × Bool) := Option.bind (board_led a0 a1 3 a2) fun x1 => some (x1.1, x1.2)
noncomputable def c100 : Con D := ⟨100, z0, z58, z2, [], z37, [], fun h => board_fed ⟨h.1, h.2.1, h.2.2.1, h.2.2.2.1, h.2.2.2.2.1, h.2.2.2.2.2.1⟩ ⟨h.2.2.2.2.2.2.1, h.2.2.2.2.2.2.2.1, h.2.2.2.2.2.2.2.2.1, h.2.2.2.2.2.2.2.2.2.1⟩ h.2.2.2.2.2.2.2.2.2.2⟩
theorem c100_ok : CK c100 := fo [c133] [.tmp 6, .tmp 7] .o ⟨c133_ok, trivial⟩ Tryz.call100 Tryz.func100 rfl rfl (by kernel_rfl) fun h => by kernel_rfl
noncomputable def board_Islands_1 (a0 : Island) : Option (Bool) := some (len a0.Buses == 0)
noncomputable def c116 : Con D := ⟨116, [.lf (.sl 0), .lf (.sl 0), .lf (.sl 0)], [.lf .bool], [.agg [.h 0 [0], .h 1 [0], .h 2 [0]]], [], z10, [], fun h => board_Islands_1 ⟨h.1, h.2.1, h.2.2⟩⟩
theorem c116_ok : CK c116 := fo [] [.tmp 2] .o trivial Tryz.call116 Tryz.func116 rfl rfl (by kernel_rfl) fun h => by kernel_rfl
noncomputable def slices_IndexFunc_Island_Island_L1 (a0 : List
 Island) : Int →
 Option
 (Int ⊕
 Unit ⊕
 Int) := fun x1 =>
 if decide (x1 < len a0) = true then
 Option.bind (idx a0 x1) fun x2 =>
 Option.bind (board_Islands_1 x2) fun x3 =>
 if x3 = true then some (.inr (.inr x1)) else some (.inl (W (x1 + 1)))
 else some (.inr (.inl ()))
noncomputable def slices_IndexFunc_Island_Island (a0 : (List Island)) : Option (Int) :=
 Option.bind (loopO (slices_IndexFunc_Island_Island_L1 a0) 0) fun x4 =>
 Sum.elim (fun x5 => some (-1)) (fun x6 => some x6) x4
noncomputable def c138 : Con D := ⟨138, z65, z9, [.one (.h 0 [0]), .one (.fn 116 [])], [], z10, [], fun h => slices_IndexFunc_Island_Island h⟩
theorem c138_ok : CK c138 := fo [c116] [.tmp 4] z12 ⟨c116_ok, trivial⟩ Tryz.call138 Tryz.func138 rfl rfl (by kernel_rfl) fun h => by kernel_rfl
noncomputable def slices_DeleteFunc_Island_Island_L1 : Int × Int × List Island →
 Option
 (Int × Int × List Island ⊕
 Int ×
 List
 Island) := fun x2 =>
 if decide (x2.2.1 < len x2.2.2) = true then
 Option.bind (idx x2.2.2 x2.2.1) fun x3 =>
 Option.bind (board_Islands_1 x3) fun x4 =>
 Option.bind
 (if (!x4) = true then
 Option.bind (idx x2.2.2 x2.1) fun x5 =>
 Option.bind (idx x2.2.2 x2.1) fun x6 =>
 Option.bind (setO x2.2.2 x2.1 x3) fun x7 => some (W (x2.1 + 1), x7)
 else some (x2.1, x2.2.2))
 fun x8 => some (.inl (x8.1, W (x2.2.1 + 1), x8.2))
 else some (.inr (x2.1, x2.2.2))
noncomputable def slices_DeleteFunc_Island_Island (a0 : (List Island)) : Option ((List Island)) :=
 Option.bind (slices_IndexFunc_Island_Island a0) fun x1 =>
 if (x1 == (-1)) = true then some a0
 else
 Option.bind (loopO slices_DeleteFunc_Island_Island_L1 (x1, W (x1 + 1), a0)) fun x9 =>
 Option.bind (slc x9.2 x9.1 (len x9.2)) fun x10 =>
 Option.bind (slc (clrT (Island.mk [] [] []) x9.2 x9.1) 0 x9.1) fun x11 => some x11
noncomputable def c115 : Con D := ⟨115, z65, z65, [.one (.own 1000), .one (.fn 116 [])], [(1000, .sl 13 54 0 [0])], [.one (.own 1001)], [(1001, .sl 13 54 0 [0])], fun h => slices_DeleteFunc_Island_Island h⟩
theorem c115_ok : CK c115 := fo [c116, c138] [.tmp 4] (.n none .o (.n none .o (.n none .o (.n none (.n none .o (.n none (.loop ⟨[.lf (.int .i64), .lf (.int .i64), .lf (.sl 13)], [(5, .one (.h 0 [])), (6, .one (.h 1 []))], [(1000, .sl 13 54 2 [0])], [1000], 2704⟩ true [(.exit 0, ⟨z53, [(5, .one (.h 0 []))], [(1000, .sl 13 54 1 [0])], [1000], 2704⟩)] (.n none .o (.n none (.n none (.n none .o (.n none .o (.n (some (true, [(.normal, ⟨z53, [(5, .one (.h 0 []))], [(1000, .sl 13 54 1 [0])], [1000], 3667⟩)])) .o .o))) .o) .o))) .o)) .o)))) ⟨c116_ok, c138_ok, trivial⟩ Tryz.call115 Tryz.func115 rfl rfl (by kernel_rfl) fun h => by kernel_rfl
end Rx
end Go.Proofs.YtfnphdhcgkondaaGreat
