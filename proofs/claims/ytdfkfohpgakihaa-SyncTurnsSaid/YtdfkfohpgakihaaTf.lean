/- Closed facts on the types. Written by a program (wip/gen). -/
import Derived.Test.YtdfkfohpgakihaaTd
set_option linter.unusedVariables false
set_option linter.unusedSimpArgs false
namespace Go.Proofs.Ytdfkfohpgakihaa
open Go Go.RowKit Dp

theorem hmix : Try.prog.follows .mixedOrders = true := by kernel_rfl
theorem ty3 : TyOk Try.prog 3 Int := TyOk.of Try.underlying3 rfl (by kernel_rfl)
theorem ty4 : TyOk Try.prog 4 Bool := TyOk.of Try.underlying4 rfl (by kernel_rfl)
theorem ty5 : TyOk Try.prog 5 U8 := TyOk.of Try.underlying5 rfl (by kernel_rfl)
theorem ty22 : TyOk Try.prog 22 (List Int) := TyOk.of Try.underlying22 rfl (by kernel_rfl)
theorem ty25 : TyOk Try.prog 25 (List Breaker) := TyOk.of Try.underlying25 rfl (by kernel_rfl)
theorem ty26 : TyOk Try.prog 26 (List Source) := TyOk.of Try.underlying26 rfl (by kernel_rfl)
theorem ty27 : TyOk Try.prog 27 (List Consumer) := TyOk.of Try.underlying27 rfl (by kernel_rfl)
theorem ty29 : TyOk Try.prog 29 Board := TyOk.of Try.underlying29 rfl (by kernel_rfl)
theorem ty30 : TyOk Try.prog 30 (List Bool) := TyOk.of Try.underlying30 rfl (by kernel_rfl)
theorem ty31 : TyOk Try.prog 31 (List Running) := TyOk.of Try.underlying31 rfl (by kernel_rfl)
theorem ty32 : TyOk Try.prog 32 (List Part) := TyOk.of Try.underlying32 rfl (by kernel_rfl)
theorem ty34 : TyOk Try.prog 34 Power := TyOk.of Try.underlying34 rfl (by kernel_rfl)
theorem ty37 : TyOk Try.prog 37 Int := TyOk.of Try.underlying37 rfl (by kernel_rfl)
theorem ty41 : TyOk Try.prog 41 (List Island) := TyOk.of Try.underlying41 rfl (by kernel_rfl)
theorem ty44 : TyOk Try.prog 44 Island := TyOk.of Try.underlying44 rfl (by kernel_rfl)
theorem ty48 : TyOk Try.prog 48 Running := TyOk.of Try.underlying48 rfl (by kernel_rfl)
theorem ty59 : TyOk Try.prog 59 Breaker := TyOk.of Try.underlying59 rfl (by kernel_rfl)
theorem ty65 : TyOk Try.prog 65 Part := TyOk.of Try.underlying65 rfl (by kernel_rfl)
theorem ty69 : TyOk Try.prog 69 Src := TyOk.of Try.underlying69 rfl (by kernel_rfl)
theorem ty76 : TyOk Try.prog 76 Source := TyOk.of Try.underlying76 rfl (by kernel_rfl)
theorem ty79 : TyOk Try.prog 79 Consumer := TyOk.of Try.underlying79 rfl (by kernel_rfl)
theorem ty115 : TyOk Try.prog 115 (List (List Int)) := TyOk.of Try.underlying115 rfl (by kernel_rfl)
theorem op65 {S : Nat → Prop} {w : World} {v : Value} {x : Part} (h : Rv S w v x) : v = .agg #[.int .i64 x.Kind, .int .i64 x.Number] := by
  obtain ⟨cs, rfl, h⟩ := h
  obtain ⟨c1_0, c1_1, rfl, h1_0, h1_1⟩ := h
  obtain rfl : c1_0 = [.int .i64 x.Kind] := h1_0
  obtain rfl : c1_1 = [.int .i64 x.Number] := h1_1
  exact rfl
theorem mk65 {S : Nat → Prop} {w : World} {x : Part} : Rv S w (.agg #[.int .i64 x.Kind, .int .i64 x.Number]) x := ⟨([.int .i64 x.Kind] ++ [.int .i64 x.Number]), rfl, ⟨[.int .i64 x.Kind], _, rfl, rdI, rdI⟩⟩
theorem st65 : StOk Try.prog 65 [(0, 1), (1, 1)] := ⟨_, Try.underlying65, by kernel_rfl⟩
theorem op69 {S : Nat → Prop} {w : World} {v : Value} {x : Src} (h : Rv S w v x) : ∃ u1, v = .agg #[u1, .int .i64 x.At] ∧ Rv S w u1 x.L := by
  obtain ⟨cs, rfl, h⟩ := h
  obtain ⟨c1_0, c1_1, rfl, h1_0, h1_1⟩ := h
  obtain ⟨u1, rfl⟩ := single (Rep.len h1_0)
  obtain rfl : c1_1 = [.int .i64 x.At] := h1_1
  exact ⟨u1, rfl, Rv.of1 rfl h1_0⟩
theorem mk69 {S : Nat → Prop} {w : World} {x : Src} {u1 : Value} (g1 : Rv S w u1 x.L) : Rv S w (.agg #[u1, .int .i64 x.At]) x := ⟨([u1] ++ [.int .i64 x.At]), rfl, ⟨[u1], _, rfl, g1.rd1 rfl, rdI⟩⟩
theorem st69 : StOk Try.prog 69 [(0, 1), (1, 1)] := ⟨_, Try.underlying69, by kernel_rfl⟩
theorem op76 {S : Nat → Prop} {w : World} {v : Value} {x : Source} (h : Rv S w v x) : v = .agg #[.int .i64 x.Rating, .int .i64 x.Least, .int .i64 x.Start] := by
  obtain ⟨cs, rfl, h⟩ := h
  obtain ⟨c1_0, _, rfl, h1_0, c1_1, c1_2, rfl, h1_1, h1_2⟩ := h
  obtain rfl : c1_0 = [.int .i64 x.Rating] := h1_0
  obtain rfl : c1_1 = [.int .i64 x.Least] := h1_1
  obtain rfl : c1_2 = [.int .i64 x.Start] := h1_2
  exact rfl
theorem mk76 {S : Nat → Prop} {w : World} {x : Source} : Rv S w (.agg #[.int .i64 x.Rating, .int .i64 x.Least, .int .i64 x.Start]) x := ⟨([.int .i64 x.Rating] ++ ([.int .i64 x.Least] ++ [.int .i64 x.Start])), rfl, ⟨[.int .i64 x.Rating], _, rfl, rdI, [.int .i64 x.Least], _, rfl, rdI, rdI⟩⟩
theorem st76 : StOk Try.prog 76 [(0, 1), (1, 1), (2, 1)] := ⟨_, Try.underlying76, by kernel_rfl⟩
theorem op79 {S : Nat → Prop} {w : World} {v : Value} {x : Consumer} (h : Rv S w v x) : ∃ u1, v = .agg #[.int .i64 x.Load, .int .i64 x.Least, .int .i64 x.Preference, .int .i64 x.Thruster, u1] ∧ Rv S w u1 x.Needs := by
  obtain ⟨cs, rfl, h⟩ := h
  obtain ⟨c1_0, _, rfl, h1_0, c1_1, _, rfl, h1_1, c1_2, _, rfl, h1_2, c1_3, c1_4, rfl, h1_3, h1_4⟩ := h
  obtain rfl : c1_0 = [.int .i64 x.Load] := h1_0
  obtain rfl : c1_1 = [.int .i64 x.Least] := h1_1
  obtain rfl : c1_2 = [.int .i64 x.Preference] := h1_2
  obtain rfl : c1_3 = [.int .i64 x.Thruster] := h1_3
  obtain ⟨u1, rfl⟩ := single (Rep.len h1_4)
  exact ⟨u1, rfl, Rv.of1 rfl h1_4⟩
theorem mk79 {S : Nat → Prop} {w : World} {x : Consumer} {u1 : Value} (g1 : Rv S w u1 x.Needs) : Rv S w (.agg #[.int .i64 x.Load, .int .i64 x.Least, .int .i64 x.Preference, .int .i64 x.Thruster, u1]) x := ⟨([.int .i64 x.Load] ++ ([.int .i64 x.Least] ++ ([.int .i64 x.Preference] ++ ([.int .i64 x.Thruster] ++ [u1])))), rfl, ⟨[.int .i64 x.Load], _, rfl, rdI, [.int .i64 x.Least], _, rfl, rdI, [.int .i64 x.Preference], _, rfl, rdI, [.int .i64 x.Thruster], _, rfl, rdI, g1.rd1 rfl⟩⟩
theorem st79 : StOk Try.prog 79 [(0, 1), (1, 1), (2, 1), (3, 1), (4, 1)] := ⟨_, Try.underlying79, by kernel_rfl⟩
theorem op59 {S : Nat → Prop} {w : World} {v : Value} {x : Breaker} (h : Rv S w v x) : v = .agg #[.int .i64 x.Kind, .int .i64 x.A, .int .i64 x.B] := by
  obtain ⟨cs, rfl, h⟩ := h
  obtain ⟨c1_0, _, rfl, h1_0, c1_1, c1_2, rfl, h1_1, h1_2⟩ := h
  obtain rfl : c1_0 = [.int .i64 x.Kind] := h1_0
  obtain rfl : c1_1 = [.int .i64 x.A] := h1_1
  obtain rfl : c1_2 = [.int .i64 x.B] := h1_2
  exact rfl
theorem mk59 {S : Nat → Prop} {w : World} {x : Breaker} : Rv S w (.agg #[.int .i64 x.Kind, .int .i64 x.A, .int .i64 x.B]) x := ⟨([.int .i64 x.Kind] ++ ([.int .i64 x.A] ++ [.int .i64 x.B])), rfl, ⟨[.int .i64 x.Kind], _, rfl, rdI, [.int .i64 x.A], _, rfl, rdI, rdI⟩⟩
theorem st59 : StOk Try.prog 59 [(0, 1), (1, 1), (2, 1)] := ⟨_, Try.underlying59, by kernel_rfl⟩
theorem op29 {S : Nat → Prop} {w : World} {v : Value} {x : Board} (h : Rv S w v x) : ∃ u1 u2 u3, v = .agg #[.int .i64 x.Buses, u1, u2, u3, .int .i64 x.Phase, .int .i64 x.Frequency] ∧ Rv S w u1 x.Breakers ∧ Rv S w u2 x.Sources ∧ Rv S w u3 x.Consumers := by
  obtain ⟨cs, rfl, h⟩ := h
  obtain ⟨c1_0, _, rfl, h1_0, c1_1, _, rfl, h1_1, c1_2, _, rfl, h1_2, c1_3, _, rfl, h1_3, c1_4, c1_5, rfl, h1_4, h1_5⟩ := h
  obtain rfl : c1_0 = [.int .i64 x.Buses] := h1_0
  obtain ⟨u1, rfl⟩ := single (Rep.len h1_1)
  obtain ⟨u2, rfl⟩ := single (Rep.len h1_2)
  obtain ⟨u3, rfl⟩ := single (Rep.len h1_3)
  obtain rfl : c1_4 = [.int .i64 x.Phase] := h1_4
  obtain rfl : c1_5 = [.int .i64 x.Frequency] := h1_5
  exact ⟨u1, u2, u3, rfl, Rv.of1 rfl h1_1, Rv.of1 rfl h1_2, Rv.of1 rfl h1_3⟩
theorem mk29 {S : Nat → Prop} {w : World} {x : Board} {u1 u2 u3 : Value} (g1 : Rv S w u1 x.Breakers) (g2 : Rv S w u2 x.Sources) (g3 : Rv S w u3 x.Consumers) : Rv S w (.agg #[.int .i64 x.Buses, u1, u2, u3, .int .i64 x.Phase, .int .i64 x.Frequency]) x := ⟨([.int .i64 x.Buses] ++ ([u1] ++ ([u2] ++ ([u3] ++ ([.int .i64 x.Phase] ++ [.int .i64 x.Frequency]))))), rfl, ⟨[.int .i64 x.Buses], _, rfl, rdI, [u1], _, rfl, g1.rd1 rfl, [u2], _, rfl, g2.rd1 rfl, [u3], _, rfl, g3.rd1 rfl, [.int .i64 x.Phase], _, rfl, rdI, rdI⟩⟩
theorem st29 : StOk Try.prog 29 [(0, 1), (1, 1), (2, 1), (3, 1), (4, 1), (5, 1)] := ⟨_, Try.underlying29, by kernel_rfl⟩
theorem op48 {S : Nat → Prop} {w : World} {v : Value} {x : Running} (h : Rv S w v x) : v = .agg #[.int .i64 x.State, .int .i64 x.Since, .int .i64 x.Frequency, .int .i64 x.Phase] := by
  obtain ⟨cs, rfl, h⟩ := h
  obtain ⟨c1_0, _, rfl, h1_0, c1_1, _, rfl, h1_1, c1_2, c1_3, rfl, h1_2, h1_3⟩ := h
  obtain rfl : c1_0 = [.int .i64 x.State] := h1_0
  obtain rfl : c1_1 = [.int .i64 x.Since] := h1_1
  obtain rfl : c1_2 = [.int .i64 x.Frequency] := h1_2
  obtain rfl : c1_3 = [.int .i64 x.Phase] := h1_3
  exact rfl
theorem mk48 {S : Nat → Prop} {w : World} {x : Running} : Rv S w (.agg #[.int .i64 x.State, .int .i64 x.Since, .int .i64 x.Frequency, .int .i64 x.Phase]) x := ⟨([.int .i64 x.State] ++ ([.int .i64 x.Since] ++ ([.int .i64 x.Frequency] ++ [.int .i64 x.Phase]))), rfl, ⟨[.int .i64 x.State], _, rfl, rdI, [.int .i64 x.Since], _, rfl, rdI, [.int .i64 x.Frequency], _, rfl, rdI, rdI⟩⟩
theorem st48 : StOk Try.prog 48 [(0, 1), (1, 1), (2, 1), (3, 1)] := ⟨_, Try.underlying48, by kernel_rfl⟩
theorem op34 {S : Nat → Prop} {w : World} {v : Value} {x : Power} (h : Rv S w v x) : ∃ u1 u2 u3 u4, v = .agg #[u1, u2, u3, u4] ∧ Rv S w u1 x.Closed ∧ Rv S w u2 x.Sources ∧ Rv S w u3 x.Limits ∧ Rv S w u4 x.Broken := by
  obtain ⟨cs, rfl, h⟩ := h
  obtain ⟨c1_0, _, rfl, h1_0, c1_1, _, rfl, h1_1, c1_2, c1_3, rfl, h1_2, h1_3⟩ := h
  obtain ⟨u1, rfl⟩ := single (Rep.len h1_0)
  obtain ⟨u2, rfl⟩ := single (Rep.len h1_1)
  obtain ⟨u3, rfl⟩ := single (Rep.len h1_2)
  obtain ⟨u4, rfl⟩ := single (Rep.len h1_3)
  exact ⟨u1, u2, u3, u4, rfl, Rv.of1 rfl h1_0, Rv.of1 rfl h1_1, Rv.of1 rfl h1_2, Rv.of1 rfl h1_3⟩
theorem mk34 {S : Nat → Prop} {w : World} {x : Power} {u1 u2 u3 u4 : Value} (g1 : Rv S w u1 x.Closed) (g2 : Rv S w u2 x.Sources) (g3 : Rv S w u3 x.Limits) (g4 : Rv S w u4 x.Broken) : Rv S w (.agg #[u1, u2, u3, u4]) x := ⟨([u1] ++ ([u2] ++ ([u3] ++ [u4]))), rfl, ⟨[u1], _, rfl, g1.rd1 rfl, [u2], _, rfl, g2.rd1 rfl, [u3], _, rfl, g3.rd1 rfl, g4.rd1 rfl⟩⟩
theorem st34 : StOk Try.prog 34 [(0, 1), (1, 1), (2, 1), (3, 1)] := ⟨_, Try.underlying34, by kernel_rfl⟩
theorem op44 {S : Nat → Prop} {w : World} {v : Value} {x : Island} (h : Rv S w v x) : ∃ u1 u2 u3, v = .agg #[u1, u2, u3] ∧ Rv S w u1 x.Buses ∧ Rv S w u2 x.Sources ∧ Rv S w u3 x.Consumers := by
  obtain ⟨cs, rfl, h⟩ := h
  obtain ⟨c1_0, _, rfl, h1_0, c1_1, c1_2, rfl, h1_1, h1_2⟩ := h
  obtain ⟨u1, rfl⟩ := single (Rep.len h1_0)
  obtain ⟨u2, rfl⟩ := single (Rep.len h1_1)
  obtain ⟨u3, rfl⟩ := single (Rep.len h1_2)
  exact ⟨u1, u2, u3, rfl, Rv.of1 rfl h1_0, Rv.of1 rfl h1_1, Rv.of1 rfl h1_2⟩
theorem mk44 {S : Nat → Prop} {w : World} {x : Island} {u1 u2 u3 : Value} (g1 : Rv S w u1 x.Buses) (g2 : Rv S w u2 x.Sources) (g3 : Rv S w u3 x.Consumers) : Rv S w (.agg #[u1, u2, u3]) x := ⟨([u1] ++ ([u2] ++ [u3])), rfl, ⟨[u1], _, rfl, g1.rd1 rfl, [u2], _, rfl, g2.rd1 rfl, g3.rd1 rfl⟩⟩
theorem st44 : StOk Try.prog 44 [(0, 1), (1, 1), (2, 1)] := ⟨_, Try.underlying44, by kernel_rfl⟩
theorem f29_0 : FldOk Try.prog 29 0 0 Board.Buses := ⟨⟨_, _, Try.underlying29, rfl, rfl, ty3⟩, by
  rintro S w cs x ⟨c0, _, rfl, h0, c1, _, rfl, h1, c2, _, rfl, h2, c3, _, rfl, h3, c4, c5, rfl, h4, h5⟩
  exact ⟨[], c0, c1 ++ c2 ++ c3 ++ c4 ++ c5, by simp, by simp, h0⟩⟩
theorem s29_0 : FldSet (α := Board) (β := Int) 0 (fun x y => { x with Buses := y }) := by
  rintro S w cs x c' y ⟨c0, _, rfl, h0, c1, _, rfl, h1, c2, _, rfl, h2, c3, _, rfl, h3, c4, c5, rfl, h4, h5⟩ h'
  rw [splice_eq (A := []) (B := c0) (R := c1 ++ c2 ++ c3 ++ c4 ++ c5) (by simp) (by simp) ((Rep.len h0).trans (Rep.len h').symm)]
  exact ⟨c', _, by simp, h', c1, _, rfl, h1, c2, _, rfl, h2, c3, _, rfl, h3, c4, _, rfl, h4, h5⟩
theorem f29_1 : FldOk Try.prog 29 1 1 Board.Breakers := ⟨⟨_, _, Try.underlying29, rfl, rfl, ty25⟩, by
  rintro S w cs x ⟨c0, _, rfl, h0, c1, _, rfl, h1, c2, _, rfl, h2, c3, _, rfl, h3, c4, c5, rfl, h4, h5⟩
  exact ⟨c0, c1, c2 ++ c3 ++ c4 ++ c5, by simp, by simp [(Rep.len h0 : c0.length = 1)]; rfl, h1⟩⟩
theorem s29_1 : FldSet (α := Board) (β := (List Breaker)) 1 (fun x y => { x with Breakers := y }) := by
  rintro S w cs x c' y ⟨c0, _, rfl, h0, c1, _, rfl, h1, c2, _, rfl, h2, c3, _, rfl, h3, c4, c5, rfl, h4, h5⟩ h'
  rw [splice_eq (A := c0) (B := c1) (R := c2 ++ c3 ++ c4 ++ c5) (by simp) (by simp [(Rep.len h0 : c0.length = 1)]; rfl) ((Rep.len h1).trans (Rep.len h').symm)]
  exact ⟨c0, _, by simp, h0, c', _, rfl, h', c2, _, rfl, h2, c3, _, rfl, h3, c4, _, rfl, h4, h5⟩
theorem f29_2 : FldOk Try.prog 29 2 2 Board.Sources := ⟨⟨_, _, Try.underlying29, rfl, rfl, ty26⟩, by
  rintro S w cs x ⟨c0, _, rfl, h0, c1, _, rfl, h1, c2, _, rfl, h2, c3, _, rfl, h3, c4, c5, rfl, h4, h5⟩
  exact ⟨c0 ++ c1, c2, c3 ++ c4 ++ c5, by simp, by simp [(Rep.len h0 : c0.length = 1), (Rep.len h1 : c1.length = 1)]; rfl, h2⟩⟩
theorem s29_2 : FldSet (α := Board) (β := (List Source)) 2 (fun x y => { x with Sources := y }) := by
  rintro S w cs x c' y ⟨c0, _, rfl, h0, c1, _, rfl, h1, c2, _, rfl, h2, c3, _, rfl, h3, c4, c5, rfl, h4, h5⟩ h'
  rw [splice_eq (A := c0 ++ c1) (B := c2) (R := c3 ++ c4 ++ c5) (by simp) (by simp [(Rep.len h0 : c0.length = 1), (Rep.len h1 : c1.length = 1)]; rfl) ((Rep.len h2).trans (Rep.len h').symm)]
  exact ⟨c0, _, by simp, h0, c1, _, rfl, h1, c', _, rfl, h', c3, _, rfl, h3, c4, _, rfl, h4, h5⟩
theorem f29_3 : FldOk Try.prog 29 3 3 Board.Consumers := ⟨⟨_, _, Try.underlying29, rfl, rfl, ty27⟩, by
  rintro S w cs x ⟨c0, _, rfl, h0, c1, _, rfl, h1, c2, _, rfl, h2, c3, _, rfl, h3, c4, c5, rfl, h4, h5⟩
  exact ⟨c0 ++ c1 ++ c2, c3, c4 ++ c5, by simp, by simp [(Rep.len h0 : c0.length = 1), (Rep.len h1 : c1.length = 1), (Rep.len h2 : c2.length = 1)]; rfl, h3⟩⟩
theorem s29_3 : FldSet (α := Board) (β := (List Consumer)) 3 (fun x y => { x with Consumers := y }) := by
  rintro S w cs x c' y ⟨c0, _, rfl, h0, c1, _, rfl, h1, c2, _, rfl, h2, c3, _, rfl, h3, c4, c5, rfl, h4, h5⟩ h'
  rw [splice_eq (A := c0 ++ c1 ++ c2) (B := c3) (R := c4 ++ c5) (by simp) (by simp [(Rep.len h0 : c0.length = 1), (Rep.len h1 : c1.length = 1), (Rep.len h2 : c2.length = 1)]; rfl) ((Rep.len h3).trans (Rep.len h').symm)]
  exact ⟨c0, _, by simp, h0, c1, _, rfl, h1, c2, _, rfl, h2, c', _, rfl, h', c4, _, rfl, h4, h5⟩
theorem f29_4 : FldOk Try.prog 29 4 4 Board.Phase := ⟨⟨_, _, Try.underlying29, rfl, rfl, ty3⟩, by
  rintro S w cs x ⟨c0, _, rfl, h0, c1, _, rfl, h1, c2, _, rfl, h2, c3, _, rfl, h3, c4, c5, rfl, h4, h5⟩
  exact ⟨c0 ++ c1 ++ c2 ++ c3, c4, c5, by simp, by simp [(Rep.len h0 : c0.length = 1), (Rep.len h1 : c1.length = 1), (Rep.len h2 : c2.length = 1), (Rep.len h3 : c3.length = 1)]; rfl, h4⟩⟩
theorem s29_4 : FldSet (α := Board) (β := Int) 4 (fun x y => { x with Phase := y }) := by
  rintro S w cs x c' y ⟨c0, _, rfl, h0, c1, _, rfl, h1, c2, _, rfl, h2, c3, _, rfl, h3, c4, c5, rfl, h4, h5⟩ h'
  rw [splice_eq (A := c0 ++ c1 ++ c2 ++ c3) (B := c4) (R := c5) (by simp) (by simp [(Rep.len h0 : c0.length = 1), (Rep.len h1 : c1.length = 1), (Rep.len h2 : c2.length = 1), (Rep.len h3 : c3.length = 1)]; rfl) ((Rep.len h4).trans (Rep.len h').symm)]
  exact ⟨c0, _, by simp, h0, c1, _, rfl, h1, c2, _, rfl, h2, c3, _, rfl, h3, c', _, rfl, h', h5⟩
theorem f29_5 : FldOk Try.prog 29 5 5 Board.Frequency := ⟨⟨_, _, Try.underlying29, rfl, rfl, ty3⟩, by
  rintro S w cs x ⟨c0, _, rfl, h0, c1, _, rfl, h1, c2, _, rfl, h2, c3, _, rfl, h3, c4, c5, rfl, h4, h5⟩
  exact ⟨c0 ++ c1 ++ c2 ++ c3 ++ c4, c5, [], by simp, by simp [(Rep.len h0 : c0.length = 1), (Rep.len h1 : c1.length = 1), (Rep.len h2 : c2.length = 1), (Rep.len h3 : c3.length = 1), (Rep.len h4 : c4.length = 1)]; rfl, h5⟩⟩
theorem s29_5 : FldSet (α := Board) (β := Int) 5 (fun x y => { x with Frequency := y }) := by
  rintro S w cs x c' y ⟨c0, _, rfl, h0, c1, _, rfl, h1, c2, _, rfl, h2, c3, _, rfl, h3, c4, c5, rfl, h4, h5⟩ h'
  rw [splice_eq (A := c0 ++ c1 ++ c2 ++ c3 ++ c4) (B := c5) (R := []) (by simp) (by simp [(Rep.len h0 : c0.length = 1), (Rep.len h1 : c1.length = 1), (Rep.len h2 : c2.length = 1), (Rep.len h3 : c3.length = 1), (Rep.len h4 : c4.length = 1)]; rfl) ((Rep.len h5).trans (Rep.len h').symm)]
  exact ⟨c0, _, by simp, h0, c1, _, rfl, h1, c2, _, rfl, h2, c3, _, rfl, h3, c4, _, rfl, h4, h'⟩
theorem f34_0 : FldOk Try.prog 34 0 0 Power.Closed := ⟨⟨_, _, Try.underlying34, rfl, rfl, ty30⟩, by
  rintro S w cs x ⟨c0, _, rfl, h0, c1, _, rfl, h1, c2, c3, rfl, h2, h3⟩
  exact ⟨[], c0, c1 ++ c2 ++ c3, by simp, by simp, h0⟩⟩
theorem s34_0 : FldSet (α := Power) (β := (List Bool)) 0 (fun x y => { x with Closed := y }) := by
  rintro S w cs x c' y ⟨c0, _, rfl, h0, c1, _, rfl, h1, c2, c3, rfl, h2, h3⟩ h'
  rw [splice_eq (A := []) (B := c0) (R := c1 ++ c2 ++ c3) (by simp) (by simp) ((Rep.len h0).trans (Rep.len h').symm)]
  exact ⟨c', _, by simp, h', c1, _, rfl, h1, c2, _, rfl, h2, h3⟩
theorem f34_1 : FldOk Try.prog 34 1 1 Power.Sources := ⟨⟨_, _, Try.underlying34, rfl, rfl, ty31⟩, by
  rintro S w cs x ⟨c0, _, rfl, h0, c1, _, rfl, h1, c2, c3, rfl, h2, h3⟩
  exact ⟨c0, c1, c2 ++ c3, by simp, by simp [(Rep.len h0 : c0.length = 1)]; rfl, h1⟩⟩
theorem s34_1 : FldSet (α := Power) (β := (List Running)) 1 (fun x y => { x with Sources := y }) := by
  rintro S w cs x c' y ⟨c0, _, rfl, h0, c1, _, rfl, h1, c2, c3, rfl, h2, h3⟩ h'
  rw [splice_eq (A := c0) (B := c1) (R := c2 ++ c3) (by simp) (by simp [(Rep.len h0 : c0.length = 1)]; rfl) ((Rep.len h1).trans (Rep.len h').symm)]
  exact ⟨c0, _, by simp, h0, c', _, rfl, h', c2, _, rfl, h2, h3⟩
theorem f34_2 : FldOk Try.prog 34 2 2 Power.Limits := ⟨⟨_, _, Try.underlying34, rfl, rfl, ty22⟩, by
  rintro S w cs x ⟨c0, _, rfl, h0, c1, _, rfl, h1, c2, c3, rfl, h2, h3⟩
  exact ⟨c0 ++ c1, c2, c3, by simp, by simp [(Rep.len h0 : c0.length = 1), (Rep.len h1 : c1.length = 1)]; rfl, h2⟩⟩
theorem s34_2 : FldSet (α := Power) (β := (List Int)) 2 (fun x y => { x with Limits := y }) := by
  rintro S w cs x c' y ⟨c0, _, rfl, h0, c1, _, rfl, h1, c2, c3, rfl, h2, h3⟩ h'
  rw [splice_eq (A := c0 ++ c1) (B := c2) (R := c3) (by simp) (by simp [(Rep.len h0 : c0.length = 1), (Rep.len h1 : c1.length = 1)]; rfl) ((Rep.len h2).trans (Rep.len h').symm)]
  exact ⟨c0, _, by simp, h0, c1, _, rfl, h1, c', _, rfl, h', h3⟩
theorem f34_3 : FldOk Try.prog 34 3 3 Power.Broken := ⟨⟨_, _, Try.underlying34, rfl, rfl, ty32⟩, by
  rintro S w cs x ⟨c0, _, rfl, h0, c1, _, rfl, h1, c2, c3, rfl, h2, h3⟩
  exact ⟨c0 ++ c1 ++ c2, c3, [], by simp, by simp [(Rep.len h0 : c0.length = 1), (Rep.len h1 : c1.length = 1), (Rep.len h2 : c2.length = 1)]; rfl, h3⟩⟩
theorem s34_3 : FldSet (α := Power) (β := (List Part)) 3 (fun x y => { x with Broken := y }) := by
  rintro S w cs x c' y ⟨c0, _, rfl, h0, c1, _, rfl, h1, c2, c3, rfl, h2, h3⟩ h'
  rw [splice_eq (A := c0 ++ c1 ++ c2) (B := c3) (R := []) (by simp) (by simp [(Rep.len h0 : c0.length = 1), (Rep.len h1 : c1.length = 1), (Rep.len h2 : c2.length = 1)]; rfl) ((Rep.len h3).trans (Rep.len h').symm)]
  exact ⟨c0, _, by simp, h0, c1, _, rfl, h1, c2, _, rfl, h2, h'⟩
theorem f44_0 : FldOk Try.prog 44 0 0 Island.Buses := ⟨⟨_, _, Try.underlying44, rfl, rfl, ty22⟩, by
  rintro S w cs x ⟨c0, _, rfl, h0, c1, c2, rfl, h1, h2⟩
  exact ⟨[], c0, c1 ++ c2, by simp, by simp, h0⟩⟩
theorem s44_0 : FldSet (α := Island) (β := (List Int)) 0 (fun x y => { x with Buses := y }) := by
  rintro S w cs x c' y ⟨c0, _, rfl, h0, c1, c2, rfl, h1, h2⟩ h'
  rw [splice_eq (A := []) (B := c0) (R := c1 ++ c2) (by simp) (by simp) ((Rep.len h0).trans (Rep.len h').symm)]
  exact ⟨c', _, by simp, h', c1, _, rfl, h1, h2⟩
theorem f44_1 : FldOk Try.prog 44 1 1 Island.Sources := ⟨⟨_, _, Try.underlying44, rfl, rfl, ty22⟩, by
  rintro S w cs x ⟨c0, _, rfl, h0, c1, c2, rfl, h1, h2⟩
  exact ⟨c0, c1, c2, by simp, by simp [(Rep.len h0 : c0.length = 1)]; rfl, h1⟩⟩
theorem s44_1 : FldSet (α := Island) (β := (List Int)) 1 (fun x y => { x with Sources := y }) := by
  rintro S w cs x c' y ⟨c0, _, rfl, h0, c1, c2, rfl, h1, h2⟩ h'
  rw [splice_eq (A := c0) (B := c1) (R := c2) (by simp) (by simp [(Rep.len h0 : c0.length = 1)]; rfl) ((Rep.len h1).trans (Rep.len h').symm)]
  exact ⟨c0, _, by simp, h0, c', _, rfl, h', h2⟩
theorem f44_2 : FldOk Try.prog 44 2 2 Island.Consumers := ⟨⟨_, _, Try.underlying44, rfl, rfl, ty22⟩, by
  rintro S w cs x ⟨c0, _, rfl, h0, c1, c2, rfl, h1, h2⟩
  exact ⟨c0 ++ c1, c2, [], by simp, by simp [(Rep.len h0 : c0.length = 1), (Rep.len h1 : c1.length = 1)]; rfl, h2⟩⟩
theorem s44_2 : FldSet (α := Island) (β := (List Int)) 2 (fun x y => { x with Consumers := y }) := by
  rintro S w cs x c' y ⟨c0, _, rfl, h0, c1, c2, rfl, h1, h2⟩ h'
  rw [splice_eq (A := c0 ++ c1) (B := c2) (R := []) (by simp) (by simp [(Rep.len h0 : c0.length = 1), (Rep.len h1 : c1.length = 1)]; rfl) ((Rep.len h2).trans (Rep.len h').symm)]
  exact ⟨c0, _, by simp, h0, c1, _, rfl, h1, h'⟩
theorem f48_0 : FldOk Try.prog 48 0 0 Running.State := ⟨⟨_, _, Try.underlying48, rfl, rfl, ty3⟩, by
  rintro S w cs x ⟨c0, _, rfl, h0, c1, _, rfl, h1, c2, c3, rfl, h2, h3⟩
  exact ⟨[], c0, c1 ++ c2 ++ c3, by simp, by simp, h0⟩⟩
theorem s48_0 : FldSet (α := Running) (β := Int) 0 (fun x y => { x with State := y }) := by
  rintro S w cs x c' y ⟨c0, _, rfl, h0, c1, _, rfl, h1, c2, c3, rfl, h2, h3⟩ h'
  rw [splice_eq (A := []) (B := c0) (R := c1 ++ c2 ++ c3) (by simp) (by simp) ((Rep.len h0).trans (Rep.len h').symm)]
  exact ⟨c', _, by simp, h', c1, _, rfl, h1, c2, _, rfl, h2, h3⟩
theorem f48_1 : FldOk Try.prog 48 1 1 Running.Since := ⟨⟨_, _, Try.underlying48, rfl, rfl, ty3⟩, by
  rintro S w cs x ⟨c0, _, rfl, h0, c1, _, rfl, h1, c2, c3, rfl, h2, h3⟩
  exact ⟨c0, c1, c2 ++ c3, by simp, by simp [(Rep.len h0 : c0.length = 1)]; rfl, h1⟩⟩
theorem s48_1 : FldSet (α := Running) (β := Int) 1 (fun x y => { x with Since := y }) := by
  rintro S w cs x c' y ⟨c0, _, rfl, h0, c1, _, rfl, h1, c2, c3, rfl, h2, h3⟩ h'
  rw [splice_eq (A := c0) (B := c1) (R := c2 ++ c3) (by simp) (by simp [(Rep.len h0 : c0.length = 1)]; rfl) ((Rep.len h1).trans (Rep.len h').symm)]
  exact ⟨c0, _, by simp, h0, c', _, rfl, h', c2, _, rfl, h2, h3⟩
theorem f48_2 : FldOk Try.prog 48 2 2 Running.Frequency := ⟨⟨_, _, Try.underlying48, rfl, rfl, ty3⟩, by
  rintro S w cs x ⟨c0, _, rfl, h0, c1, _, rfl, h1, c2, c3, rfl, h2, h3⟩
  exact ⟨c0 ++ c1, c2, c3, by simp, by simp [(Rep.len h0 : c0.length = 1), (Rep.len h1 : c1.length = 1)]; rfl, h2⟩⟩
theorem s48_2 : FldSet (α := Running) (β := Int) 2 (fun x y => { x with Frequency := y }) := by
  rintro S w cs x c' y ⟨c0, _, rfl, h0, c1, _, rfl, h1, c2, c3, rfl, h2, h3⟩ h'
  rw [splice_eq (A := c0 ++ c1) (B := c2) (R := c3) (by simp) (by simp [(Rep.len h0 : c0.length = 1), (Rep.len h1 : c1.length = 1)]; rfl) ((Rep.len h2).trans (Rep.len h').symm)]
  exact ⟨c0, _, by simp, h0, c1, _, rfl, h1, c', _, rfl, h', h3⟩
theorem f48_3 : FldOk Try.prog 48 3 3 Running.Phase := ⟨⟨_, _, Try.underlying48, rfl, rfl, ty3⟩, by
  rintro S w cs x ⟨c0, _, rfl, h0, c1, _, rfl, h1, c2, c3, rfl, h2, h3⟩
  exact ⟨c0 ++ c1 ++ c2, c3, [], by simp, by simp [(Rep.len h0 : c0.length = 1), (Rep.len h1 : c1.length = 1), (Rep.len h2 : c2.length = 1)]; rfl, h3⟩⟩
theorem s48_3 : FldSet (α := Running) (β := Int) 3 (fun x y => { x with Phase := y }) := by
  rintro S w cs x c' y ⟨c0, _, rfl, h0, c1, _, rfl, h1, c2, c3, rfl, h2, h3⟩ h'
  rw [splice_eq (A := c0 ++ c1 ++ c2) (B := c3) (R := []) (by simp) (by simp [(Rep.len h0 : c0.length = 1), (Rep.len h1 : c1.length = 1), (Rep.len h2 : c2.length = 1)]; rfl) ((Rep.len h3).trans (Rep.len h').symm)]
  exact ⟨c0, _, by simp, h0, c1, _, rfl, h1, c2, _, rfl, h2, h'⟩
theorem f59_0 : FldOk Try.prog 59 0 0 Breaker.Kind := ⟨⟨_, _, Try.underlying59, rfl, rfl, ty3⟩, by
  rintro S w cs x ⟨c0, _, rfl, h0, c1, c2, rfl, h1, h2⟩
  exact ⟨[], c0, c1 ++ c2, by simp, by simp, h0⟩⟩
theorem s59_0 : FldSet (α := Breaker) (β := Int) 0 (fun x y => { x with Kind := y }) := by
  rintro S w cs x c' y ⟨c0, _, rfl, h0, c1, c2, rfl, h1, h2⟩ h'
  rw [splice_eq (A := []) (B := c0) (R := c1 ++ c2) (by simp) (by simp) ((Rep.len h0).trans (Rep.len h').symm)]
  exact ⟨c', _, by simp, h', c1, _, rfl, h1, h2⟩
theorem f59_1 : FldOk Try.prog 59 1 1 Breaker.A := ⟨⟨_, _, Try.underlying59, rfl, rfl, ty3⟩, by
  rintro S w cs x ⟨c0, _, rfl, h0, c1, c2, rfl, h1, h2⟩
  exact ⟨c0, c1, c2, by simp, by simp [(Rep.len h0 : c0.length = 1)]; rfl, h1⟩⟩
theorem s59_1 : FldSet (α := Breaker) (β := Int) 1 (fun x y => { x with A := y }) := by
  rintro S w cs x c' y ⟨c0, _, rfl, h0, c1, c2, rfl, h1, h2⟩ h'
  rw [splice_eq (A := c0) (B := c1) (R := c2) (by simp) (by simp [(Rep.len h0 : c0.length = 1)]; rfl) ((Rep.len h1).trans (Rep.len h').symm)]
  exact ⟨c0, _, by simp, h0, c', _, rfl, h', h2⟩
theorem f59_2 : FldOk Try.prog 59 2 2 Breaker.B := ⟨⟨_, _, Try.underlying59, rfl, rfl, ty3⟩, by
  rintro S w cs x ⟨c0, _, rfl, h0, c1, c2, rfl, h1, h2⟩
  exact ⟨c0 ++ c1, c2, [], by simp, by simp [(Rep.len h0 : c0.length = 1), (Rep.len h1 : c1.length = 1)]; rfl, h2⟩⟩
theorem s59_2 : FldSet (α := Breaker) (β := Int) 2 (fun x y => { x with B := y }) := by
  rintro S w cs x c' y ⟨c0, _, rfl, h0, c1, c2, rfl, h1, h2⟩ h'
  rw [splice_eq (A := c0 ++ c1) (B := c2) (R := []) (by simp) (by simp [(Rep.len h0 : c0.length = 1), (Rep.len h1 : c1.length = 1)]; rfl) ((Rep.len h2).trans (Rep.len h').symm)]
  exact ⟨c0, _, by simp, h0, c1, _, rfl, h1, h'⟩
theorem f65_0 : FldOk Try.prog 65 0 0 Part.Kind := ⟨⟨_, _, Try.underlying65, rfl, rfl, ty3⟩, by
  rintro S w cs x ⟨c0, c1, rfl, h0, h1⟩
  exact ⟨[], c0, c1, by simp, by simp, h0⟩⟩
theorem s65_0 : FldSet (α := Part) (β := Int) 0 (fun x y => { x with Kind := y }) := by
  rintro S w cs x c' y ⟨c0, c1, rfl, h0, h1⟩ h'
  rw [splice_eq (A := []) (B := c0) (R := c1) (by simp) (by simp) ((Rep.len h0).trans (Rep.len h').symm)]
  exact ⟨c', _, by simp, h', h1⟩
theorem f65_1 : FldOk Try.prog 65 1 1 Part.Number := ⟨⟨_, _, Try.underlying65, rfl, rfl, ty3⟩, by
  rintro S w cs x ⟨c0, c1, rfl, h0, h1⟩
  exact ⟨c0, c1, [], by simp, by simp [(Rep.len h0 : c0.length = 1)]; rfl, h1⟩⟩
theorem s65_1 : FldSet (α := Part) (β := Int) 1 (fun x y => { x with Number := y }) := by
  rintro S w cs x c' y ⟨c0, c1, rfl, h0, h1⟩ h'
  rw [splice_eq (A := c0) (B := c1) (R := []) (by simp) (by simp [(Rep.len h0 : c0.length = 1)]; rfl) ((Rep.len h1).trans (Rep.len h').symm)]
  exact ⟨c0, _, by simp, h0, h'⟩
theorem f69_0 : FldOk Try.prog 69 0 0 Src.L := ⟨⟨_, _, Try.underlying69, rfl, rfl, ty22⟩, by
  rintro S w cs x ⟨c0, c1, rfl, h0, h1⟩
  exact ⟨[], c0, c1, by simp, by simp, h0⟩⟩
theorem s69_0 : FldSet (α := Src) (β := (List Int)) 0 (fun x y => { x with L := y }) := by
  rintro S w cs x c' y ⟨c0, c1, rfl, h0, h1⟩ h'
  rw [splice_eq (A := []) (B := c0) (R := c1) (by simp) (by simp) ((Rep.len h0).trans (Rep.len h').symm)]
  exact ⟨c', _, by simp, h', h1⟩
theorem f69_1 : FldOk Try.prog 69 1 1 Src.At := ⟨⟨_, _, Try.underlying69, rfl, rfl, ty3⟩, by
  rintro S w cs x ⟨c0, c1, rfl, h0, h1⟩
  exact ⟨c0, c1, [], by simp, by simp [(Rep.len h0 : c0.length = 1)]; rfl, h1⟩⟩
theorem s69_1 : FldSet (α := Src) (β := Int) 1 (fun x y => { x with At := y }) := by
  rintro S w cs x c' y ⟨c0, c1, rfl, h0, h1⟩ h'
  rw [splice_eq (A := c0) (B := c1) (R := []) (by simp) (by simp [(Rep.len h0 : c0.length = 1)]; rfl) ((Rep.len h1).trans (Rep.len h').symm)]
  exact ⟨c0, _, by simp, h0, h'⟩
theorem f76_0 : FldOk Try.prog 76 0 0 Source.Rating := ⟨⟨_, _, Try.underlying76, rfl, rfl, ty3⟩, by
  rintro S w cs x ⟨c0, _, rfl, h0, c1, c2, rfl, h1, h2⟩
  exact ⟨[], c0, c1 ++ c2, by simp, by simp, h0⟩⟩
theorem s76_0 : FldSet (α := Source) (β := Int) 0 (fun x y => { x with Rating := y }) := by
  rintro S w cs x c' y ⟨c0, _, rfl, h0, c1, c2, rfl, h1, h2⟩ h'
  rw [splice_eq (A := []) (B := c0) (R := c1 ++ c2) (by simp) (by simp) ((Rep.len h0).trans (Rep.len h').symm)]
  exact ⟨c', _, by simp, h', c1, _, rfl, h1, h2⟩
theorem f76_1 : FldOk Try.prog 76 1 1 Source.Least := ⟨⟨_, _, Try.underlying76, rfl, rfl, ty3⟩, by
  rintro S w cs x ⟨c0, _, rfl, h0, c1, c2, rfl, h1, h2⟩
  exact ⟨c0, c1, c2, by simp, by simp [(Rep.len h0 : c0.length = 1)]; rfl, h1⟩⟩
theorem s76_1 : FldSet (α := Source) (β := Int) 1 (fun x y => { x with Least := y }) := by
  rintro S w cs x c' y ⟨c0, _, rfl, h0, c1, c2, rfl, h1, h2⟩ h'
  rw [splice_eq (A := c0) (B := c1) (R := c2) (by simp) (by simp [(Rep.len h0 : c0.length = 1)]; rfl) ((Rep.len h1).trans (Rep.len h').symm)]
  exact ⟨c0, _, by simp, h0, c', _, rfl, h', h2⟩
theorem f76_2 : FldOk Try.prog 76 2 2 Source.Start := ⟨⟨_, _, Try.underlying76, rfl, rfl, ty3⟩, by
  rintro S w cs x ⟨c0, _, rfl, h0, c1, c2, rfl, h1, h2⟩
  exact ⟨c0 ++ c1, c2, [], by simp, by simp [(Rep.len h0 : c0.length = 1), (Rep.len h1 : c1.length = 1)]; rfl, h2⟩⟩
theorem s76_2 : FldSet (α := Source) (β := Int) 2 (fun x y => { x with Start := y }) := by
  rintro S w cs x c' y ⟨c0, _, rfl, h0, c1, c2, rfl, h1, h2⟩ h'
  rw [splice_eq (A := c0 ++ c1) (B := c2) (R := []) (by simp) (by simp [(Rep.len h0 : c0.length = 1), (Rep.len h1 : c1.length = 1)]; rfl) ((Rep.len h2).trans (Rep.len h').symm)]
  exact ⟨c0, _, by simp, h0, c1, _, rfl, h1, h'⟩
theorem f79_0 : FldOk Try.prog 79 0 0 Consumer.Load := ⟨⟨_, _, Try.underlying79, rfl, rfl, ty3⟩, by
  rintro S w cs x ⟨c0, _, rfl, h0, c1, _, rfl, h1, c2, _, rfl, h2, c3, c4, rfl, h3, h4⟩
  exact ⟨[], c0, c1 ++ c2 ++ c3 ++ c4, by simp, by simp, h0⟩⟩
theorem s79_0 : FldSet (α := Consumer) (β := Int) 0 (fun x y => { x with Load := y }) := by
  rintro S w cs x c' y ⟨c0, _, rfl, h0, c1, _, rfl, h1, c2, _, rfl, h2, c3, c4, rfl, h3, h4⟩ h'
  rw [splice_eq (A := []) (B := c0) (R := c1 ++ c2 ++ c3 ++ c4) (by simp) (by simp) ((Rep.len h0).trans (Rep.len h').symm)]
  exact ⟨c', _, by simp, h', c1, _, rfl, h1, c2, _, rfl, h2, c3, _, rfl, h3, h4⟩
theorem f79_1 : FldOk Try.prog 79 1 1 Consumer.Least := ⟨⟨_, _, Try.underlying79, rfl, rfl, ty3⟩, by
  rintro S w cs x ⟨c0, _, rfl, h0, c1, _, rfl, h1, c2, _, rfl, h2, c3, c4, rfl, h3, h4⟩
  exact ⟨c0, c1, c2 ++ c3 ++ c4, by simp, by simp [(Rep.len h0 : c0.length = 1)]; rfl, h1⟩⟩
theorem s79_1 : FldSet (α := Consumer) (β := Int) 1 (fun x y => { x with Least := y }) := by
  rintro S w cs x c' y ⟨c0, _, rfl, h0, c1, _, rfl, h1, c2, _, rfl, h2, c3, c4, rfl, h3, h4⟩ h'
  rw [splice_eq (A := c0) (B := c1) (R := c2 ++ c3 ++ c4) (by simp) (by simp [(Rep.len h0 : c0.length = 1)]; rfl) ((Rep.len h1).trans (Rep.len h').symm)]
  exact ⟨c0, _, by simp, h0, c', _, rfl, h', c2, _, rfl, h2, c3, _, rfl, h3, h4⟩
theorem f79_2 : FldOk Try.prog 79 2 2 Consumer.Preference := ⟨⟨_, _, Try.underlying79, rfl, rfl, ty3⟩, by
  rintro S w cs x ⟨c0, _, rfl, h0, c1, _, rfl, h1, c2, _, rfl, h2, c3, c4, rfl, h3, h4⟩
  exact ⟨c0 ++ c1, c2, c3 ++ c4, by simp, by simp [(Rep.len h0 : c0.length = 1), (Rep.len h1 : c1.length = 1)]; rfl, h2⟩⟩
theorem s79_2 : FldSet (α := Consumer) (β := Int) 2 (fun x y => { x with Preference := y }) := by
  rintro S w cs x c' y ⟨c0, _, rfl, h0, c1, _, rfl, h1, c2, _, rfl, h2, c3, c4, rfl, h3, h4⟩ h'
  rw [splice_eq (A := c0 ++ c1) (B := c2) (R := c3 ++ c4) (by simp) (by simp [(Rep.len h0 : c0.length = 1), (Rep.len h1 : c1.length = 1)]; rfl) ((Rep.len h2).trans (Rep.len h').symm)]
  exact ⟨c0, _, by simp, h0, c1, _, rfl, h1, c', _, rfl, h', c3, _, rfl, h3, h4⟩
theorem f79_3 : FldOk Try.prog 79 3 3 Consumer.Thruster := ⟨⟨_, _, Try.underlying79, rfl, rfl, ty3⟩, by
  rintro S w cs x ⟨c0, _, rfl, h0, c1, _, rfl, h1, c2, _, rfl, h2, c3, c4, rfl, h3, h4⟩
  exact ⟨c0 ++ c1 ++ c2, c3, c4, by simp, by simp [(Rep.len h0 : c0.length = 1), (Rep.len h1 : c1.length = 1), (Rep.len h2 : c2.length = 1)]; rfl, h3⟩⟩
theorem s79_3 : FldSet (α := Consumer) (β := Int) 3 (fun x y => { x with Thruster := y }) := by
  rintro S w cs x c' y ⟨c0, _, rfl, h0, c1, _, rfl, h1, c2, _, rfl, h2, c3, c4, rfl, h3, h4⟩ h'
  rw [splice_eq (A := c0 ++ c1 ++ c2) (B := c3) (R := c4) (by simp) (by simp [(Rep.len h0 : c0.length = 1), (Rep.len h1 : c1.length = 1), (Rep.len h2 : c2.length = 1)]; rfl) ((Rep.len h3).trans (Rep.len h').symm)]
  exact ⟨c0, _, by simp, h0, c1, _, rfl, h1, c2, _, rfl, h2, c', _, rfl, h', h4⟩
theorem f79_4 : FldOk Try.prog 79 4 4 Consumer.Needs := ⟨⟨_, _, Try.underlying79, rfl, rfl, ty22⟩, by
  rintro S w cs x ⟨c0, _, rfl, h0, c1, _, rfl, h1, c2, _, rfl, h2, c3, c4, rfl, h3, h4⟩
  exact ⟨c0 ++ c1 ++ c2 ++ c3, c4, [], by simp, by simp [(Rep.len h0 : c0.length = 1), (Rep.len h1 : c1.length = 1), (Rep.len h2 : c2.length = 1), (Rep.len h3 : c3.length = 1)]; rfl, h4⟩⟩
theorem s79_4 : FldSet (α := Consumer) (β := (List Int)) 4 (fun x y => { x with Needs := y }) := by
  rintro S w cs x c' y ⟨c0, _, rfl, h0, c1, _, rfl, h1, c2, _, rfl, h2, c3, c4, rfl, h3, h4⟩ h'
  rw [splice_eq (A := c0 ++ c1 ++ c2 ++ c3) (B := c4) (R := []) (by simp) (by simp [(Rep.len h0 : c0.length = 1), (Rep.len h1 : c1.length = 1), (Rep.len h2 : c2.length = 1), (Rep.len h3 : c3.length = 1)]; rfl) ((Rep.len h4).trans (Rep.len h').symm)]
  exact ⟨c0, _, by simp, h0, c1, _, rfl, h1, c2, _, rfl, h2, c3, _, rfl, h3, h'⟩
theorem eq65 : EqOk Try.prog 65 Part := EqOk.ints (fun x => [x.Kind, x.Number]) Try.underlying65 (by kernel_rfl) (by kernel_rfl) (fun x y => by cases x; cases y; simp) (fun h => op65 h) (fun _ => ⟨by simp, rfl, Try.underlying3, by simp, rfl, Try.underlying3, rfl⟩) (fun _ _ => rfl)
end Go.Proofs.Ytdfkfohpgakihaa
