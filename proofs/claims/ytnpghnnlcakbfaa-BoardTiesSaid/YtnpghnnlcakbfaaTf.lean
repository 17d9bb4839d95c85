/- Closed facts on the types. Written by a program (wip/gen). -/
import Derived.Test.YtnpghnnlcakbfaaTd
set_option linter.unusedVariables false
set_option linter.unusedSimpArgs false
namespace Go.Proofs.Ytnpghnnlcakbfaa
open Go Go.RowKit Dp

theorem hmix : Try.prog.follows .mixedOrders = true := by kernel_rfl
theorem ty3 : TyOk Try.prog 3 Int := TyOk.of Try.underlying3 rfl (by kernel_rfl)
theorem ty4 : TyOk Try.prog 4 Bool := TyOk.of Try.underlying4 rfl (by kernel_rfl)
theorem ty5 : TyOk Try.prog 5 U8 := TyOk.of Try.underlying5 rfl (by kernel_rfl)
theorem ty22 : TyOk Try.prog 22 (List Int) := TyOk.of Try.underlying22 rfl (by kernel_rfl)
theorem ty29 : TyOk Try.prog 29 Int := TyOk.of Try.underlying29 rfl (by kernel_rfl)
theorem ty35 : TyOk Try.prog 35 (List Breaker) := TyOk.of Try.underlying35 rfl (by kernel_rfl)
theorem ty36 : TyOk Try.prog 36 (List Source) := TyOk.of Try.underlying36 rfl (by kernel_rfl)
theorem ty37 : TyOk Try.prog 37 (List Consumer) := TyOk.of Try.underlying37 rfl (by kernel_rfl)
theorem ty39 : TyOk Try.prog 39 Board := TyOk.of Try.underlying39 rfl (by kernel_rfl)
theorem ty41 : TyOk Try.prog 41 (List Bool) := TyOk.of Try.underlying41 rfl (by kernel_rfl)
theorem ty42 : TyOk Try.prog 42 (List Running) := TyOk.of Try.underlying42 rfl (by kernel_rfl)
theorem ty43 : TyOk Try.prog 43 (List Part) := TyOk.of Try.underlying43 rfl (by kernel_rfl)
theorem ty45 : TyOk Try.prog 45 Power := TyOk.of Try.underlying45 rfl (by kernel_rfl)
theorem ty48 : TyOk Try.prog 48 Breaker := TyOk.of Try.underlying48 rfl (by kernel_rfl)
theorem ty49 : TyOk Try.prog 49 (List Island) := TyOk.of Try.underlying49 rfl (by kernel_rfl)
theorem ty53 : TyOk Try.prog 53 Island := TyOk.of Try.underlying53 rfl (by kernel_rfl)
theorem ty64 : TyOk Try.prog 64 Running := TyOk.of Try.underlying64 rfl (by kernel_rfl)
theorem ty66 : TyOk Try.prog 66 Part := TyOk.of Try.underlying66 rfl (by kernel_rfl)
theorem ty77 : TyOk Try.prog 77 Src := TyOk.of Try.underlying77 rfl (by kernel_rfl)
theorem ty83 : TyOk Try.prog 83 Source := TyOk.of Try.underlying83 rfl (by kernel_rfl)
theorem ty85 : TyOk Try.prog 85 Consumer := TyOk.of Try.underlying85 rfl (by kernel_rfl)
theorem ty107 : TyOk Try.prog 107 (List (List Int)) := TyOk.of Try.underlying107 rfl (by kernel_rfl)
theorem op64 {S : Nat → Prop} {w : World} {v : Value} {x : Running} (h : Rv S w v x) : v = .agg #[.int .i64 x.State, .int .i64 x.Since, .int .i64 x.Frequency, .int .i64 x.Phase] := by
  obtain ⟨cs, rfl, h⟩ := h
  obtain ⟨c1_0, _, rfl, h1_0, c1_1, _, rfl, h1_1, c1_2, c1_3, rfl, h1_2, h1_3⟩ := h
  obtain rfl : c1_0 = [.int .i64 x.State] := h1_0
  obtain rfl : c1_1 = [.int .i64 x.Since] := h1_1
  obtain rfl : c1_2 = [.int .i64 x.Frequency] := h1_2
  obtain rfl : c1_3 = [.int .i64 x.Phase] := h1_3
  exact rfl
theorem mk64 {S : Nat → Prop} {w : World} {x : Running} : Rv S w (.agg #[.int .i64 x.State, .int .i64 x.Since, .int .i64 x.Frequency, .int .i64 x.Phase]) x := ⟨([.int .i64 x.State] ++ ([.int .i64 x.Since] ++ ([.int .i64 x.Frequency] ++ [.int .i64 x.Phase]))), rfl, ⟨[.int .i64 x.State], _, rfl, rdI, [.int .i64 x.Since], _, rfl, rdI, [.int .i64 x.Frequency], _, rfl, rdI, rdI⟩⟩
theorem st64 : StOk Try.prog 64 [(0, 1), (1, 1), (2, 1), (3, 1)] := ⟨_, Try.underlying64, by kernel_rfl⟩
theorem op66 {S : Nat → Prop} {w : World} {v : Value} {x : Part} (h : Rv S w v x) : v = .agg #[.int .i64 x.Kind, .int .i64 x.Number] := by
  obtain ⟨cs, rfl, h⟩ := h
  obtain ⟨c1_0, c1_1, rfl, h1_0, h1_1⟩ := h
  obtain rfl : c1_0 = [.int .i64 x.Kind] := h1_0
  obtain rfl : c1_1 = [.int .i64 x.Number] := h1_1
  exact rfl
theorem mk66 {S : Nat → Prop} {w : World} {x : Part} : Rv S w (.agg #[.int .i64 x.Kind, .int .i64 x.Number]) x := ⟨([.int .i64 x.Kind] ++ [.int .i64 x.Number]), rfl, ⟨[.int .i64 x.Kind], _, rfl, rdI, rdI⟩⟩
theorem st66 : StOk Try.prog 66 [(0, 1), (1, 1)] := ⟨_, Try.underlying66, by kernel_rfl⟩
theorem op77 {S : Nat → Prop} {w : World} {v : Value} {x : Src} (h : Rv S w v x) : ∃ u1, v = .agg #[u1, .int .i64 x.At] ∧ Rv S w u1 x.L := by
  obtain ⟨cs, rfl, h⟩ := h
  obtain ⟨c1_0, c1_1, rfl, h1_0, h1_1⟩ := h
  obtain ⟨u1, rfl⟩ := single (Rep.len h1_0)
  obtain rfl : c1_1 = [.int .i64 x.At] := h1_1
  exact ⟨u1, rfl, Rv.of1 rfl h1_0⟩
theorem mk77 {S : Nat → Prop} {w : World} {x : Src} {u1 : Value} (g1 : Rv S w u1 x.L) : Rv S w (.agg #[u1, .int .i64 x.At]) x := ⟨([u1] ++ [.int .i64 x.At]), rfl, ⟨[u1], _, rfl, g1.rd1 rfl, rdI⟩⟩
theorem st77 : StOk Try.prog 77 [(0, 1), (1, 1)] := ⟨_, Try.underlying77, by kernel_rfl⟩
theorem op83 {S : Nat → Prop} {w : World} {v : Value} {x : Source} (h : Rv S w v x) : v = .agg #[.int .i64 x.Rating, .int .i64 x.Least, .int .i64 x.Start] := by
  obtain ⟨cs, rfl, h⟩ := h
  obtain ⟨c1_0, _, rfl, h1_0, c1_1, c1_2, rfl, h1_1, h1_2⟩ := h
  obtain rfl : c1_0 = [.int .i64 x.Rating] := h1_0
  obtain rfl : c1_1 = [.int .i64 x.Least] := h1_1
  obtain rfl : c1_2 = [.int .i64 x.Start] := h1_2
  exact rfl
theorem mk83 {S : Nat → Prop} {w : World} {x : Source} : Rv S w (.agg #[.int .i64 x.Rating, .int .i64 x.Least, .int .i64 x.Start]) x := ⟨([.int .i64 x.Rating] ++ ([.int .i64 x.Least] ++ [.int .i64 x.Start])), rfl, ⟨[.int .i64 x.Rating], _, rfl, rdI, [.int .i64 x.Least], _, rfl, rdI, rdI⟩⟩
theorem st83 : StOk Try.prog 83 [(0, 1), (1, 1), (2, 1)] := ⟨_, Try.underlying83, by kernel_rfl⟩
theorem op85 {S : Nat → Prop} {w : World} {v : Value} {x : Consumer} (h : Rv S w v x) : ∃ u1, v = .agg #[.int .i64 x.Load, .int .i64 x.Least, .int .i64 x.Preference, .int .i64 x.Thruster, u1] ∧ Rv S w u1 x.Needs := by
  obtain ⟨cs, rfl, h⟩ := h
  obtain ⟨c1_0, _, rfl, h1_0, c1_1, _, rfl, h1_1, c1_2, _, rfl, h1_2, c1_3, c1_4, rfl, h1_3, h1_4⟩ := h
  obtain rfl : c1_0 = [.int .i64 x.Load] := h1_0
  obtain rfl : c1_1 = [.int .i64 x.Least] := h1_1
  obtain rfl : c1_2 = [.int .i64 x.Preference] := h1_2
  obtain rfl : c1_3 = [.int .i64 x.Thruster] := h1_3
  obtain ⟨u1, rfl⟩ := single (Rep.len h1_4)
  exact ⟨u1, rfl, Rv.of1 rfl h1_4⟩
theorem mk85 {S : Nat → Prop} {w : World} {x : Consumer} {u1 : Value} (g1 : Rv S w u1 x.Needs) : Rv S w (.agg #[.int .i64 x.Load, .int .i64 x.Least, .int .i64 x.Preference, .int .i64 x.Thruster, u1]) x := ⟨([.int .i64 x.Load] ++ ([.int .i64 x.Least] ++ ([.int .i64 x.Preference] ++ ([.int .i64 x.Thruster] ++ [u1])))), rfl, ⟨[.int .i64 x.Load], _, rfl, rdI, [.int .i64 x.Least], _, rfl, rdI, [.int .i64 x.Preference], _, rfl, rdI, [.int .i64 x.Thruster], _, rfl, rdI, g1.rd1 rfl⟩⟩
theorem st85 : StOk Try.prog 85 [(0, 1), (1, 1), (2, 1), (3, 1), (4, 1)] := ⟨_, Try.underlying85, by kernel_rfl⟩
theorem op48 {S : Nat → Prop} {w : World} {v : Value} {x : Breaker} (h : Rv S w v x) : v = .agg #[.int .i64 x.Kind, .int .i64 x.A, .int .i64 x.B] := by
  obtain ⟨cs, rfl, h⟩ := h
  obtain ⟨c1_0, _, rfl, h1_0, c1_1, c1_2, rfl, h1_1, h1_2⟩ := h
  obtain rfl : c1_0 = [.int .i64 x.Kind] := h1_0
  obtain rfl : c1_1 = [.int .i64 x.A] := h1_1
  obtain rfl : c1_2 = [.int .i64 x.B] := h1_2
  exact rfl
theorem mk48 {S : Nat → Prop} {w : World} {x : Breaker} : Rv S w (.agg #[.int .i64 x.Kind, .int .i64 x.A, .int .i64 x.B]) x := ⟨([.int .i64 x.Kind] ++ ([.int .i64 x.A] ++ [.int .i64 x.B])), rfl, ⟨[.int .i64 x.Kind], _, rfl, rdI, [.int .i64 x.A], _, rfl, rdI, rdI⟩⟩
theorem st48 : StOk Try.prog 48 [(0, 1), (1, 1), (2, 1)] := ⟨_, Try.underlying48, by kernel_rfl⟩
theorem op39 {S : Nat → Prop} {w : World} {v : Value} {x : Board} (h : Rv S w v x) : ∃ u1 u2 u3, v = .agg #[.int .i64 x.Buses, u1, u2, u3, .int .i64 x.Phase, .int .i64 x.Frequency] ∧ Rv S w u1 x.Breakers ∧ Rv S w u2 x.Sources ∧ Rv S w u3 x.Consumers := by
  obtain ⟨cs, rfl, h⟩ := h
  obtain ⟨c1_0, _, rfl, h1_0, c1_1, _, rfl, h1_1, c1_2, _, rfl, h1_2, c1_3, _, rfl, h1_3, c1_4, c1_5, rfl, h1_4, h1_5⟩ := h
  obtain rfl : c1_0 = [.int .i64 x.Buses] := h1_0
  obtain ⟨u1, rfl⟩ := single (Rep.len h1_1)
  obtain ⟨u2, rfl⟩ := single (Rep.len h1_2)
  obtain ⟨u3, rfl⟩ := single (Rep.len h1_3)
  obtain rfl : c1_4 = [.int .i64 x.Phase] := h1_4
  obtain rfl : c1_5 = [.int .i64 x.Frequency] := h1_5
  exact ⟨u1, u2, u3, rfl, Rv.of1 rfl h1_1, Rv.of1 rfl h1_2, Rv.of1 rfl h1_3⟩
theorem mk39 {S : Nat → Prop} {w : World} {x : Board} {u1 u2 u3 : Value} (g1 : Rv S w u1 x.Breakers) (g2 : Rv S w u2 x.Sources) (g3 : Rv S w u3 x.Consumers) : Rv S w (.agg #[.int .i64 x.Buses, u1, u2, u3, .int .i64 x.Phase, .int .i64 x.Frequency]) x := ⟨([.int .i64 x.Buses] ++ ([u1] ++ ([u2] ++ ([u3] ++ ([.int .i64 x.Phase] ++ [.int .i64 x.Frequency]))))), rfl, ⟨[.int .i64 x.Buses], _, rfl, rdI, [u1], _, rfl, g1.rd1 rfl, [u2], _, rfl, g2.rd1 rfl, [u3], _, rfl, g3.rd1 rfl, [.int .i64 x.Phase], _, rfl, rdI, rdI⟩⟩
theorem st39 : StOk Try.prog 39 [(0, 1), (1, 1), (2, 1), (3, 1), (4, 1), (5, 1)] := ⟨_, Try.underlying39, by kernel_rfl⟩
theorem op45 {S : Nat → Prop} {w : World} {v : Value} {x : Power} (h : Rv S w v x) : ∃ u1 u2 u3 u4, v = .agg #[u1, u2, u3, u4] ∧ Rv S w u1 x.Closed ∧ Rv S w u2 x.Sources ∧ Rv S w u3 x.Limits ∧ Rv S w u4 x.Broken := by
  obtain ⟨cs, rfl, h⟩ := h
  obtain ⟨c1_0, _, rfl, h1_0, c1_1, _, rfl, h1_1, c1_2, c1_3, rfl, h1_2, h1_3⟩ := h
  obtain ⟨u1, rfl⟩ := single (Rep.len h1_0)
  obtain ⟨u2, rfl⟩ := single (Rep.len h1_1)
  obtain ⟨u3, rfl⟩ := single (Rep.len h1_2)
  obtain ⟨u4, rfl⟩ := single (Rep.len h1_3)
  exact ⟨u1, u2, u3, u4, rfl, Rv.of1 rfl h1_0, Rv.of1 rfl h1_1, Rv.of1 rfl h1_2, Rv.of1 rfl h1_3⟩
theorem mk45 {S : Nat → Prop} {w : World} {x : Power} {u1 u2 u3 u4 : Value} (g1 : Rv S w u1 x.Closed) (g2 : Rv S w u2 x.Sources) (g3 : Rv S w u3 x.Limits) (g4 : Rv S w u4 x.Broken) : Rv S w (.agg #[u1, u2, u3, u4]) x := ⟨([u1] ++ ([u2] ++ ([u3] ++ [u4]))), rfl, ⟨[u1], _, rfl, g1.rd1 rfl, [u2], _, rfl, g2.rd1 rfl, [u3], _, rfl, g3.rd1 rfl, g4.rd1 rfl⟩⟩
theorem st45 : StOk Try.prog 45 [(0, 1), (1, 1), (2, 1), (3, 1)] := ⟨_, Try.underlying45, by kernel_rfl⟩
theorem op53 {S : Nat → Prop} {w : World} {v : Value} {x : Island} (h : Rv S w v x) : ∃ u1 u2 u3, v = .agg #[u1, u2, u3] ∧ Rv S w u1 x.Buses ∧ Rv S w u2 x.Sources ∧ Rv S w u3 x.Consumers := by
  obtain ⟨cs, rfl, h⟩ := h
  obtain ⟨c1_0, _, rfl, h1_0, c1_1, c1_2, rfl, h1_1, h1_2⟩ := h
  obtain ⟨u1, rfl⟩ := single (Rep.len h1_0)
  obtain ⟨u2, rfl⟩ := single (Rep.len h1_1)
  obtain ⟨u3, rfl⟩ := single (Rep.len h1_2)
  exact ⟨u1, u2, u3, rfl, Rv.of1 rfl h1_0, Rv.of1 rfl h1_1, Rv.of1 rfl h1_2⟩
theorem mk53 {S : Nat → Prop} {w : World} {x : Island} {u1 u2 u3 : Value} (g1 : Rv S w u1 x.Buses) (g2 : Rv S w u2 x.Sources) (g3 : Rv S w u3 x.Consumers) : Rv S w (.agg #[u1, u2, u3]) x := ⟨([u1] ++ ([u2] ++ [u3])), rfl, ⟨[u1], _, rfl, g1.rd1 rfl, [u2], _, rfl, g2.rd1 rfl, g3.rd1 rfl⟩⟩
theorem st53 : StOk Try.prog 53 [(0, 1), (1, 1), (2, 1)] := ⟨_, Try.underlying53, by kernel_rfl⟩
theorem f39_0 : FldOk Try.prog 39 0 0 Board.Buses := ⟨⟨_, _, Try.underlying39, rfl, rfl, ty3⟩, by
  rintro S w cs x ⟨c0, _, rfl, h0, c1, _, rfl, h1, c2, _, rfl, h2, c3, _, rfl, h3, c4, c5, rfl, h4, h5⟩
  exact ⟨[], c0, c1 ++ c2 ++ c3 ++ c4 ++ c5, by simp, by simp, h0⟩⟩
theorem s39_0 : FldSet (α := Board) (β := Int) 0 (fun x y => { x with Buses := y }) := by
  rintro S w cs x c' y ⟨c0, _, rfl, h0, c1, _, rfl, h1, c2, _, rfl, h2, c3, _, rfl, h3, c4, c5, rfl, h4, h5⟩ h'
  rw [splice_eq (A := []) (B := c0) (R := c1 ++ c2 ++ c3 ++ c4 ++ c5) (by simp) (by simp) ((Rep.len h0).trans (Rep.len h').symm)]
  exact ⟨c', _, by simp, h', c1, _, rfl, h1, c2, _, rfl, h2, c3, _, rfl, h3, c4, _, rfl, h4, h5⟩
theorem f39_1 : FldOk Try.prog 39 1 1 Board.Breakers := ⟨⟨_, _, Try.underlying39, rfl, rfl, ty35⟩, by
  rintro S w cs x ⟨c0, _, rfl, h0, c1, _, rfl, h1, c2, _, rfl, h2, c3, _, rfl, h3, c4, c5, rfl, h4, h5⟩
  exact ⟨c0, c1, c2 ++ c3 ++ c4 ++ c5, by simp, by simp [(Rep.len h0 : c0.length = 1)]; rfl, h1⟩⟩
theorem s39_1 : FldSet (α := Board) (β := (List Breaker)) 1 (fun x y => { x with Breakers := y }) := by
  rintro S w cs x c' y ⟨c0, _, rfl, h0, c1, _, rfl, h1, c2, _, rfl, h2, c3, _, rfl, h3, c4, c5, rfl, h4, h5⟩ h'
  rw [splice_eq (A := c0) (B := c1) (R := c2 ++ c3 ++ c4 ++ c5) (by simp) (by simp [(Rep.len h0 : c0.length = 1)]; rfl) ((Rep.len h1).trans (Rep.len h').symm)]
  exact ⟨c0, _, by simp, h0, c', _, rfl, h', c2, _, rfl, h2, c3, _, rfl, h3, c4, _, rfl, h4, h5⟩
theorem f39_2 : FldOk Try.prog 39 2 2 Board.Sources := ⟨⟨_, _, Try.underlying39, rfl, rfl, ty36⟩, by
  rintro S w cs x ⟨c0, _, rfl, h0, c1, _, rfl, h1, c2, _, rfl, h2, c3, _, rfl, h3, c4, c5, rfl, h4, h5⟩
  exact ⟨c0 ++ c1, c2, c3 ++ c4 ++ c5, by simp, by simp [(Rep.len h0 : c0.length = 1), (Rep.len h1 : c1.length = 1)]; rfl, h2⟩⟩
theorem s39_2 : FldSet (α := Board) (β := (List Source)) 2 (fun x y => { x with Sources := y }) := by
  rintro S w cs x c' y ⟨c0, _, rfl, h0, c1, _, rfl, h1, c2, _, rfl, h2, c3, _, rfl, h3, c4, c5, rfl, h4, h5⟩ h'
  rw [splice_eq (A := c0 ++ c1) (B := c2) (R := c3 ++ c4 ++ c5) (by simp) (by simp [(Rep.len h0 : c0.length = 1), (Rep.len h1 : c1.length = 1)]; rfl) ((Rep.len h2).trans (Rep.len h').symm)]
  exact ⟨c0, _, by simp, h0, c1, _, rfl, h1, c', _, rfl, h', c3, _, rfl, h3, c4, _, rfl, h4, h5⟩
theorem f39_3 : FldOk Try.prog 39 3 3 Board.Consumers := ⟨⟨_, _, Try.underlying39, rfl, rfl, ty37⟩, by
  rintro S w cs x ⟨c0, _, rfl, h0, c1, _, rfl, h1, c2, _, rfl, h2, c3, _, rfl, h3, c4, c5, rfl, h4, h5⟩
  exact ⟨c0 ++ c1 ++ c2, c3, c4 ++ c5, by simp, by simp [(Rep.len h0 : c0.length = 1), (Rep.len h1 : c1.length = 1), (Rep.len h2 : c2.length = 1)]; rfl, h3⟩⟩
theorem s39_3 : FldSet (α := Board) (β := (List Consumer)) 3 (fun x y => { x with Consumers := y }) := by
  rintro S w cs x c' y ⟨c0, _, rfl, h0, c1, _, rfl, h1, c2, _, rfl, h2, c3, _, rfl, h3, c4, c5, rfl, h4, h5⟩ h'
  rw [splice_eq (A := c0 ++ c1 ++ c2) (B := c3) (R := c4 ++ c5) (by simp) (by simp [(Rep.len h0 : c0.length = 1), (Rep.len h1 : c1.length = 1), (Rep.len h2 : c2.length = 1)]; rfl) ((Rep.len h3).trans (Rep.len h').symm)]
  exact ⟨c0, _, by simp, h0, c1, _, rfl, h1, c2, _, rfl, h2, c', _, rfl, h', c4, _, rfl, h4, h5⟩
theorem f39_4 : FldOk Try.prog 39 4 4 Board.Phase := ⟨⟨_, _, Try.underlying39, rfl, rfl, ty3⟩, by
  rintro S w cs x ⟨c0, _, rfl, h0, c1, _, rfl, h1, c2, _, rfl, h2, c3, _, rfl, h3, c4, c5, rfl, h4, h5⟩
  exact ⟨c0 ++ c1 ++ c2 ++ c3, c4, c5, by simp, by simp [(Rep.len h0 : c0.length = 1), (Rep.len h1 : c1.length = 1), (Rep.len h2 : c2.length = 1), (Rep.len h3 : c3.length = 1)]; rfl, h4⟩⟩
theorem s39_4 : FldSet (α := Board) (β := Int) 4 (fun x y => { x with Phase := y }) := by
  rintro S w cs x c' y ⟨c0, _, rfl, h0, c1, _, rfl, h1, c2, _, rfl, h2, c3, _, rfl, h3, c4, c5, rfl, h4, h5⟩ h'
  rw [splice_eq (A := c0 ++ c1 ++ c2 ++ c3) (B := c4) (R := c5) (by simp) (by simp [(Rep.len h0 : c0.length = 1), (Rep.len h1 : c1.length = 1), (Rep.len h2 : c2.length = 1), (Rep.len h3 : c3.length = 1)]; rfl) ((Rep.len h4).trans (Rep.len h').symm)]
  exact ⟨c0, _, by simp, h0, c1, _, rfl, h1, c2, _, rfl, h2, c3, _, rfl, h3, c', _, rfl, h', h5⟩
theorem f39_5 : FldOk Try.prog 39 5 5 Board.Frequency := ⟨⟨_, _, Try.underlying39, rfl, rfl, ty3⟩, by
  rintro S w cs x ⟨c0, _, rfl, h0, c1, _, rfl, h1, c2, _, rfl, h2, c3, _, rfl, h3, c4, c5, rfl, h4, h5⟩
  exact ⟨c0 ++ c1 ++ c2 ++ c3 ++ c4, c5, [], by simp, by simp [(Rep.len h0 : c0.length = 1), (Rep.len h1 : c1.length = 1), (Rep.len h2 : c2.length = 1), (Rep.len h3 : c3.length = 1), (Rep.len h4 : c4.length = 1)]; rfl, h5⟩⟩
theorem s39_5 : FldSet (α := Board) (β := Int) 5 (fun x y => { x with Frequency := y }) := by
  rintro S w cs x c' y ⟨c0, _, rfl, h0, c1, _, rfl, h1, c2, _, rfl, h2, c3, _, rfl, h3, c4, c5, rfl, h4, h5⟩ h'
  rw [splice_eq (A := c0 ++ c1 ++ c2 ++ c3 ++ c4) (B := c5) (R := []) (by simp) (by simp [(Rep.len h0 : c0.length = 1), (Rep.len h1 : c1.length = 1), (Rep.len h2 : c2.length = 1), (Rep.len h3 : c3.length = 1), (Rep.len h4 : c4.length = 1)]; rfl) ((Rep.len h5).trans (Rep.len h').symm)]
  exact ⟨c0, _, by simp, h0, c1, _, rfl, h1, c2, _, rfl, h2, c3, _, rfl, h3, c4, _, rfl, h4, h'⟩
theorem f45_0 : FldOk Try.prog 45 0 0 Power.Closed := ⟨⟨_, _, Try.underlying45, rfl, rfl, ty41⟩, by
  rintro S w cs x ⟨c0, _, rfl, h0, c1, _, rfl, h1, c2, c3, rfl, h2, h3⟩
  exact ⟨[], c0, c1 ++ c2 ++ c3, by simp, by simp, h0⟩⟩
theorem s45_0 : FldSet (α := Power) (β := (List Bool)) 0 (fun x y => { x with Closed := y }) := by
  rintro S w cs x c' y ⟨c0, _, rfl, h0, c1, _, rfl, h1, c2, c3, rfl, h2, h3⟩ h'
  rw [splice_eq (A := []) (B := c0) (R := c1 ++ c2 ++ c3) (by simp) (by simp) ((Rep.len h0).trans (Rep.len h').symm)]
  exact ⟨c', _, by simp, h', c1, _, rfl, h1, c2, _, rfl, h2, h3⟩
theorem f45_1 : FldOk Try.prog 45 1 1 Power.Sources := ⟨⟨_, _, Try.underlying45, rfl, rfl, ty42⟩, by
  rintro S w cs x ⟨c0, _, rfl, h0, c1, _, rfl, h1, c2, c3, rfl, h2, h3⟩
  exact ⟨c0, c1, c2 ++ c3, by simp, by simp [(Rep.len h0 : c0.length = 1)]; rfl, h1⟩⟩
theorem s45_1 : FldSet (α := Power) (β := (List Running)) 1 (fun x y => { x with Sources := y }) := by
  rintro S w cs x c' y ⟨c0, _, rfl, h0, c1, _, rfl, h1, c2, c3, rfl, h2, h3⟩ h'
  rw [splice_eq (A := c0) (B := c1) (R := c2 ++ c3) (by simp) (by simp [(Rep.len h0 : c0.length = 1)]; rfl) ((Rep.len h1).trans (Rep.len h').symm)]
  exact ⟨c0, _, by simp, h0, c', _, rfl, h', c2, _, rfl, h2, h3⟩
theorem f45_2 : FldOk Try.prog 45 2 2 Power.Limits := ⟨⟨_, _, Try.underlying45, rfl, rfl, ty22⟩, by
  rintro S w cs x ⟨c0, _, rfl, h0, c1, _, rfl, h1, c2, c3, rfl, h2, h3⟩
  exact ⟨c0 ++ c1, c2, c3, by simp, by simp [(Rep.len h0 : c0.length = 1), (Rep.len h1 : c1.length = 1)]; rfl, h2⟩⟩
theorem s45_2 : FldSet (α := Power) (β := (List Int)) 2 (fun x y => { x with Limits := y }) := by
  rintro S w cs x c' y ⟨c0, _, rfl, h0, c1, _, rfl, h1, c2, c3, rfl, h2, h3⟩ h'
  rw [splice_eq (A := c0 ++ c1) (B := c2) (R := c3) (by simp) (by simp [(Rep.len h0 : c0.length = 1), (Rep.len h1 : c1.length = 1)]; rfl) ((Rep.len h2).trans (Rep.len h').symm)]
  exact ⟨c0, _, by simp, h0, c1, _, rfl, h1, c', _, rfl, h', h3⟩
theorem f45_3 : FldOk Try.prog 45 3 3 Power.Broken := ⟨⟨_, _, Try.underlying45, rfl, rfl, ty43⟩, by
  rintro S w cs x ⟨c0, _, rfl, h0, c1, _, rfl, h1, c2, c3, rfl, h2, h3⟩
  exact ⟨c0 ++ c1 ++ c2, c3, [], by simp, by simp [(Rep.len h0 : c0.length = 1), (Rep.len h1 : c1.length = 1), (Rep.len h2 : c2.length = 1)]; rfl, h3⟩⟩
theorem s45_3 : FldSet (α := Power) (β := (List Part)) 3 (fun x y => { x with Broken := y }) := by
  rintro S w cs x c' y ⟨c0, _, rfl, h0, c1, _, rfl, h1, c2, c3, rfl, h2, h3⟩ h'
  rw [splice_eq (A := c0 ++ c1 ++ c2) (B := c3) (R := []) (by simp) (by simp [(Rep.len h0 : c0.length = 1), (Rep.len h1 : c1.length = 1), (Rep.len h2 : c2.length = 1)]; rfl) ((Rep.len h3).trans (Rep.len h').symm)]
  exact ⟨c0, _, by simp, h0, c1, _, rfl, h1, c2, _, rfl, h2, h'⟩
theorem f48_0 : FldOk Try.prog 48 0 0 Breaker.Kind := ⟨⟨_, _, Try.underlying48, rfl, rfl, ty3⟩, by
  rintro S w cs x ⟨c0, _, rfl, h0, c1, c2, rfl, h1, h2⟩
  exact ⟨[], c0, c1 ++ c2, by simp, by simp, h0⟩⟩
theorem s48_0 : FldSet (α := Breaker) (β := Int) 0 (fun x y => { x with Kind := y }) := by
  rintro S w cs x c' y ⟨c0, _, rfl, h0, c1, c2, rfl, h1, h2⟩ h'
  rw [splice_eq (A := []) (B := c0) (R := c1 ++ c2) (by simp) (by simp) ((Rep.len h0).trans (Rep.len h').symm)]
  exact ⟨c', _, by simp, h', c1, _, rfl, h1, h2⟩
theorem f48_1 : FldOk Try.prog 48 1 1 Breaker.A := ⟨⟨_, _, Try.underlying48, rfl, rfl, ty3⟩, by
  rintro S w cs x ⟨c0, _, rfl, h0, c1, c2, rfl, h1, h2⟩
  exact ⟨c0, c1, c2, by simp, by simp [(Rep.len h0 : c0.length = 1)]; rfl, h1⟩⟩
theorem s48_1 : FldSet (α := Breaker) (β := Int) 1 (fun x y => { x with A := y }) := by
  rintro S w cs x c' y ⟨c0, _, rfl, h0, c1, c2, rfl, h1, h2⟩ h'
  rw [splice_eq (A := c0) (B := c1) (R := c2) (by simp) (by simp [(Rep.len h0 : c0.length = 1)]; rfl) ((Rep.len h1).trans (Rep.len h').symm)]
  exact ⟨c0, _, by simp, h0, c', _, rfl, h', h2⟩
theorem f48_2 : FldOk Try.prog 48 2 2 Breaker.B := ⟨⟨_, _, Try.underlying48, rfl, rfl, ty3⟩, by
  rintro S w cs x ⟨c0, _, rfl, h0, c1, c2, rfl, h1, h2⟩
  exact ⟨c0 ++ c1, c2, [], by simp, by simp [(Rep.len h0 : c0.length = 1), (Rep.len h1 : c1.length = 1)]; rfl, h2⟩⟩
theorem s48_2 : FldSet (α := Breaker) (β := Int) 2 (fun x y => { x with B := y }) := by
  rintro S w cs x c' y ⟨c0, _, rfl, h0, c1, c2, rfl, h1, h2⟩ h'
  rw [splice_eq (A := c0 ++ c1) (B := c2) (R := []) (by simp) (by simp [(Rep.len h0 : c0.length = 1), (Rep.len h1 : c1.length = 1)]; rfl) ((Rep.len h2).trans (Rep.len h').symm)]
  exact ⟨c0, _, by simp, h0, c1, _, rfl, h1, h'⟩
theorem f53_0 : FldOk Try.prog 53 0 0 Island.Buses := ⟨⟨_, _, Try.underlying53, rfl, rfl, ty22⟩, by
  rintro S w cs x ⟨c0, _, rfl, h0, c1, c2, rfl, h1, h2⟩
  exact ⟨[], c0, c1 ++ c2, by simp, by simp, h0⟩⟩
theorem s53_0 : FldSet (α := Island) (β := (List Int)) 0 (fun x y => { x with Buses := y }) := by
  rintro S w cs x c' y ⟨c0, _, rfl, h0, c1, c2, rfl, h1, h2⟩ h'
  rw [splice_eq (A := []) (B := c0) (R := c1 ++ c2) (by simp) (by simp) ((Rep.len h0).trans (Rep.len h').symm)]
  exact ⟨c', _, by simp, h', c1, _, rfl, h1, h2⟩
theorem f53_1 : FldOk Try.prog 53 1 1 Island.Sources := ⟨⟨_, _, Try.underlying53, rfl, rfl, ty22⟩, by
  rintro S w cs x ⟨c0, _, rfl, h0, c1, c2, rfl, h1, h2⟩
  exact ⟨c0, c1, c2, by simp, by simp [(Rep.len h0 : c0.length = 1)]; rfl, h1⟩⟩
theorem s53_1 : FldSet (α := Island) (β := (List Int)) 1 (fun x y => { x with Sources := y }) := by
  rintro S w cs x c' y ⟨c0, _, rfl, h0, c1, c2, rfl, h1, h2⟩ h'
  rw [splice_eq (A := c0) (B := c1) (R := c2) (by simp) (by simp [(Rep.len h0 : c0.length = 1)]; rfl) ((Rep.len h1).trans (Rep.len h').symm)]
  exact ⟨c0, _, by simp, h0, c', _, rfl, h', h2⟩
theorem f53_2 : FldOk Try.prog 53 2 2 Island.Consumers := ⟨⟨_, _, Try.underlying53, rfl, rfl, ty22⟩, by
  rintro S w cs x ⟨c0, _, rfl, h0, c1, c2, rfl, h1, h2⟩
  exact ⟨c0 ++ c1, c2, [], by simp, by simp [(Rep.len h0 : c0.length = 1), (Rep.len h1 : c1.length = 1)]; rfl, h2⟩⟩
theorem s53_2 : FldSet (α := Island) (β := (List Int)) 2 (fun x y => { x with Consumers := y }) := by
  rintro S w cs x c' y ⟨c0, _, rfl, h0, c1, c2, rfl, h1, h2⟩ h'
  rw [splice_eq (A := c0 ++ c1) (B := c2) (R := []) (by simp) (by simp [(Rep.len h0 : c0.length = 1), (Rep.len h1 : c1.length = 1)]; rfl) ((Rep.len h2).trans (Rep.len h').symm)]
  exact ⟨c0, _, by simp, h0, c1, _, rfl, h1, h'⟩
theorem f64_0 : FldOk Try.prog 64 0 0 Running.State := ⟨⟨_, _, Try.underlying64, rfl, rfl, ty3⟩, by
  rintro S w cs x ⟨c0, _, rfl, h0, c1, _, rfl, h1, c2, c3, rfl, h2, h3⟩
  exact ⟨[], c0, c1 ++ c2 ++ c3, by simp, by simp, h0⟩⟩
theorem s64_0 : FldSet (α := Running) (β := Int) 0 (fun x y => { x with State := y }) := by
  rintro S w cs x c' y ⟨c0, _, rfl, h0, c1, _, rfl, h1, c2, c3, rfl, h2, h3⟩ h'
  rw [splice_eq (A := []) (B := c0) (R := c1 ++ c2 ++ c3) (by simp) (by simp) ((Rep.len h0).trans (Rep.len h').symm)]
  exact ⟨c', _, by simp, h', c1, _, rfl, h1, c2, _, rfl, h2, h3⟩
theorem f64_1 : FldOk Try.prog 64 1 1 Running.Since := ⟨⟨_, _, Try.underlying64, rfl, rfl, ty3⟩, by
  rintro S w cs x ⟨c0, _, rfl, h0, c1, _, rfl, h1, c2, c3, rfl, h2, h3⟩
  exact ⟨c0, c1, c2 ++ c3, by simp, by simp [(Rep.len h0 : c0.length = 1)]; rfl, h1⟩⟩
theorem s64_1 : FldSet (α := Running) (β := Int) 1 (fun x y => { x with Since := y }) := by
  rintro S w cs x c' y ⟨c0, _, rfl, h0, c1, _, rfl, h1, c2, c3, rfl, h2, h3⟩ h'
  rw [splice_eq (A := c0) (B := c1) (R := c2 ++ c3) (by simp) (by simp [(Rep.len h0 : c0.length = 1)]; rfl) ((Rep.len h1).trans (Rep.len h').symm)]
  exact ⟨c0, _, by simp, h0, c', _, rfl, h', c2, _, rfl, h2, h3⟩
theorem f64_2 : FldOk Try.prog 64 2 2 Running.Frequency := ⟨⟨_, _, Try.underlying64, rfl, rfl, ty3⟩, by
  rintro S w cs x ⟨c0, _, rfl, h0, c1, _, rfl, h1, c2, c3, rfl, h2, h3⟩
  exact ⟨c0 ++ c1, c2, c3, by simp, by simp [(Rep.len h0 : c0.length = 1), (Rep.len h1 : c1.length = 1)]; rfl, h2⟩⟩
theorem s64_2 : FldSet (α := Running) (β := Int) 2 (fun x y => { x with Frequency := y }) := by
  rintro S w cs x c' y ⟨c0, _, rfl, h0, c1, _, rfl, h1, c2, c3, rfl, h2, h3⟩ h'
  rw [splice_eq (A := c0 ++ c1) (B := c2) (R := c3) (by simp) (by simp [(Rep.len h0 : c0.length = 1), (Rep.len h1 : c1.length = 1)]; rfl) ((Rep.len h2).trans (Rep.len h').symm)]
  exact ⟨c0, _, by simp, h0, c1, _, rfl, h1, c', _, rfl, h', h3⟩
theorem f64_3 : FldOk Try.prog 64 3 3 Running.Phase := ⟨⟨_, _, Try.underlying64, rfl, rfl, ty3⟩, by
  rintro S w cs x ⟨c0, _, rfl, h0, c1, _, rfl, h1, c2, c3, rfl, h2, h3⟩
  exact ⟨c0 ++ c1 ++ c2, c3, [], by simp, by simp [(Rep.len h0 : c0.length = 1), (Rep.len h1 : c1.length = 1), (Rep.len h2 : c2.length = 1)]; rfl, h3⟩⟩
theorem s64_3 : FldSet (α := Running) (β := Int) 3 (fun x y => { x with Phase := y }) := by
  rintro S w cs x c' y ⟨c0, _, rfl, h0, c1, _, rfl, h1, c2, c3, rfl, h2, h3⟩ h'
  rw [splice_eq (A := c0 ++ c1 ++ c2) (B := c3) (R := []) (by simp) (by simp [(Rep.len h0 : c0.length = 1), (Rep.len h1 : c1.length = 1), (Rep.len h2 : c2.length = 1)]; rfl) ((Rep.len h3).trans (Rep.len h').symm)]
  exact ⟨c0, _, by simp, h0, c1, _, rfl, h1, c2, _, rfl, h2, h'⟩
theorem f66_0 : FldOk Try.prog 66 0 0 Part.Kind := ⟨⟨_, _, Try.underlying66, rfl, rfl, ty3⟩, by
  rintro S w cs x ⟨c0, c1, rfl, h0, h1⟩
  exact ⟨[], c0, c1, by simp, by simp, h0⟩⟩
theorem s66_0 : FldSet (α := Part) (β := Int) 0 (fun x y => { x with Kind := y }) := by
  rintro S w cs x c' y ⟨c0, c1, rfl, h0, h1⟩ h'
  rw [splice_eq (A := []) (B := c0) (R := c1) (by simp) (by simp) ((Rep.len h0).trans (Rep.len h').symm)]
  exact ⟨c', _, by simp, h', h1⟩
theorem f66_1 : FldOk Try.prog 66 1 1 Part.Number := ⟨⟨_, _, Try.underlying66, rfl, rfl, ty3⟩, by
  rintro S w cs x ⟨c0, c1, rfl, h0, h1⟩
  exact ⟨c0, c1, [], by simp, by simp [(Rep.len h0 : c0.length = 1)]; rfl, h1⟩⟩
theorem s66_1 : FldSet (α := Part) (β := Int) 1 (fun x y => { x with Number := y }) := by
  rintro S w cs x c' y ⟨c0, c1, rfl, h0, h1⟩ h'
  rw [splice_eq (A := c0) (B := c1) (R := []) (by simp) (by simp [(Rep.len h0 : c0.length = 1)]; rfl) ((Rep.len h1).trans (Rep.len h').symm)]
  exact ⟨c0, _, by simp, h0, h'⟩
theorem f77_0 : FldOk Try.prog 77 0 0 Src.L := ⟨⟨_, _, Try.underlying77, rfl, rfl, ty22⟩, by
  rintro S w cs x ⟨c0, c1, rfl, h0, h1⟩
  exact ⟨[], c0, c1, by simp, by simp, h0⟩⟩
theorem s77_0 : FldSet (α := Src) (β := (List Int)) 0 (fun x y => { x with L := y }) := by
  rintro S w cs x c' y ⟨c0, c1, rfl, h0, h1⟩ h'
  rw [splice_eq (A := []) (B := c0) (R := c1) (by simp) (by simp) ((Rep.len h0).trans (Rep.len h').symm)]
  exact ⟨c', _, by simp, h', h1⟩
theorem f77_1 : FldOk Try.prog 77 1 1 Src.At := ⟨⟨_, _, Try.underlying77, rfl, rfl, ty3⟩, by
  rintro S w cs x ⟨c0, c1, rfl, h0, h1⟩
  exact ⟨c0, c1, [], by simp, by simp [(Rep.len h0 : c0.length = 1)]; rfl, h1⟩⟩
theorem s77_1 : FldSet (α := Src) (β := Int) 1 (fun x y => { x with At := y }) := by
  rintro S w cs x c' y ⟨c0, c1, rfl, h0, h1⟩ h'
  rw [splice_eq (A := c0) (B := c1) (R := []) (by simp) (by simp [(Rep.len h0 : c0.length = 1)]; rfl) ((Rep.len h1).trans (Rep.len h').symm)]
  exact ⟨c0, _, by simp, h0, h'⟩
theorem f83_0 : FldOk Try.prog 83 0 0 Source.Rating := ⟨⟨_, _, Try.underlying83, rfl, rfl, ty3⟩, by
  rintro S w cs x ⟨c0, _, rfl, h0, c1, c2, rfl, h1, h2⟩
  exact ⟨[], c0, c1 ++ c2, by simp, by simp, h0⟩⟩
theorem s83_0 : FldSet (α := Source) (β := Int) 0 (fun x y => { x with Rating := y }) := by
  rintro S w cs x c' y ⟨c0, _, rfl, h0, c1, c2, rfl, h1, h2⟩ h'
  rw [splice_eq (A := []) (B := c0) (R := c1 ++ c2) (by simp) (by simp) ((Rep.len h0).trans (Rep.len h').symm)]
  exact ⟨c', _, by simp, h', c1, _, rfl, h1, h2⟩
theorem f83_1 : FldOk Try.prog 83 1 1 Source.Least := ⟨⟨_, _, Try.underlying83, rfl, rfl, ty3⟩, by
  rintro S w cs x ⟨c0, _, rfl, h0, c1, c2, rfl, h1, h2⟩
  exact ⟨c0, c1, c2, by simp, by simp [(Rep.len h0 : c0.length = 1)]; rfl, h1⟩⟩
theorem s83_1 : FldSet (α := Source) (β := Int) 1 (fun x y => { x with Least := y }) := by
  rintro S w cs x c' y ⟨c0, _, rfl, h0, c1, c2, rfl, h1, h2⟩ h'
  rw [splice_eq (A := c0) (B := c1) (R := c2) (by simp) (by simp [(Rep.len h0 : c0.length = 1)]; rfl) ((Rep.len h1).trans (Rep.len h').symm)]
  exact ⟨c0, _, by simp, h0, c', _, rfl, h', h2⟩
theorem f83_2 : FldOk Try.prog 83 2 2 Source.Start := ⟨⟨_, _, Try.underlying83, rfl, rfl, ty3⟩, by
  rintro S w cs x ⟨c0, _, rfl, h0, c1, c2, rfl, h1, h2⟩
  exact ⟨c0 ++ c1, c2, [], by simp, by simp [(Rep.len h0 : c0.length = 1), (Rep.len h1 : c1.length = 1)]; rfl, h2⟩⟩
theorem s83_2 : FldSet (α := Source) (β := Int) 2 (fun x y => { x with Start := y }) := by
  rintro S w cs x c' y ⟨c0, _, rfl, h0, c1, c2, rfl, h1, h2⟩ h'
  rw [splice_eq (A := c0 ++ c1) (B := c2) (R := []) (by simp) (by simp [(Rep.len h0 : c0.length = 1), (Rep.len h1 : c1.length = 1)]; rfl) ((Rep.len h2).trans (Rep.len h').symm)]
  exact ⟨c0, _, by simp, h0, c1, _, rfl, h1, h'⟩
theorem f85_0 : FldOk Try.prog 85 0 0 Consumer.Load := ⟨⟨_, _, Try.underlying85, rfl, rfl, ty3⟩, by
  rintro S w cs x ⟨c0, _, rfl, h0, c1, _, rfl, h1, c2, _, rfl, h2, c3, c4, rfl, h3, h4⟩
  exact ⟨[], c0, c1 ++ c2 ++ c3 ++ c4, by simp, by simp, h0⟩⟩
theorem s85_0 : FldSet (α := Consumer) (β := Int) 0 (fun x y => { x with Load := y }) := by
  rintro S w cs x c' y ⟨c0, _, rfl, h0, c1, _, rfl, h1, c2, _, rfl, h2, c3, c4, rfl, h3, h4⟩ h'
  rw [splice_eq (A := []) (B := c0) (R := c1 ++ c2 ++ c3 ++ c4) (by simp) (by simp) ((Rep.len h0).trans (Rep.len h').symm)]
  exact ⟨c', _, by simp, h', c1, _, rfl, h1, c2, _, rfl, h2, c3, _, rfl, h3, h4⟩
theorem f85_1 : FldOk Try.prog 85 1 1 Consumer.Least := ⟨⟨_, _, Try.underlying85, rfl, rfl, ty3⟩, by
  rintro S w cs x ⟨c0, _, rfl, h0, c1, _, rfl, h1, c2, _, rfl, h2, c3, c4, rfl, h3, h4⟩
  exact ⟨c0, c1, c2 ++ c3 ++ c4, by simp, by simp [(Rep.len h0 : c0.length = 1)]; rfl, h1⟩⟩
theorem s85_1 : FldSet (α := Consumer) (β := Int) 1 (fun x y => { x with Least := y }) := by
  rintro S w cs x c' y ⟨c0, _, rfl, h0, c1, _, rfl, h1, c2, _, rfl, h2, c3, c4, rfl, h3, h4⟩ h'
  rw [splice_eq (A := c0) (B := c1) (R := c2 ++ c3 ++ c4) (by simp) (by simp [(Rep.len h0 : c0.length = 1)]; rfl) ((Rep.len h1).trans (Rep.len h').symm)]
  exact ⟨c0, _, by simp, h0, c', _, rfl, h', c2, _, rfl, h2, c3, _, rfl, h3, h4⟩
theorem f85_2 : FldOk Try.prog 85 2 2 Consumer.Preference := ⟨⟨_, _, Try.underlying85, rfl, rfl, ty3⟩, by
  rintro S w cs x ⟨c0, _, rfl, h0, c1, _, rfl, h1, c2, _, rfl, h2, c3, c4, rfl, h3, h4⟩
  exact ⟨c0 ++ c1, c2, c3 ++ c4, by simp, by simp [(Rep.len h0 : c0.length = 1), (Rep.len h1 : c1.length = 1)]; rfl, h2⟩⟩
theorem s85_2 : FldSet (α := Consumer) (β := Int) 2 (fun x y => { x with Preference := y }) := by
  rintro S w cs x c' y ⟨c0, _, rfl, h0, c1, _, rfl, h1, c2, _, rfl, h2, c3, c4, rfl, h3, h4⟩ h'
  rw [splice_eq (A := c0 ++ c1) (B := c2) (R := c3 ++ c4) (by simp) (by simp [(Rep.len h0 : c0.length = 1), (Rep.len h1 : c1.length = 1)]; rfl) ((Rep.len h2).trans (Rep.len h').symm)]
  exact ⟨c0, _, by simp, h0, c1, _, rfl, h1, c', _, rfl, h', c3, _, rfl, h3, h4⟩
theorem f85_3 : FldOk Try.prog 85 3 3 Consumer.Thruster := ⟨⟨_, _, Try.underlying85, rfl, rfl, ty3⟩, by
  rintro S w cs x ⟨c0, _, rfl, h0, c1, _, rfl, h1, c2, _, rfl, h2, c3, c4, rfl, h3, h4⟩
  exact ⟨c0 ++ c1 ++ c2, c3, c4, by simp, by simp [(Rep.len h0 : c0.length = 1), (Rep.len h1 : c1.length = 1), (Rep.len h2 : c2.length = 1)]; rfl, h3⟩⟩
theorem s85_3 : FldSet (α := Consumer) (β := Int) 3 (fun x y => { x with Thruster := y }) := by
  rintro S w cs x c' y ⟨c0, _, rfl, h0, c1, _, rfl, h1, c2, _, rfl, h2, c3, c4, rfl, h3, h4⟩ h'
  rw [splice_eq (A := c0 ++ c1 ++ c2) (B := c3) (R := c4) (by simp) (by simp [(Rep.len h0 : c0.length = 1), (Rep.len h1 : c1.length = 1), (Rep.len h2 : c2.length = 1)]; rfl) ((Rep.len h3).trans (Rep.len h').symm)]
  exact ⟨c0, _, by simp, h0, c1, _, rfl, h1, c2, _, rfl, h2, c', _, rfl, h', h4⟩
theorem f85_4 : FldOk Try.prog 85 4 4 Consumer.Needs := ⟨⟨_, _, Try.underlying85, rfl, rfl, ty22⟩, by
  rintro S w cs x ⟨c0, _, rfl, h0, c1, _, rfl, h1, c2, _, rfl, h2, c3, c4, rfl, h3, h4⟩
  exact ⟨c0 ++ c1 ++ c2 ++ c3, c4, [], by simp, by simp [(Rep.len h0 : c0.length = 1), (Rep.len h1 : c1.length = 1), (Rep.len h2 : c2.length = 1), (Rep.len h3 : c3.length = 1)]; rfl, h4⟩⟩
theorem s85_4 : FldSet (α := Consumer) (β := (List Int)) 4 (fun x y => { x with Needs := y }) := by
  rintro S w cs x c' y ⟨c0, _, rfl, h0, c1, _, rfl, h1, c2, _, rfl, h2, c3, c4, rfl, h3, h4⟩ h'
  rw [splice_eq (A := c0 ++ c1 ++ c2 ++ c3) (B := c4) (R := []) (by simp) (by simp [(Rep.len h0 : c0.length = 1), (Rep.len h1 : c1.length = 1), (Rep.len h2 : c2.length = 1), (Rep.len h3 : c3.length = 1)]; rfl) ((Rep.len h4).trans (Rep.len h').symm)]
  exact ⟨c0, _, by simp, h0, c1, _, rfl, h1, c2, _, rfl, h2, c3, _, rfl, h3, h'⟩
end Go.Proofs.Ytnpghnnlcakbfaa
