/- Walks. Written by a program (wip/gen). -/
import Derived.Test.YtnpghnnlcakbfaaWk1
namespace Go.Proofs.Ytnpghnnlcakbfaa
open Go Go.RowKit Dp

set_option maxRecDepth 100000

set_option maxHeartbeats 1000000 in
theorem slices_swapRangeCmpFunc_int_ok {a0 : (List Int)} {a1 : Int} {a2 : Int} {a3 : Int} {f4 : (Int → Int → Option Int)} {r : (List Int)} (hF : slices_swapRangeCmpFunc_int a0 a1 a2 a3 f4 = some r) {w0 : World} {p0 : Value} {db : Nat} (g0 : OwD 3 db w0 p0 a0) {q4 : FuncId} {z4 : Array Value} (m4 : Fn2 Try.prog q4 z4 (fun w => w0.grownBy w (some db)) f4) :
    Calls Try.prog 92 #[p0, .int .i64 a1, .int .i64 a2, .int .i64 a3, .func (.func q4) #[] z4] w0 (Ret fun v w' => w0.grownBy w' (some db) ∧ OwD 3 db w' p0 r) := by cases hF

set_option maxHeartbeats 1000000 in
theorem slices_rotateCmpFunc_int_ok {a0 : (List Int)} {a1 : Int} {a2 : Int} {a3 : Int} {f4 : (Int → Int → Option Int)} {r : (List Int)} (hF : slices_rotateCmpFunc_int a0 a1 a2 a3 f4 = some r) {w0 : World} {p0 : Value} {db : Nat} (g0 : OwD 3 db w0 p0 a0) {q4 : FuncId} {z4 : Array Value} (m4 : Fn2 Try.prog q4 z4 (fun w => w0.grownBy w (some db)) f4) :
    Calls Try.prog 91 #[p0, .int .i64 a1, .int .i64 a2, .int .i64 a3, .func (.func q4) #[] z4] w0 (Ret fun v w' => w0.grownBy w' (some db) ∧ OwD 3 db w' p0 r) := by cases hF

set_option maxHeartbeats 1000000 in
theorem slices_symMergeCmpFunc_int_ok {a0 : (List Int)} {a1 : Int} {a2 : Int} {a3 : Int} {f4 : (Int → Int → Option Int)} {r : (List Int)} (hF : slices_symMergeCmpFunc_int a0 a1 a2 a3 f4 = some r) {w0 : World} {p0 : Value} {db : Nat} (g0 : OwD 3 db w0 p0 a0) {q4 : FuncId} {z4 : Array Value} (m4 : Fn2 Try.prog q4 z4 (fun w => w0.grownBy w (some db)) f4) :
    Calls Try.prog 88 #[p0, .int .i64 a1, .int .i64 a2, .int .i64 a3, .func (.func q4) #[] z4] w0 (Ret fun v w' => w0.grownBy w' (some db) ∧ OwD 3 db w' p0 r) := by cases hF

set_option maxHeartbeats 1000000 in
theorem slices_stableCmpFunc_int_ok {a0 : (List Int)} {a1 : Int} {f2 : (Int → Int → Option Int)} {r : (List Int)} (hF : slices_stableCmpFunc_int a0 a1 f2 = some r) {w0 : World} {p0 : Value} {db : Nat} (g0 : OwD 3 db w0 p0 a0) {q2 : FuncId} {z2 : Array Value} (m2 : Fn2 Try.prog q2 z2 (fun w => w0.grownBy w (some db)) f2) :
    Calls Try.prog 76 #[p0, .int .i64 a1, .func (.func q2) #[] z2] w0 (Ret fun v w' => w0.grownBy w' (some db) ∧ OwD 3 db w' p0 r) := by
  have hE := Ent.refl w0 (some db)
  have g0 := OwD.in g0
  rw [slices_stableCmpFunc_int] at hF
  refine enter (l := [p0, .int .i64 a1, .func (.func q2) #[] z2]) Try.func76 rfl Try.ntmps76 rfl ?_
  refine CW.sub (L' := [(0, p0), (1, .int .i64 a1), (2, .func (.func q2) #[] z2)]) ⟨rfl, rfl, rfl, trivial⟩ ?_
  refine CW.tail fun K_ hK_ => ?_
  refine CW.seq fun K1 hK1 => ?_
  refine CW.region ?_
  refine WL.stepE (OW.pv (v := .int .i64 20) rfl) rfl ?_
  refine WL.nil ?_
  refine NK.sub (L' := [(0, p0), (1, .int .i64 a1), (2, .func (.func q2) #[] z2), (6, .int .i64 20)]) ⟨rfl, rfl, rfl, rfl, trivial⟩ ?_
  refine hK1 _ _ ?_
  refine CW.seq fun K2 hK2 => ?_
  refine CW.region ?_
  refine WL.stepE (OW.pv (v := .int .i64 20) rfl) rfl ?_
  refine WL.stepE (OW.pv (v := .int .i64 0) rfl) rfl ?_
  refine WL.stepE (OW.pv (v := .int .i64 20) rfl) rfl ?_
  refine WL.nil ?_
  refine NK.sub (L' := [(0, p0), (1, .int .i64 a1), (2, .func (.func q2) #[] z2), (6, .int .i64 20), (7, .int .i64 0), (8, .int .i64 20)]) ⟨rfl, rfl, rfl, rfl, rfl, rfl, trivial⟩ ?_
  refine hK2 _ _ ?_
  refine CW.seq fun K3 hK3 => ?_
  refine CW.block ?_
  obtain ⟨r14, hl13, hF⟩ := bindE hF
  have hJ17 : ∀ (x9 : (List Int)) (x12 : Int) (w15 : World) (o16 : Cls), (x9, x12) = r14 → Ent w0 (some db) o16 w15 → Ow 3 o16 1 [] w15 p0 x9 → NK 63 K3 [(0, p0), (1, .int .i64 a1), (2, .func (.func q2) #[] z2), (6, .int .i64 20), (7, .int .i64 x12)] w15 := by
    intro x9 x12 w15 o16  e_ hE h11
    subst e_
    try dsimp only at hF
    refine NK.sub (L' := [(0, p0), (1, .int .i64 a1), (2, .func (.func q2) #[] z2), (6, .int .i64 20), (7, .int .i64 x12)]) ⟨rfl, rfl, rfl, rfl, rfl, trivial⟩ ?_
    refine hK3 _ _ ?_
    refine CW.seq fun K18 hK18 => ?_
    refine CW.region ?_
    refine WL.stepE (OW.pv (v := p0) rfl) rfl ?_
    refine WL.stepE (OW.pv (v := .int .i64 x12) rfl) rfl ?_
    refine WL.stepE (OW.pv (v := .int .i64 a1) rfl) rfl ?_
    refine WL.stepE (OW.pv (v := .func (.func q2) #[] z2) rfl) rfl ?_
    obtain ⟨db19, hd20, hk21, hv22⟩ := Ow.handed h11
    obtain ⟨y23, q24, hF⟩ := bindE hF
    refine WL.step (OW.call Try.call87 rfl (slices_insertionSortCmpFunc_int_ok q24 hd20 (m2.mono fun _ h_ => hE.handed hk21 rfl h_))) rfl ?_
    rintro _ w25 ⟨hb29, h30⟩
    obtain ⟨o26, ev27, hn28⟩ := handed_new 3 hk21 hb29
    have h30 := handed_back hk21 hv22 ev27 h30
    have hE := hE.evo ev27 rfl rfl
    refine WL.nil ?_
    refine NK.sub (L' := [(0, p0), (1, .int .i64 a1), (2, .func (.func q2) #[] z2), (6, .int .i64 20)]) ⟨rfl, rfl, rfl, rfl, trivial⟩ ?_
    refine hK18 _ _ ?_
    refine CW.block ?_
    obtain ⟨r39, hl38, hF⟩ := bindE hF
    have hJ42 : ∀ (x35 : (List Int)) (w40 : World) (o41 : Cls), x35 = r39 → Ent w0 (some db) o41 w40 → Ow 3 o41 1 [] w40 p0 x35 → NK 63 K_ [(0, p0)] w40 := by
      intro x35 w40 o41  e_ hE h37
      subst e_
      try dsimp only at hF
      obtain rfl := Option.some.inj hF
      exact hK_ _ _ (NK.fall Try.results76 ⟨_, rfl, hE.but, OwD.out h37 hE⟩)
    refine CW.sub (L' := [(0, p0), (1, .int .i64 a1), (2, .func (.func q2) #[] z2), (6, .int .i64 20)]) ⟨rfl, rfl, rfl, rfl, trivial⟩ ?_
    refine CW.loop (slices_stableCmpFunc_int_L2 a1 f2) (fun s_ L_ w43 => ∃ (o44 : Cls) (x31 : (List Int)) (x34 : Int), (x31, x34) = s_ ∧ L_ = [(0, p0), (1, .int .i64 a1), (2, .func (.func q2) #[] z2), (6, .int .i64 x34)] ∧ Ent w0 (some db) o44 w43 ∧ Ow 3 o44 1 [] w43 p0 x31) hl38 ?_ ?_
    · exact ⟨o26, y23, 20, rfl, rfl, hE, h30⟩
    intro K45 s_ L_ w43 hi_ x46 hx47 hr48 hk49
    obtain ⟨o44, x31, x34, rfl, rfl, hE, h33⟩ := hi_
    rw [slices_stableCmpFunc_int_L2] at hx47
    refine CW.seq fun K50 hK50 => ?_
    refine CW.seq fun K51 hK51 => ?_
    refine CW.region ?_
    refine WL.stepE (OW.pv (v := .int .i64 x34) rfl) rfl ?_
    refine WL.stepE (OW.pv (v := .int .i64 a1) rfl) rfl ?_
    refine WL.stepE (OW.pv (v := .bool ((decide (x34 < a1)))) rfl) rfl ?_
    refine WL.nil ?_
    refine NK.sub (L' := [(0, p0), (1, .int .i64 a1), (2, .func (.func q2) #[] z2), (6, .int .i64 x34), (30, .bool ((decide (x34 < a1))))]) ⟨rfl, rfl, rfl, rfl, rfl, trivial⟩ ?_
    refine hK51 _ _ ?_
    refine CW.cond (b := (decide (x34 < a1))) rfl (fun hc52 => ?_) (fun hc52 => ?_)
    · have hx47 := iteT hc52 hx47
      refine CW.skip ?_
      refine NK.sub (L' := [(0, p0), (1, .int .i64 a1), (2, .func (.func q2) #[] z2), (6, .int .i64 x34)]) ⟨rfl, rfl, rfl, rfl, trivial⟩ ?_
      refine hK50 _ _ ?_
      refine CW.block ?_
      refine CW.seq fun K53 hK53 => ?_
      refine CW.region ?_
      refine WL.stepE (OW.pv (v := .int .i64 x34) rfl) rfl ?_
      refine WL.stepE (OW.pv (v := .int .i64 ((W ((2 : Int) * x34)))) rfl) rfl ?_
      refine WL.stepE (OW.pv (v := .int .i64 0) rfl) rfl ?_
      refine WL.stepE (OW.pv (v := .int .i64 ((W ((2 : Int) * x34)))) rfl) rfl ?_
      refine WL.nil ?_
      refine NK.sub (L' := [(0, p0), (1, .int .i64 a1), (2, .func (.func q2) #[] z2), (6, .int .i64 x34), (7, .int .i64 0), (8, .int .i64 ((W ((2 : Int) * x34))))]) ⟨rfl, rfl, rfl, rfl, rfl, rfl, trivial⟩ ?_
      refine hK53 _ _ ?_
      refine CW.seq fun K54 hK54 => ?_
      refine CW.block ?_
      obtain ⟨r65, hl64, hx47⟩ := bindE hx47
      have hJ68 : ∀ (x60 : (List Int)) (x63 : Int) (w66 : World) (o67 : Cls), (x60, x63) = r65 → Ent w0 (some db) o67 w66 → Ow 3 o67 1 [] w66 p0 x60 → NK 63 K54 [(0, p0), (1, .int .i64 a1), (2, .func (.func q2) #[] z2), (6, .int .i64 x34), (7, .int .i64 x63)] w66 := by
        intro x60 x63 w66 o67  e_ hE h62
        subst e_
        try dsimp only at hx47
        refine NK.sub (L' := [(0, p0), (1, .int .i64 a1), (2, .func (.func q2) #[] z2), (6, .int .i64 x34), (7, .int .i64 x63)]) ⟨rfl, rfl, rfl, rfl, rfl, trivial⟩ ?_
        refine hK54 _ _ ?_
        refine CW.seq fun K69 hK69 => ?_
        refine CW.seq fun K70 hK70 => ?_
        refine CW.region ?_
        refine WL.stepE (OW.pv (v := .int .i64 x63) rfl) rfl ?_
        refine WL.stepE (OW.pv (v := .int .i64 x34) rfl) rfl ?_
        refine WL.stepE (OW.pv (v := .int .i64 ((W (x63 + x34)))) rfl) rfl ?_
        refine WL.stepE (OW.pv (v := .int .i64 ((W (x63 + x34)))) rfl) rfl ?_
        refine WL.nil ?_
        refine NK.sub (L' := [(0, p0), (1, .int .i64 a1), (2, .func (.func q2) #[] z2), (6, .int .i64 x34), (7, .int .i64 x63), (9, .int .i64 ((W (x63 + x34))))]) ⟨rfl, rfl, rfl, rfl, rfl, rfl, trivial⟩ ?_
        refine hK70 _ _ ?_
        refine CW.seq fun K71 hK71 => ?_
        refine CW.region ?_
        refine WL.stepE (OW.pv (v := .int .i64 ((W (x63 + x34)))) rfl) rfl ?_
        refine WL.stepE (OW.pv (v := .int .i64 a1) rfl) rfl ?_
        refine WL.stepE (OW.pv (v := .bool ((decide (((W (x63 + x34))) < a1)))) rfl) rfl ?_
        refine WL.nil ?_
        refine NK.sub (L' := [(0, p0), (1, .int .i64 a1), (2, .func (.func q2) #[] z2), (6, .int .i64 x34), (7, .int .i64 x63), (9, .int .i64 ((W (x63 + x34)))), (54, .bool ((decide (((W (x63 + x34))) < a1))))]) ⟨rfl, rfl, rfl, rfl, rfl, rfl, rfl, trivial⟩ ?_
        refine hK71 _ _ ?_
        obtain ⟨x72, q75, hx47⟩ := bindE hx47
        have hJ78 : ∀ (w76 : World) (o77 : Cls), Ent w0 (some db) o77 w76 → Ow 3 o77 1 [] w76 p0 x72 → NK 63 K69 [(0, p0), (1, .int .i64 a1), (2, .func (.func q2) #[] z2), (6, .int .i64 x34)] w76 := by
          intro w76 o77  hE h74
          refine NK.sub (L' := [(0, p0), (1, .int .i64 a1), (2, .func (.func q2) #[] z2), (6, .int .i64 x34)]) ⟨rfl, rfl, rfl, rfl, trivial⟩ ?_
          refine hK69 _ _ ?_
          refine CW.region ?_
          refine WL.stepE (OW.pv (v := .int .i64 x34) rfl) rfl ?_
          refine WL.stepE (OW.pv (v := .int .i64 ((W (x34 * 2)))) rfl) rfl ?_
          refine WL.stepE (OW.pv (v := .int .i64 ((W (x34 * 2)))) rfl) rfl ?_
          refine WL.nil ?_
          exact NK.sub (L' := [(0, p0), (1, .int .i64 a1), (2, .func (.func q2) #[] z2), (6, .int .i64 ((W (x34 * 2))))]) ⟨rfl, rfl, rfl, rfl, trivial⟩ (hk49 _ _ _ (Option.some.inj hx47).symm ⟨o77, x72, (W (x34 * 2)), rfl, rfl, hE, h74⟩)
        refine CW.cond (b := (decide (((W (x63 + x34))) < a1))) rfl (fun hc79 => ?_) (fun hc79 => ?_)
        · have q75 := iteT hc79 q75
          refine CW.region ?_
          refine WL.stepE (OW.pv (v := p0) rfl) rfl ?_
          refine WL.stepE (OW.pv (v := .int .i64 x63) rfl) rfl ?_
          refine WL.stepE (OW.pv (v := .int .i64 ((W (x63 + x34)))) rfl) rfl ?_
          refine WL.stepE (OW.pv (v := .int .i64 a1) rfl) rfl ?_
          refine WL.stepE (OW.pv (v := .func (.func q2) #[] z2) rfl) rfl ?_
          obtain ⟨db80, hd81, hk82, hv83⟩ := Ow.handed h62
          obtain ⟨y84, q85, q75⟩ := bindE q75
          refine WL.step (OW.call Try.call88 rfl (slices_symMergeCmpFunc_int_ok q85 hd81 (m2.mono fun _ h_ => hE.handed hk82 rfl h_))) rfl ?_
          rintro _ w86 ⟨hb90, h91⟩
          obtain ⟨o87, ev88, hn89⟩ := handed_new 5 hk82 hb90
          have h91 := handed_back hk82 hv83 ev88 h91
          have hE := hE.evo ev88 rfl rfl
          refine WL.nil ?_
          have e92 := Option.some.inj q75
          subst e92
          exact NK.sub (L' := [(0, p0), (1, .int .i64 a1), (2, .func (.func q2) #[] z2), (6, .int .i64 x34)]) ⟨rfl, rfl, rfl, rfl, trivial⟩ (hJ78 w86 o87 hE h91)
        · have q75 := iteF hc79 q75
          refine CW.skip ?_
          have e93 := Option.some.inj q75
          subst e93
          exact NK.sub (L' := [(0, p0), (1, .int .i64 a1), (2, .func (.func q2) #[] z2), (6, .int .i64 x34)]) ⟨rfl, rfl, rfl, rfl, trivial⟩ (hJ78 w66 o67 hE h62)
      refine CW.sub (L' := [(0, p0), (1, .int .i64 a1), (2, .func (.func q2) #[] z2), (6, .int .i64 x34), (7, .int .i64 0), (8, .int .i64 ((W ((2 : Int) * x34))))]) ⟨rfl, rfl, rfl, rfl, rfl, rfl, trivial⟩ ?_
      refine CW.loop (slices_stableCmpFunc_int_L3 a1 f2 x34) (fun s_ L_ w94 => ∃ (o95 : Cls) (x55 : (List Int)) (x58 : Int) (x59 : Int), (x55, x58, x59) = s_ ∧ L_ = [(0, p0), (1, .int .i64 a1), (2, .func (.func q2) #[] z2), (6, .int .i64 x34), (7, .int .i64 x58), (8, .int .i64 x59)] ∧ Ent w0 (some db) o95 w94 ∧ Ow 3 o95 1 [] w94 p0 x55) hl64 ?_ ?_
      · exact ⟨o44, x31, 0, (W ((2 : Int) * x34)), rfl, rfl, hE, h33⟩
      intro K96 s_ L_ w94 hi_ x97 hx98 hr99 hk100
      obtain ⟨o95, x55, x58, x59, rfl, rfl, hE, h57⟩ := hi_
      rw [slices_stableCmpFunc_int_L3] at hx98
      refine CW.seq fun K101 hK101 => ?_
      refine CW.seq fun K102 hK102 => ?_
      refine CW.region ?_
      refine WL.stepE (OW.pv (v := .int .i64 x59) rfl) rfl ?_
      refine WL.stepE (OW.pv (v := .int .i64 a1) rfl) rfl ?_
      refine WL.stepE (OW.pv (v := .bool ((decide (x59 ≤ a1)))) rfl) rfl ?_
      refine WL.nil ?_
      refine NK.sub (L' := [(0, p0), (1, .int .i64 a1), (2, .func (.func q2) #[] z2), (6, .int .i64 x34), (7, .int .i64 x58), (8, .int .i64 x59), (35, .bool ((decide (x59 ≤ a1))))]) ⟨rfl, rfl, rfl, rfl, rfl, rfl, rfl, trivial⟩ ?_
      refine hK102 _ _ ?_
      refine CW.cond (b := (decide (x59 ≤ a1))) rfl (fun hc103 => ?_) (fun hc103 => ?_)
      · have hx98 := iteT hc103 hx98
        refine CW.skip ?_
        refine NK.sub (L' := [(0, p0), (1, .int .i64 a1), (2, .func (.func q2) #[] z2), (6, .int .i64 x34), (7, .int .i64 x58), (8, .int .i64 x59)]) ⟨rfl, rfl, rfl, rfl, rfl, rfl, trivial⟩ ?_
        refine hK101 _ _ ?_
        refine CW.block ?_
        refine CW.seq fun K104 hK104 => ?_
        refine CW.region ?_
        refine WL.stepE (OW.pv (v := p0) rfl) rfl ?_
        refine WL.stepE (OW.pv (v := .int .i64 x58) rfl) rfl ?_
        refine WL.stepE (OW.pv (v := .int .i64 x58) rfl) rfl ?_
        refine WL.stepE (OW.pv (v := .int .i64 x34) rfl) rfl ?_
        refine WL.stepE (OW.pv (v := .int .i64 ((W (x58 + x34)))) rfl) rfl ?_
        refine WL.stepE (OW.pv (v := .int .i64 x59) rfl) rfl ?_
        refine WL.stepE (OW.pv (v := .func (.func q2) #[] z2) rfl) rfl ?_
        obtain ⟨db105, hd106, hk107, hv108⟩ := Ow.handed h57
        obtain ⟨y109, q110, hx98⟩ := bindE hx98
        refine WL.step (OW.call Try.call88 rfl (slices_symMergeCmpFunc_int_ok q110 hd106 (m2.mono fun _ h_ => hE.handed hk107 rfl h_))) rfl ?_
        rintro _ w111 ⟨hb115, h116⟩
        obtain ⟨o112, ev113, hn114⟩ := handed_new 4 hk107 hb115
        have h116 := handed_back hk107 hv108 ev113 h116
        have hE := hE.evo ev113 rfl rfl
        refine WL.nil ?_
        refine NK.sub (L' := [(0, p0), (1, .int .i64 a1), (2, .func (.func q2) #[] z2), (6, .int .i64 x34), (8, .int .i64 x59)]) ⟨rfl, rfl, rfl, rfl, rfl, trivial⟩ ?_
        refine hK104 _ _ ?_
        refine CW.seq fun K117 hK117 => ?_
        refine CW.region ?_
        refine WL.stepE (OW.pv (v := .int .i64 x59) rfl) rfl ?_
        refine WL.stepE (OW.pv (v := .int .i64 x59) rfl) rfl ?_
        refine WL.nil ?_
        refine NK.sub (L' := [(0, p0), (1, .int .i64 a1), (2, .func (.func q2) #[] z2), (6, .int .i64 x34), (7, .int .i64 x59), (8, .int .i64 x59)]) ⟨rfl, rfl, rfl, rfl, rfl, rfl, trivial⟩ ?_
        refine hK117 _ _ ?_
        refine CW.region ?_
        refine WL.stepE (OW.pv (v := .int .i64 x59) rfl) rfl ?_
        refine WL.stepE (OW.pv (v := .int .i64 x34) rfl) rfl ?_
        refine WL.stepE (OW.pv (v := .int .i64 ((W ((2 : Int) * x34)))) rfl) rfl ?_
        refine WL.stepE (OW.pv (v := .int .i64 ((W (x59 + ((W ((2 : Int) * x34))))))) rfl) rfl ?_
        refine WL.stepE (OW.pv (v := .int .i64 ((W (x59 + ((W ((2 : Int) * x34))))))) rfl) rfl ?_
        refine WL.nil ?_
        exact NK.sub (L' := [(0, p0), (1, .int .i64 a1), (2, .func (.func q2) #[] z2), (6, .int .i64 x34), (7, .int .i64 x59), (8, .int .i64 ((W (x59 + ((W ((2 : Int) * x34)))))))]) ⟨rfl, rfl, rfl, rfl, rfl, rfl, trivial⟩ (hk100 _ _ _ (Option.some.inj hx98).symm ⟨o112, y109, x59, (W (x59 + ((W ((2 : Int) * x34))))), rfl, rfl, hE, h116⟩)
      · have hx98 := iteF hc103 hx98
        refine CW.exit ?_
        exact NK.sub (L' := [(0, p0), (1, .int .i64 a1), (2, .func (.func q2) #[] z2), (6, .int .i64 x34), (7, .int .i64 x58)]) ⟨rfl, rfl, rfl, rfl, rfl, trivial⟩ (hJ68 x55 x58 w94 o95 (hr99 _ (Option.some.inj hx98).symm) hE h57)
    · have hx47 := iteF hc52 hx47
      refine CW.exit ?_
      exact NK.sub (L' := [(0, p0)]) ⟨rfl, trivial⟩ (hJ42 x31 w43 o44 (hr48 _ (Option.some.inj hx47).symm) hE h33)
  refine CW.sub (L' := [(0, p0), (1, .int .i64 a1), (2, .func (.func q2) #[] z2), (6, .int .i64 20), (7, .int .i64 0), (8, .int .i64 20)]) ⟨rfl, rfl, rfl, rfl, rfl, rfl, trivial⟩ ?_
  refine CW.loop (slices_stableCmpFunc_int_L1 a1 f2) (fun s_ L_ w118 => ∃ (o119 : Cls) (x4 : (List Int)) (x7 : Int) (x8 : Int), (x4, x7, x8) = s_ ∧ L_ = [(0, p0), (1, .int .i64 a1), (2, .func (.func q2) #[] z2), (6, .int .i64 20), (7, .int .i64 x7), (8, .int .i64 x8)] ∧ Ent w0 (some db) o119 w118 ∧ Ow 3 o119 1 [] w118 p0 x4) hl13 ?_ ?_
  · exact ⟨(ent w0 (some db)), a0, 0, 20, rfl, rfl, hE, g0⟩
  intro K120 s_ L_ w118 hi_ x121 hx122 hr123 hk124
  obtain ⟨o119, x4, x7, x8, rfl, rfl, hE, h6⟩ := hi_
  rw [slices_stableCmpFunc_int_L1] at hx122
  refine CW.seq fun K125 hK125 => ?_
  refine CW.seq fun K126 hK126 => ?_
  refine CW.region ?_
  refine WL.stepE (OW.pv (v := .int .i64 x8) rfl) rfl ?_
  refine WL.stepE (OW.pv (v := .int .i64 a1) rfl) rfl ?_
  refine WL.stepE (OW.pv (v := .bool ((decide (x8 ≤ a1)))) rfl) rfl ?_
  refine WL.nil ?_
  refine NK.sub (L' := [(0, p0), (1, .int .i64 a1), (2, .func (.func q2) #[] z2), (6, .int .i64 20), (7, .int .i64 x7), (8, .int .i64 x8), (13, .bool ((decide (x8 ≤ a1))))]) ⟨rfl, rfl, rfl, rfl, rfl, rfl, rfl, trivial⟩ ?_
  refine hK126 _ _ ?_
  refine CW.cond (b := (decide (x8 ≤ a1))) rfl (fun hc127 => ?_) (fun hc127 => ?_)
  · have hx122 := iteT hc127 hx122
    refine CW.skip ?_
    refine NK.sub (L' := [(0, p0), (1, .int .i64 a1), (2, .func (.func q2) #[] z2), (6, .int .i64 20), (7, .int .i64 x7), (8, .int .i64 x8)]) ⟨rfl, rfl, rfl, rfl, rfl, rfl, trivial⟩ ?_
    refine hK125 _ _ ?_
    refine CW.block ?_
    refine CW.seq fun K128 hK128 => ?_
    refine CW.region ?_
    refine WL.stepE (OW.pv (v := p0) rfl) rfl ?_
    refine WL.stepE (OW.pv (v := .int .i64 x7) rfl) rfl ?_
    refine WL.stepE (OW.pv (v := .int .i64 x8) rfl) rfl ?_
    refine WL.stepE (OW.pv (v := .func (.func q2) #[] z2) rfl) rfl ?_
    obtain ⟨db129, hd130, hk131, hv132⟩ := Ow.handed h6
    obtain ⟨y133, q134, hx122⟩ := bindE hx122
    refine WL.step (OW.call Try.call87 rfl (slices_insertionSortCmpFunc_int_ok q134 hd130 (m2.mono fun _ h_ => hE.handed hk131 rfl h_))) rfl ?_
    rintro _ w135 ⟨hb139, h140⟩
    obtain ⟨o136, ev137, hn138⟩ := handed_new 2 hk131 hb139
    have h140 := handed_back hk131 hv132 ev137 h140
    have hE := hE.evo ev137 rfl rfl
    refine WL.nil ?_
    refine NK.sub (L' := [(0, p0), (1, .int .i64 a1), (2, .func (.func q2) #[] z2), (6, .int .i64 20), (8, .int .i64 x8)]) ⟨rfl, rfl, rfl, rfl, rfl, trivial⟩ ?_
    refine hK128 _ _ ?_
    refine CW.seq fun K141 hK141 => ?_
    refine CW.region ?_
    refine WL.stepE (OW.pv (v := .int .i64 x8) rfl) rfl ?_
    refine WL.stepE (OW.pv (v := .int .i64 x8) rfl) rfl ?_
    refine WL.nil ?_
    refine NK.sub (L' := [(0, p0), (1, .int .i64 a1), (2, .func (.func q2) #[] z2), (6, .int .i64 20), (7, .int .i64 x8), (8, .int .i64 x8)]) ⟨rfl, rfl, rfl, rfl, rfl, rfl, trivial⟩ ?_
    refine hK141 _ _ ?_
    refine CW.region ?_
    refine WL.stepE (OW.pv (v := .int .i64 x8) rfl) rfl ?_
    refine WL.stepE (OW.pv (v := .int .i64 20) rfl) rfl ?_
    refine WL.stepE (OW.pv (v := .int .i64 ((W (x8 + 20)))) rfl) rfl ?_
    refine WL.stepE (OW.pv (v := .int .i64 ((W (x8 + 20)))) rfl) rfl ?_
    refine WL.nil ?_
    exact NK.sub (L' := [(0, p0), (1, .int .i64 a1), (2, .func (.func q2) #[] z2), (6, .int .i64 20), (7, .int .i64 x8), (8, .int .i64 ((W (x8 + 20))))]) ⟨rfl, rfl, rfl, rfl, rfl, rfl, trivial⟩ (hk124 _ _ _ (Option.some.inj hx122).symm ⟨o136, y133, x8, (W (x8 + 20)), rfl, rfl, hE, h140⟩)
  · have hx122 := iteF hc127 hx122
    refine CW.exit ?_
    exact NK.sub (L' := [(0, p0), (1, .int .i64 a1), (2, .func (.func q2) #[] z2), (6, .int .i64 20), (7, .int .i64 x7)]) ⟨rfl, rfl, rfl, rfl, rfl, trivial⟩ (hJ17 x4 x7 w118 o119 (hr123 _ (Option.some.inj hx122).symm) hE h6)

set_option maxHeartbeats 1000000 in
theorem slices_SortStableFunc_int_int_ok {a0 : (List Int)} {f1 : (Int → Int → Option Int)} {r : (List Int)} (hF : slices_SortStableFunc_int_int a0 f1 = some r) {w0 : World} {p0 : Value} {db : Nat} (g0 : OwD 3 db w0 p0 a0) {q1 : FuncId} {z1 : Array Value} (m1 : Fn2 Try.prog q1 z1 (fun w => w0.grownBy w (some db)) f1) :
    Calls Try.prog 48 #[p0, .func (.func q1) #[] z1] w0 (Ret fun v w' => w0.grownBy w' (some db) ∧ OwD 3 db w' p0 r) := by
  have hE := Ent.refl w0 (some db)
  have g0 := OwD.in g0
  rw [slices_SortStableFunc_int_int] at hF
  refine enter (l := [p0, .func (.func q1) #[] z1]) Try.func48 rfl Try.ntmps48 rfl ?_
  refine CW.sub (L' := [(0, p0), (1, .func (.func q1) #[] z1)]) ⟨rfl, rfl, trivial⟩ ?_
  refine CW.tail fun K_ hK_ => ?_
  refine CW.region ?_
  refine WL.stepE (OW.pv (v := p0) rfl) rfl ?_
  refine WL.stepE (OW.pv (v := p0) rfl) rfl ?_
  refine WL.stepE (OW.len Try.underlying22 rfl g0.rv) rfl ?_
  refine WL.stepE (OW.pv (v := .func (.func q1) #[] z1) rfl) rfl ?_
  obtain ⟨db1, hd2, hk3, hv4⟩ := Ow.handed g0
  obtain ⟨y5, q6, hF⟩ := bindE hF
  refine WL.step (OW.call Try.call76 rfl (slices_stableCmpFunc_int_ok q6 hd2 (m1.mono fun _ h_ => hE.handed hk3 rfl h_))) rfl ?_
  rintro _ w7 ⟨hb11, h12⟩
  obtain ⟨o8, ev9, hn10⟩ := handed_new 2 hk3 hb11
  have h12 := handed_back hk3 hv4 ev9 h12
  have hE := hE.evo ev9 rfl rfl
  refine WL.nil ?_
  obtain rfl := Option.some.inj hF
  exact hK_ _ _ (NK.fall Try.results48 ⟨_, rfl, hE.but, OwD.out h12 hE⟩)

set_option maxHeartbeats 1000000 in
theorem balance_Split_ok {a0 : Int} {a1 : (List Int)} {r : ((List Int) × Int)} (hF : balance_Split a0 a1 = some r) {w0 : World} {p1 : Value} {S1 : Nat → Prop} (g1 : Rv S1 w0 p1 a1) :
    Calls Try.prog 14 #[.int .i64 a0, p1] w0 (Ret fun v w' => Below w0.heap.size w0 w' ∧ ∃ v0, v = .tuple #[v0, .int .i64 r.2] ∧ Rv (fun b => w0.heap.size ≤ b) w' v0 r.1) := by
  have hE := Ent.refl w0 none
  have g1 := g1.arg0
  rw [balance_Split] at hF
  refine enter (l := [.int .i64 a0, p1]) Try.func14 rfl Try.ntmps14 rfl ?_
  refine CW.sub (L' := [(0, .int .i64 a0), (1, p1)]) ⟨rfl, rfl, trivial⟩ ?_
  refine CW.seq fun K1 hK1 => ?_
  refine CW.region ?_
  refine WL.step (OW.boxK (o := (ent w0 none)) 2 [.int .i64 a0] rfl rfl) rfl ?_
  rintro _ w4 ⟨pa2, o3, rfl, ev5, hb6⟩
  have hE := hE.evo ev5 rfl rfl
  refine WL.step (OW.boxK (o := o3) 3 [p1] rfl (cells_one (g1.one rfl))) rfl ?_
  rintro _ w9 ⟨pa7, o8, rfl, ev10, hb11⟩
  have hE := hE.evo ev10 rfl rfl
  have hb6 := hb6.evo ev10 rfl
  have h12 := Ow.nil (α := Int) 3 o8 4 [] w9
  refine WL.stepE (OW.pv (v := (.slice none 0 0)) rfl) rfl ?_
  refine WL.stepE (OW.pv (v := .int .i64 0) rfl) rfl ?_
  refine WL.nil ?_
  refine NK.sub (L' := [(2, .pointer (some pa2)), (3, .pointer (some pa7))]) ⟨rfl, rfl, trivial⟩ ?_
  refine hK1 _ _ ?_
  refine CW.seq fun K13 hK13 => ?_
  refine CW.region ?_
  refine WL.stepE (OW.loadK0 Int (.int .i64 a0) ty3 rfl hb6 rfl rfl) rfl ?_
  refine WL.stepE (OW.loadK0 (List Int) (p1) ty22 rfl hb11 rfl rfl) rfl ?_
  obtain ⟨⟨y14, y15⟩, q16, hF⟩ := bindE hF
  dsimp only at hF
  refine WL.step (OW.call Try.call46 rfl (balance_check_ok q16 (g1.base hE))) rfl ?_
  rintro _ w17 ⟨hb21, rfl⟩
  obtain ⟨o18, ev19, hn20⟩ := fresh_new (o := o8) 5 hb21
  have hE := hE.evo ev19 rfl rfl
  have hb6 := hb6.evo ev19 rfl
  have hb11 := hb11.evo ev19 rfl
  refine WL.stepE (OW.pv (v := .tuple #[.int .i64 y14, .int .i64 y15]) rfl) rfl ?_
  refine WL.stepE (OW.pv (v := .int .i64 y14) rfl) rfl ?_
  refine WL.stepE (OW.pv (v := .int .i64 y15) rfl) rfl ?_
  refine WL.step (OW.allocK (o := o18) Int 6 [.int .i64 0] ty3 rfl) rfl ?_
  rintro _ w24 ⟨pa22, o23, rfl, ev25, hb26⟩
  have hE := hE.evo ev25 rfl rfl
  have hb6 := hb6.evo ev25 rfl
  have hb11 := hb11.evo ev25 rfl
  refine WL.step0 (OW.storeK0 Int [.int .i64 y14] [.int .i64 y14] ty3 rfl rfl hb26 rfl ⟨rfl, trivial⟩ rfl rfl rfl) ?_
  rintro _ w27 ⟨ev28, hb26⟩
  have hE := hE.evo ev28 rfl rfl
  have hb6 := hb6.evo ev28 rfl
  have hb11 := hb11.evo ev28 rfl
  refine WL.stepE (OW.pv (v := .int .i64 y15) rfl) rfl ?_
  refine WL.nil ?_
  refine NK.sub (L' := [(2, .pointer (some pa2)), (3, .pointer (some pa7)), (6, .pointer (some pa22)), (7, .int .i64 y15)]) ⟨rfl, rfl, rfl, rfl, trivial⟩ ?_
  refine hK13 _ _ ?_
  refine CW.seq fun K29 hK29 => ?_
  refine CW.seq fun K30 hK30 => ?_
  refine CW.region ?_
  refine WL.stepE (OW.pv (v := .int .i64 y15) rfl) rfl ?_
  refine WL.stepE (OW.pv (v := .bool (((y15 != 0)))) rfl) rfl ?_
  refine WL.nil ?_
  refine NK.sub (L' := [(2, .pointer (some pa2)), (3, .pointer (some pa7)), (6, .pointer (some pa22)), (7, .int .i64 y15), (23, .bool (((y15 != 0))))]) ⟨rfl, rfl, rfl, rfl, rfl, trivial⟩ ?_
  refine hK30 _ _ ?_
  refine CW.cond (b := ((y15 != 0))) rfl (fun hc31 => ?_) (fun hc31 => ?_)
  · have hF := iteT hc31 hF
    refine CW.seq fun K32 hK32 => ?_
    refine CW.region ?_
    refine WL.stepE (OW.pv (v := .int .i64 y15) rfl) rfl ?_
    have h33 := Ow.nil (α := Int) 3 o23 7 [] w27
    refine WL.stepE (OW.pv (v := (.slice none 0 0)) rfl) rfl ?_
    refine WL.stepE (OW.pv (v := .int .i64 y15) rfl) rfl ?_
    refine WL.nil ?_
    refine NK.sub (L' := [(4, (.slice none 0 0)), (5, .int .i64 y15)]) ⟨rfl, rfl, trivial⟩ ?_
    refine hK32 _ _ ?_
    obtain rfl := Option.some.inj hF
    exact CW.rets (vs := [(.slice none 0 0), .int .i64 y15]) Try.results14 ⟨rfl, rfl, trivial⟩ ⟨_, rfl, hE.fresh, _, rfl, (h33.rv).out hE rfl⟩ (fun _ _ h => h)
  · have hF := iteF hc31 hF
    refine CW.skip ?_
    refine NK.sub (L' := [(2, .pointer (some pa2)), (3, .pointer (some pa7)), (6, .pointer (some pa22))]) ⟨rfl, rfl, rfl, trivial⟩ ?_
    refine hK29 _ _ ?_
    refine CW.seq fun K34 hK34 => ?_
    obtain ⟨y35, q36, hF⟩ := bindE hF
    obtain ⟨y42, q43, hF⟩ := bindE hF
    have ev_ := Evo.drew o23 w27
    refine CW.any (ow := o23) hmix [⟨none, none, [2], [], fun x_ o_ w_ => Bk o_ 2 w_ pa2 [.int .i64 a0]⟩, ⟨none, none, [6], [], fun x_ o_ w_ => Bk o_ 6 w_ pa22 [.int .i64 y14]⟩, ⟨none, none, [3], [], fun x_ o_ w_ => Bk o_ 3 w_ pa7 [p1]⟩, ⟨some 2, none, [8], [2], fun x_ o_ w_ => Ow 3 o_ 8 [] w_ (x_.getD 0 undef) y35⟩, ⟨some 5, none, [9], [5], fun x_ o_ w_ => Ow 3 o_ 9 [] w_ (x_.getD 0 undef) y42⟩] [⟨[], [2], [], [], fun x_ => p1, false⟩, ⟨[], [], [0], [], fun x_ => .int .i64 (len a1), false⟩, ⟨[], [], [0, 1], [2], fun x_ => (x_.getD 0 undef), false⟩, ⟨[], [2], [], [], fun x_ => p1, false⟩, ⟨[], [], [3], [], fun x_ => .int .i64 (len a1), false⟩, ⟨[], [], [3, 4], [5], fun x_ => (x_.getD 0 undef), false⟩, ⟨[], [], [0, 1, 2], [2], fun x_ => (x_.getD 0 undef), false⟩, ⟨[], [], [0, 1, 2, 3, 4, 5, 6], [5], fun x_ => (x_.getD 0 undef), false⟩] [8, 9] [] (fun o_ w_ => Ent w0 none o_ w_) (by kernel_rfl) (by kernel_rfl) ⟨fun _ _ _ _ _ _ ev hd h => Bk.evo h ev hd, fun _ _ _ _ _ _ ev hd h => Bk.evo h ev hd, fun _ _ _ _ _ _ ev hd h => Bk.evo h ev hd, fun _ _ _ _ _ _ ev hd h => Ow.evo h ev hd, fun _ _ _ _ _ _ ev hd h => Ow.evo h ev hd, trivial⟩ (Ent.any rfl rfl) ⟨hE.evo ev_ rfl rfl, ⟨hb6.evo ev_ rfl, hb26.evo ev_ rfl, hb11.evo ev_ rfl, trivial⟩⟩ ⟨?_, ?_, ?_, ?_, ?_, ?_, ?_, ?_, trivial⟩ ?_
    · intro vs49 o_ w_ hE hb11
      have hb11 : Bk o_ 3 w_ pa7 [p1] := hb11
      refine OW.imp (OW.fr (L' := [(3, .pointer (some pa7))]) ⟨rfl, trivial⟩ (OW.loadK0 (List Int) (p1) ty22 rfl hb11 rfl rfl)) ?_
      rintro _ _ ⟨rfl, rfl⟩
      exact ⟨_, Evo.refl _ _ _ _, rfl, trivial⟩
    · intro vs49 o_ w_ hE 
      refine OW.imp (OW.fr (L' := [(25, p1)]) ⟨rfl, trivial⟩ (OW.len Try.underlying22 rfl (g1.base hE))) ?_
      rintro _ _ ⟨rfl, rfl⟩
      exact ⟨_, Evo.refl _ _ _ _, rfl, trivial⟩
    · intro vs49 o_ w_ hE 
      refine OW.imp (OW.fr (L' := [(26, .int .i64 (len a1))]) ⟨rfl, trivial⟩ (OW.make (o := o_) (k := 8) Try.underlying22 ty3 rfl rfl q36)) ?_
      rintro v37 w38 ⟨o39, ev40, h41⟩
      exact ⟨o39, ev40.sub rfl rfl, rfl, h41, trivial⟩
    · intro vs49 o_ w_ hE hb11
      have hb11 : Bk o_ 3 w_ pa7 [p1] := hb11
      refine OW.imp (OW.fr (L' := [(3, .pointer (some pa7))]) ⟨rfl, trivial⟩ (OW.loadK0 (List Int) (p1) ty22 rfl hb11 rfl rfl)) ?_
      rintro _ _ ⟨rfl, rfl⟩
      exact ⟨_, Evo.refl _ _ _ _, rfl, trivial⟩
    · intro vs49 o_ w_ hE 
      refine OW.imp (OW.fr (L' := [(28, p1)]) ⟨rfl, trivial⟩ (OW.len Try.underlying22 rfl (g1.base hE))) ?_
      rintro _ _ ⟨rfl, rfl⟩
      exact ⟨_, Evo.refl _ _ _ _, rfl, trivial⟩
    · intro vs49 o_ w_ hE 
      refine OW.imp (OW.fr (L' := [(29, .int .i64 (len a1))]) ⟨rfl, trivial⟩ (OW.make (o := o_) (k := 9) Try.underlying22 ty3 rfl rfl q43)) ?_
      rintro v44 w45 ⟨o46, ev47, h48⟩
      exact ⟨o46, ev47.sub rfl rfl, rfl, h48, trivial⟩
    · intro vs49 o_ w_ hE 
      refine OW.imp (OW.fr (L' := [(27, (vs49 2))]) ⟨rfl, trivial⟩ (OW.pv (v := (vs49 2)) rfl)) ?_
      rintro _ _ ⟨rfl, rfl⟩
      exact ⟨_, Evo.refl _ _ _ _, rfl, trivial⟩
    · intro vs49 o_ w_ hE 
      refine OW.imp (OW.fr (L' := [(30, (vs49 5))]) ⟨rfl, trivial⟩ (OW.pv (v := (vs49 5)) rfl)) ?_
      rintro _ _ ⟨rfl, rfl⟩
      exact ⟨_, Evo.refl _ _ _ _, rfl, trivial⟩
    · intro vs49 o51 w50 hE hb6 hb26 hb11 h41 h48
      have hb6 : Bk o51 2 w50 pa2 [.int .i64 a0] := hb6
      have hb26 : Bk o51 6 w50 pa22 [.int .i64 y14] := hb26
      have hb11 : Bk o51 3 w50 pa7 [p1] := hb11
      have h41 : Ow 3 o51 8 [] w50 (vs49 2) y35 := h41
      have h48 : Ow 3 o51 9 [] w50 (vs49 5) y42 := h48
      refine NK.sub (L' := [(2, .pointer (some pa2)), (3, .pointer (some pa7)), (6, .pointer (some pa22)), (8, (vs49 2)), (9, (vs49 5))]) ⟨rfl, rfl, rfl, rfl, rfl, trivial⟩ ?_
      refine hK34 _ _ ?_
      refine CW.seq fun K52 hK52 => ?_
      refine CW.region ?_
      refine WL.stepE (OW.loadK0 Int (.int .i64 a0) ty3 rfl hb6 rfl rfl) rfl ?_
      refine WL.stepE (OW.pv (v := .int .i64 a0) rfl) rfl ?_
      refine WL.nil ?_
      refine NK.sub (L' := [(2, .pointer (some pa2)), (3, .pointer (some pa7)), (6, .pointer (some pa22)), (8, (vs49 2)), (9, (vs49 5)), (10, .int .i64 a0)]) ⟨rfl, rfl, rfl, rfl, rfl, rfl, trivial⟩ ?_
      refine hK52 _ _ ?_
      refine CW.seq fun K53 hK53 => ?_
      refine CW.seq fun K54 hK54 => ?_
      refine CW.region ?_
      refine WL.stepE (OW.loadK0 (List Int) (p1) ty22 rfl hb11 rfl rfl) rfl ?_
      refine WL.stepE (OW.len Try.underlying22 rfl (g1.base hE)) rfl ?_
      refine WL.stepE (OW.pv (v := .int .i64 0) rfl) rfl ?_
      refine WL.nil ?_
      refine NK.sub (L' := [(2, .pointer (some pa2)), (3, .pointer (some pa7)), (6, .pointer (some pa22)), (8, (vs49 2)), (9, (vs49 5)), (10, .int .i64 a0), (32, p1), (33, .int .i64 (len a1)), (34, .int .i64 0)]) ⟨rfl, rfl, rfl, rfl, rfl, rfl, rfl, rfl, rfl, trivial⟩ ?_
      refine hK54 _ _ ?_
      refine CW.block ?_
      obtain ⟨r71, hl70, hF⟩ := bindE hF
      have hJ74 : ∀ (x63 : (List Int)) (x66 : (List Int)) (x69 : Int) (w72 : World) (o73 : Cls) (v64 v67 : Value), (x63, x66, x69) = r71 → Ent w0 none o73 w72 → Ow 3 o73 8 [] w72 v64 x63 → Ow 3 o73 9 [] w72 v67 x66 → Bk o73 2 w72 pa2 [.int .i64 a0] → Bk o73 6 w72 pa22 [.int .i64 y14] → Bk o73 3 w72 pa7 [p1] → NK 78 K53 [(2, .pointer (some pa2)), (3, .pointer (some pa7)), (6, .pointer (some pa22)), (8, v64), (9, v67), (10, .int .i64 x69)] w72 := by
        intro x63 x66 x69 w72 o73 v64 v67 e_ hE h65 h68 hb6 hb26 hb11
        subst e_
        try dsimp only at hF
        refine NK.sub (L' := [(2, .pointer (some pa2)), (3, .pointer (some pa7)), (6, .pointer (some pa22)), (8, v64), (9, v67), (10, .int .i64 x69)]) ⟨rfl, rfl, rfl, rfl, rfl, rfl, trivial⟩ ?_
        refine hK53 _ _ ?_
        refine CW.seq fun K75 hK75 => ?_
        refine CW.region ?_
        refine WL.stepE (OW.makeFunc rfl) rfl ?_
        refine WL.step (OW.allocK (o := o73) FnV 10 [.nilFunc] ty28 rfl) rfl ?_
        rintro _ w78 ⟨pa76, o77, rfl, ev79, hb80⟩
        have hE := hE.evo ev79 rfl rfl
        have h65 := h65.evo ev79 rfl
        have h68 := h68.evo ev79 rfl
        have hb6 := hb6.evo ev79 rfl
        have hb26 := hb26.evo ev79 rfl
        have hb11 := hb11.evo ev79 rfl
        refine WL.step0 (OW.storeK0 FnV [.func (.func 47) #[] #[.pointer (some pa2), .pointer (some pa7), .pointer (some pa22)]] [.func (.func 47) #[] #[.pointer (some pa2), .pointer (some pa7), .pointer (some pa22)]] ty28 rfl rfl hb80 rfl ⟨rfl, trivial⟩ rfl rfl rfl) ?_
        rintro _ w81 ⟨ev82, hb80⟩
        have hE := hE.evo ev82 rfl rfl
        have h65 := h65.evo ev82 rfl
        have h68 := h68.evo ev82 rfl
        have hb6 := hb6.evo ev82 rfl
        have hb26 := hb26.evo ev82 rfl
        have hb11 := hb11.evo ev82 rfl
        refine WL.nil ?_
        refine NK.sub (L' := [(8, v64), (9, v67), (10, .int .i64 x69), (13, .pointer (some pa76))]) ⟨rfl, rfl, rfl, rfl, trivial⟩ ?_
        refine hK75 _ _ ?_
        refine CW.seq fun K83 hK83 => ?_
        refine CW.region ?_
        refine WL.stepE (OW.pv (v := v67) rfl) rfl ?_
        refine WL.stepE (OW.makeFunc rfl) rfl ?_
        obtain ⟨db84, hd85, hk86, hv87⟩ := Ow.handed h68
        have hf89 : Fn1 Try.prog 47 #[.pointer (some pa2), .pointer (some pa7), .pointer (some pa22)] (fun w_ => w81.grownBy w_ (some db84)) (fun z0_ => balance_Split_1 z0_ a0 a1 y14) := ⟨Try.call47, fun w_ hw_ x0_ r_ hr_ v0_ S0_ hx0_ => by
          obtain rfl := rv_int.1 hx0_
          refine Calls.mono (balance_Split_1_ok hr_ (hb6.grown (K := []) (x := a0) rdI hw_ (handed_not hk86 rfl)) (hb11.grown (K := [0]) (x := a1) (Rv.rd1 (g1.base hE) rfl) hw_ (handed_not hk86 rfl)) (hb26.grown (K := []) (x := y14) rdI hw_ (handed_not hk86 rfl))) ?_
          rintro _ w_ ⟨v_, rfl, hb_, hv_⟩
          exact ⟨v_, rfl, hb_, rv_int.2 hv_⟩⟩
        have hf88 : Fn2 Try.prog 49 #[.pointer (some pa76)] (fun w_ => w81.grownBy w_ (some db84)) (fun z0_ z1_ => balance_Split_2 z0_ z1_ (fun z0_ => balance_Split_1 z0_ a0 a1 y14)) := ⟨Try.call49, fun w_ hw_ x0_ x1_ r_ hr_ v0_ v1_ S0_ S1_ hx0_ hx1_ => by
          obtain rfl := rv_int.1 hx0_
          obtain rfl := rv_int.1 hx1_
          refine Calls.mono (balance_Split_2_ok hr_ (hb80.grown (K := []) (x := (⟨.func (.func 47) #[] #[.pointer (some pa2), .pointer (some pa7), .pointer (some pa22)]⟩ : FnV)) ⟨rfl, rfl⟩ hw_ (handed_not hk86 rfl)) (hf89.mono fun _ h_ => grown_trans hw_ (grown_none _ h_))) ?_
          rintro _ w_ ⟨v_, rfl, hb_, hv_⟩
          exact ⟨v_, rfl, hb_, rv_int.2 hv_⟩⟩
        obtain ⟨y90, q91, hF⟩ := bindE hF
        refine WL.step (OW.call Try.call48 rfl (slices_SortStableFunc_int_int_ok q91 hd85 hf88)) rfl ?_
        rintro _ w92 ⟨hb96, h97⟩
        obtain ⟨o93, ev94, hn95⟩ := handed_new 11 hk86 hb96
        have h97 := handed_back hk86 hv87 ev94 h97
        have hE := hE.evo ev94 rfl rfl
        have h65 := h65.evo ev94 rfl
        have hb6 := hb6.evo ev94 rfl
        have hb26 := hb26.evo ev94 rfl
        have hb11 := hb11.evo ev94 rfl
        have hb80 := hb80.evo ev94 rfl
        refine WL.nil ?_
        refine NK.sub (L' := [(8, v64), (9, v67), (10, .int .i64 x69)]) ⟨rfl, rfl, rfl, trivial⟩ ?_
        refine hK83 _ _ ?_
        refine CW.seq fun K98 hK98 => ?_
        refine CW.seq fun K99 hK99 => ?_
        refine CW.region ?_
        refine WL.stepE (OW.pv (v := v67) rfl) rfl ?_
        refine WL.stepE (OW.pv (v := .int .i64 x69) rfl) rfl ?_
        obtain ⟨y100, q103, hF⟩ := bindE hF
        refine WL.stepP (OW.slice Try.underlying22 ty3 rfl h97.rv (.inl ⟨rfl, rfl⟩) (.inr ⟨_, rfl, rfl⟩) q103) rfl fun v101 h102 => ?_
        refine WL.stepE (OW.len Try.underlying22 rfl h102) rfl ?_
        refine WL.stepE (OW.pv (v := .int .i64 0) rfl) rfl ?_
        refine WL.nil ?_
        refine NK.sub (L' := [(8, v64), (64, v101), (65, .int .i64 (len y100)), (66, .int .i64 0)]) ⟨rfl, rfl, rfl, rfl, trivial⟩ ?_
        refine hK99 _ _ ?_
        refine CW.block ?_
        obtain ⟨r115, hl114, hF⟩ := bindE hF
        have hJ118 : ∀ (x111 : (List Int)) (w116 : World) (o117 : Cls) (v112 : Value), x111 = r115 → Ent w0 none o117 w116 → Ow 3 o117 8 [] w116 v112 x111 → NK 78 K98 [(8, v112)] w116 := by
          intro x111 w116 o117 v112 e_ hE h113
          subst e_
          try dsimp only at hF
          refine NK.sub (L' := [(8, v112)]) ⟨rfl, trivial⟩ ?_
          refine hK98 _ _ ?_
          refine CW.seq fun K119 hK119 => ?_
          refine CW.region ?_
          refine WL.stepE (OW.pv (v := v112) rfl) rfl ?_
          refine WL.stepE (OW.pv (v := v112) rfl) rfl ?_
          refine WL.stepE (OW.pv (v := .int .i64 0) rfl) rfl ?_
          refine WL.nil ?_
          refine NK.sub (L' := [(4, v112), (5, .int .i64 0)]) ⟨rfl, rfl, trivial⟩ ?_
          refine hK119 _ _ ?_
          obtain rfl := Option.some.inj hF
          exact CW.rets (vs := [v112, .int .i64 0]) Try.results14 ⟨rfl, rfl, trivial⟩ ⟨_, rfl, hE.fresh, _, rfl, (h113.rv).out hE rfl⟩ (fun _ _ h => h)
        refine CW.sub (L' := [(8, v64), (64, v101), (65, .int .i64 (len y100)), (66, .int .i64 0)]) ⟨rfl, rfl, rfl, rfl, trivial⟩ ?_
        refine CW.loop (balance_Split_L2 y100) (fun s_ L_ w120 => ∃ (o121 : Cls) (x104 : (List Int)) (x107 : (List Int)) (x110 : Int) (v105 v108 : Value), (x104, x107, x110) = s_ ∧ L_ = [(8, v105), (64, v108), (65, .int .i64 (len y100)), (66, .int .i64 x110)] ∧ Ent w0 none o121 w120 ∧ Ow 3 o121 8 [] w120 v105 x104 ∧ Rv (In o121 [9]) w120 v108 x107) hl114 ?_ ?_
        · exact ⟨o93, x63, y100, 0, v64, v101, rfl, rfl, hE, h65, h102⟩
        intro K122 s_ L_ w120 hi_ x123 hx124 hr125 hk126
        obtain ⟨o121, x104, x107, x110, v105, v108, rfl, rfl, hE, h106, h109⟩ := hi_
        rw [balance_Split_L2] at hx124
        refine CW.seq fun K127 hK127 => ?_
        refine CW.region ?_
        refine WL.stepE (OW.pv (v := .bool ((decide (x110 < (len y100))))) rfl) rfl ?_
        refine WL.nil ?_
        refine NK.sub (L' := [(8, v105), (64, v108), (65, .int .i64 (len y100)), (66, .int .i64 x110), (67, .bool ((decide (x110 < (len y100)))))]) ⟨rfl, rfl, rfl, rfl, rfl, trivial⟩ ?_
        refine hK127 _ _ ?_
        refine CW.seq fun K128 hK128 => ?_
        refine CW.cond (b := (decide (x110 < (len y100)))) rfl (fun hc129 => ?_) (fun hc129 => ?_)
        · have hx124 := iteT hc129 hx124
          refine CW.skip ?_
          refine NK.sub (L' := [(8, v105), (64, v108), (65, .int .i64 (len y100)), (66, .int .i64 x110)]) ⟨rfl, rfl, rfl, rfl, trivial⟩ ?_
          refine hK128 _ _ ?_
          refine CW.seq fun K130 hK130 => ?_
          refine CW.block ?_
          refine CW.seq fun K131 hK131 => ?_
          refine CW.region ?_
          obtain ⟨y132, q136, hx124⟩ := bindE hx124
          refine WL.stepP (OW.indexAddr Try.underlying22 ty3 rfl h109 rfl q136) rfl fun _ ⟨pa133, hv_, hp134, he135⟩ => ?_
          subst hv_
          refine WL.stepE (OW.loadI ty3 rfl hp134) rfl ?_
          refine WL.stepE (OW.pv (v := .int .i64 y132) rfl) rfl ?_
          refine WL.nil ?_
          refine NK.sub (L' := [(8, v105), (15, .int .i64 y132), (64, v108), (65, .int .i64 (len y100)), (66, .int .i64 x110)]) ⟨rfl, rfl, rfl, rfl, rfl, trivial⟩ ?_
          refine hK131 _ _ ?_
          refine CW.region ?_
          refine WL.stepE (OW.pv (v := v105) rfl) rfl ?_
          refine WL.stepE (OW.pv (v := .int .i64 y132) rfl) rfl ?_
          obtain ⟨y137, q141, hx124⟩ := bindE hx124
          refine WL.stepP (OW.indexAddr Try.underlying22 ty3 rfl h106.rv rfl q141) rfl fun _ ⟨pa138, hv_, hp139, he140⟩ => ?_
          subst hv_
          refine WL.stepE (OW.loadI ty3 rfl hp139) rfl ?_
          refine WL.stepE (OW.pv (v := .int .i64 ((W (y137 + 1)))) rfl) rfl ?_
          obtain ⟨y142, q146, hx124⟩ := bindE hx124
          refine WL.stepP (OW.indexAddr Try.underlying22 ty3 rfl h106.rv rfl q146) rfl fun _ ⟨pa143, hv_, hp144, he145⟩ => ?_
          subst hv_
          obtain ⟨y147, q150, hx124⟩ := bindE hx124
          refine WL.step0 (OW.storeElem ty3 rfl he145 h106 rfl (rv_int.2 rfl) q150 rfl) ?_
          rintro _ w148 ⟨ev149, h151⟩
          have hE := hE.evo ev149 rfl rfl
          have h109 := h109.evo ev149 rfl
          refine WL.nil ?_
          refine NK.sub (L' := [(8, v105), (64, v108), (65, .int .i64 (len y100)), (66, .int .i64 x110)]) ⟨rfl, rfl, rfl, rfl, trivial⟩ ?_
          refine hK130 _ _ ?_
          refine CW.region ?_
          refine WL.stepE (OW.pv (v := .int .i64 ((W (x110 + 1)))) rfl) rfl ?_
          refine WL.stepE (OW.pv (v := .int .i64 ((W (x110 + 1)))) rfl) rfl ?_
          refine WL.nil ?_
          exact NK.sub (L' := [(8, v105), (64, v108), (65, .int .i64 (len y100)), (66, .int .i64 ((W (x110 + 1))))]) ⟨rfl, rfl, rfl, rfl, trivial⟩ (hk126 _ _ _ (Option.some.inj hx124).symm ⟨o121, y147, x107, (W (x110 + 1)), v105, v108, rfl, rfl, hE, h151, h109⟩)
        · have hx124 := iteF hc129 hx124
          refine CW.exit ?_
          exact NK.sub (L' := [(8, v105)]) ⟨rfl, trivial⟩ (hJ118 x104 w120 o121 v105 (hr125 _ (Option.some.inj hx124).symm) hE h106)
      refine CW.sub (L' := [(2, .pointer (some pa2)), (3, .pointer (some pa7)), (6, .pointer (some pa22)), (8, (vs49 2)), (9, (vs49 5)), (10, .int .i64 a0), (32, p1), (33, .int .i64 (len a1)), (34, .int .i64 0)]) ⟨rfl, rfl, rfl, rfl, rfl, rfl, rfl, rfl, rfl, trivial⟩ ?_
      refine CW.loop (balance_Split_L1 a0 a1 y14) (fun s_ L_ w152 => ∃ (o153 : Cls) (x55 : (List Int)) (x58 : (List Int)) (x61 : Int) (x62 : Int) (v56 v59 : Value), (x55, x58, x61, x62) = s_ ∧ L_ = [(2, .pointer (some pa2)), (3, .pointer (some pa7)), (6, .pointer (some pa22)), (8, v56), (9, v59), (10, .int .i64 x61), (32, p1), (33, .int .i64 (len a1)), (34, .int .i64 x62)] ∧ Ent w0 none o153 w152 ∧ Ow 3 o153 8 [] w152 v56 x55 ∧ Ow 3 o153 9 [] w152 v59 x58 ∧ Bk o153 2 w152 pa2 [.int .i64 a0] ∧ Bk o153 6 w152 pa22 [.int .i64 y14] ∧ Bk o153 3 w152 pa7 [p1]) hl70 ?_ ?_
      · exact ⟨o51, y35, y42, a0, 0, (vs49 2), (vs49 5), rfl, rfl, hE, h41, h48, hb6, hb26, hb11⟩
      intro K154 s_ L_ w152 hi_ x155 hx156 hr157 hk158
      obtain ⟨o153, x55, x58, x61, x62, v56, v59, rfl, rfl, hE, h57, h60, hb6, hb26, hb11⟩ := hi_
      rw [balance_Split_L1] at hx156
      refine CW.seq fun K159 hK159 => ?_
      refine CW.region ?_
      refine WL.stepE (OW.pv (v := .bool ((decide (x62 < (len a1))))) rfl) rfl ?_
      refine WL.nil ?_
      refine NK.sub (L' := [(2, .pointer (some pa2)), (3, .pointer (some pa7)), (6, .pointer (some pa22)), (8, v56), (9, v59), (10, .int .i64 x61), (32, p1), (33, .int .i64 (len a1)), (34, .int .i64 x62), (35, .bool ((decide (x62 < (len a1)))))]) ⟨rfl, rfl, rfl, rfl, rfl, rfl, rfl, rfl, rfl, rfl, trivial⟩ ?_
      refine hK159 _ _ ?_
      refine CW.seq fun K160 hK160 => ?_
      refine CW.cond (b := (decide (x62 < (len a1)))) rfl (fun hc161 => ?_) (fun hc161 => ?_)
      · have hx156 := iteT hc161 hx156
        refine CW.skip ?_
        refine NK.sub (L' := [(2, .pointer (some pa2)), (3, .pointer (some pa7)), (6, .pointer (some pa22)), (8, v56), (9, v59), (10, .int .i64 x61), (32, p1), (33, .int .i64 (len a1)), (34, .int .i64 x62)]) ⟨rfl, rfl, rfl, rfl, rfl, rfl, rfl, rfl, rfl, trivial⟩ ?_
        refine hK160 _ _ ?_
        refine CW.seq fun K162 hK162 => ?_
        refine CW.block ?_
        refine CW.seq fun K163 hK163 => ?_
        refine CW.region ?_
        refine WL.stepE (OW.pv (v := .int .i64 x62) rfl) rfl ?_
        obtain ⟨y164, q168, hx156⟩ := bindE hx156
        refine WL.stepP (OW.indexAddr Try.underlying22 ty3 rfl (g1.base hE) rfl q168) rfl fun _ ⟨pa165, hv_, hp166, he167⟩ => ?_
        subst hv_
        refine WL.stepE (OW.loadI ty3 rfl hp166) rfl ?_
        refine WL.stepE (OW.pv (v := .int .i64 x62) rfl) rfl ?_
        refine WL.stepE (OW.pv (v := .int .i64 y164) rfl) rfl ?_
        refine WL.nil ?_
        refine NK.sub (L' := [(2, .pointer (some pa2)), (3, .pointer (some pa7)), (6, .pointer (some pa22)), (8, v56), (9, v59), (10, .int .i64 x61), (11, .int .i64 x62), (12, .int .i64 y164), (32, p1), (33, .int .i64 (len a1)), (34, .int .i64 x62)]) ⟨rfl, rfl, rfl, rfl, rfl, rfl, rfl, rfl, rfl, rfl, rfl, trivial⟩ ?_
        refine hK163 _ _ ?_
        refine CW.seq fun K169 hK169 => ?_
        refine CW.region ?_
        refine WL.stepE (OW.pv (v := v56) rfl) rfl ?_
        refine WL.stepE (OW.pv (v := .int .i64 x62) rfl) rfl ?_
        refine WL.stepE (OW.pv (v := v59) rfl) rfl ?_
        refine WL.stepE (OW.pv (v := .int .i64 x62) rfl) rfl ?_
        refine WL.stepE (OW.loadK0 Int (.int .i64 a0) ty3 rfl hb6 rfl rfl) rfl ?_
        refine WL.stepE (OW.pv (v := .int .i64 y164) rfl) rfl ?_
        refine WL.stepE (OW.pv (v := .int .i64 ((W (a0 * y164)))) rfl) rfl ?_
        refine WL.stepE (OW.loadK0 Int (.int .i64 y14) ty3 rfl hb26 rfl rfl) rfl ?_
        obtain ⟨y170, q171, hx156⟩ := bindE hx156
        refine WL.stepE (OW.quo rfl rfl q171) rfl ?_
        refine WL.stepE (OW.pv (v := .int .i64 x62) rfl) rfl ?_
        obtain ⟨y172, q176, hx156⟩ := bindE hx156
        refine WL.stepP (OW.indexAddr Try.underlying22 ty3 rfl h57.rv rfl q176) rfl fun _ ⟨pa173, hv_, hp174, he175⟩ => ?_
        subst hv_
        obtain ⟨y177, q180, hx156⟩ := bindE hx156
        refine WL.step0 (OW.storeElem ty3 rfl he175 h57 rfl (rv_int.2 rfl) q180 rfl) ?_
        rintro _ w178 ⟨ev179, h181⟩
        have hE := hE.evo ev179 rfl rfl
        have h60 := h60.evo ev179 rfl
        have hb6 := hb6.evo ev179 rfl
        have hb26 := hb26.evo ev179 rfl
        have hb11 := hb11.evo ev179 rfl
        obtain ⟨y182, q186, hx156⟩ := bindE hx156
        refine WL.stepP (OW.indexAddr Try.underlying22 ty3 rfl h60.rv rfl q186) rfl fun _ ⟨pa183, hv_, hp184, he185⟩ => ?_
        subst hv_
        obtain ⟨y187, q190, hx156⟩ := bindE hx156
        refine WL.step0 (OW.storeElem ty3 rfl he185 h60 rfl (rv_int.2 rfl) q190 rfl) ?_
        rintro _ w188 ⟨ev189, h191⟩
        have hE := hE.evo ev189 rfl rfl
        have h181 := h181.evo ev189 rfl
        have hb6 := hb6.evo ev189 rfl
        have hb26 := hb26.evo ev189 rfl
        have hb11 := hb11.evo ev189 rfl
        refine WL.nil ?_
        refine NK.sub (L' := [(2, .pointer (some pa2)), (3, .pointer (some pa7)), (6, .pointer (some pa22)), (8, v56), (9, v59), (10, .int .i64 x61), (11, .int .i64 x62), (32, p1), (33, .int .i64 (len a1)), (34, .int .i64 x62)]) ⟨rfl, rfl, rfl, rfl, rfl, rfl, rfl, rfl, rfl, rfl, trivial⟩ ?_
        refine hK169 _ _ ?_
        refine CW.region ?_
        refine WL.stepE (OW.pv (v := .int .i64 x61) rfl) rfl ?_
        refine WL.stepE (OW.pv (v := v56) rfl) rfl ?_
        refine WL.stepE (OW.pv (v := .int .i64 x62) rfl) rfl ?_
        obtain ⟨y192, q196, hx156⟩ := bindE hx156
        refine WL.stepP (OW.indexAddr Try.underlying22 ty3 rfl h181.rv rfl q196) rfl fun _ ⟨pa193, hv_, hp194, he195⟩ => ?_
        subst hv_
        refine WL.stepE (OW.loadI ty3 rfl hp194) rfl ?_
        refine WL.stepE (OW.pv (v := .int .i64 ((W (x61 - y192)))) rfl) rfl ?_
        refine WL.stepE (OW.pv (v := .int .i64 ((W (x61 - y192)))) rfl) rfl ?_
        refine WL.nil ?_
        refine NK.sub (L' := [(2, .pointer (some pa2)), (3, .pointer (some pa7)), (6, .pointer (some pa22)), (8, v56), (9, v59), (10, .int .i64 ((W (x61 - y192)))), (32, p1), (33, .int .i64 (len a1)), (34, .int .i64 x62)]) ⟨rfl, rfl, rfl, rfl, rfl, rfl, rfl, rfl, rfl, trivial⟩ ?_
        refine hK162 _ _ ?_
        refine CW.region ?_
        refine WL.stepE (OW.pv (v := .int .i64 ((W (x62 + 1)))) rfl) rfl ?_
        refine WL.stepE (OW.pv (v := .int .i64 ((W (x62 + 1)))) rfl) rfl ?_
        refine WL.nil ?_
        exact NK.sub (L' := [(2, .pointer (some pa2)), (3, .pointer (some pa7)), (6, .pointer (some pa22)), (8, v56), (9, v59), (10, .int .i64 ((W (x61 - y192)))), (32, p1), (33, .int .i64 (len a1)), (34, .int .i64 ((W (x62 + 1))))]) ⟨rfl, rfl, rfl, rfl, rfl, rfl, rfl, rfl, rfl, trivial⟩ (hk158 _ _ _ (Option.some.inj hx156).symm ⟨o153, y177, y187, (W (x61 - y192)), (W (x62 + 1)), v56, v59, rfl, rfl, hE, h181, h191, hb6, hb26, hb11⟩)
      · have hx156 := iteF hc161 hx156
        refine CW.exit ?_
        exact NK.sub (L' := [(2, .pointer (some pa2)), (3, .pointer (some pa7)), (6, .pointer (some pa22)), (8, v56), (9, v59), (10, .int .i64 x61)]) ⟨rfl, rfl, rfl, rfl, rfl, rfl, trivial⟩ (hJ74 x55 x58 x61 w152 o153 v56 v59 (hr157 _ (Option.some.inj hx156).symm) hE h57 h60 hb6 hb26 hb11)

set_option maxHeartbeats 1000000 in
theorem dynposref01_Ints_ok {a0 : (List Int)} {a1 : (List Int)} {r : Bool} (hF : dynposref01_Ints a0 a1 = some r) {w0 : World} {p0 : Value} {S0 : Nat → Prop} (g0 : Rv S0 w0 p0 a0) {p1 : Value} {S1 : Nat → Prop} (g1 : Rv S1 w0 p1 a1) :
    Calls Try.prog 15 #[p0, p1] w0 (Ret fun v w' => Below w0.heap.size w0 w' ∧ v = .bool r) := by
  have hE := Ent.refl w0 none
  have g0 := g0.arg0
  have g1 := g1.arg0
  rw [dynposref01_Ints] at hF
  refine enter (l := [p0, p1]) Try.func15 rfl Try.ntmps15 rfl ?_
  refine CW.sub (L' := [(0, p0), (1, p1)]) ⟨rfl, rfl, trivial⟩ ?_
  refine CW.seq fun K1 hK1 => ?_
  refine CW.region ?_
  refine WL.stepE (OW.pv (v := .bool false) rfl) rfl ?_
  refine WL.nil ?_
  refine NK.sub (L' := [(0, p0), (1, p1)]) ⟨rfl, rfl, trivial⟩ ?_
  refine hK1 _ _ ?_
  refine CW.seq fun K2 hK2 => ?_
  refine CW.seq fun K3 hK3 => ?_
  refine CW.region ?_
  refine WL.stepE (OW.pv (v := p0) rfl) rfl ?_
  refine WL.stepE (OW.len Try.underlying22 rfl (g0.base hE)) rfl ?_
  refine WL.stepE (OW.pv (v := p1) rfl) rfl ?_
  refine WL.stepE (OW.len Try.underlying22 rfl (g1.base hE)) rfl ?_
  refine WL.stepE (OW.pv (v := .bool ((((len a0) != (len a1))))) rfl) rfl ?_
  refine WL.nil ?_
  refine NK.sub (L' := [(0, p0), (1, p1), (10, .bool ((((len a0) != (len a1)))))]) ⟨rfl, rfl, rfl, trivial⟩ ?_
  refine hK3 _ _ ?_
  refine CW.cond (b := (((len a0) != (len a1)))) rfl (fun hc4 => ?_) (fun hc4 => ?_)
  · have hF := iteT hc4 hF
    refine CW.seq fun K5 hK5 => ?_
    refine CW.region ?_
    refine WL.stepE (OW.pv (v := .bool false) rfl) rfl ?_
    refine WL.nil ?_
    refine NK.sub (L' := [(4, .bool false)]) ⟨rfl, trivial⟩ ?_
    refine hK5 _ _ ?_
    obtain rfl := Option.some.inj hF
    exact CW.rets (vs := [.bool false]) Try.results15 ⟨rfl, trivial⟩ ⟨_, rfl, hE.fresh, rfl⟩ (fun _ _ h => h)
  · have hF := iteF hc4 hF
    refine CW.skip ?_
    refine NK.sub (L' := [(0, p0), (1, p1)]) ⟨rfl, rfl, trivial⟩ ?_
    refine hK2 _ _ ?_
    refine CW.seq fun K6 hK6 => ?_
    refine CW.seq fun K7 hK7 => ?_
    refine CW.region ?_
    refine WL.stepE (OW.pv (v := p0) rfl) rfl ?_
    refine WL.stepE (OW.len Try.underlying22 rfl (g0.base hE)) rfl ?_
    refine WL.stepE (OW.pv (v := .int .i64 0) rfl) rfl ?_
    refine WL.nil ?_
    refine NK.sub (L' := [(0, p0), (1, p1), (12, .int .i64 (len a0)), (13, .int .i64 0)]) ⟨rfl, rfl, rfl, rfl, trivial⟩ ?_
    refine hK7 _ _ ?_
    refine CW.block ?_
    obtain ⟨r10, hl9, hF⟩ := bindE hF
    have hJ13 : ∀ (w11 : World) (o12 : Cls), .inl () = r10 → Ent w0 none o12 w11 → NK 26 K6 [] w11 := by
      intro  w11 o12  e_ hE
      subst e_
      have hF := elimL hF
      try dsimp only at hF
      refine NK.sub (L' := []) trivial ?_
      refine hK6 _ _ ?_
      refine CW.seq fun K14 hK14 => ?_
      refine CW.region ?_
      refine WL.stepE (OW.pv (v := .bool true) rfl) rfl ?_
      refine WL.nil ?_
      refine NK.sub (L' := [(4, .bool true)]) ⟨rfl, trivial⟩ ?_
      refine hK14 _ _ ?_
      obtain rfl := Option.some.inj hF
      exact CW.rets (vs := [.bool true]) Try.results15 ⟨rfl, trivial⟩ ⟨_, rfl, hE.fresh, rfl⟩ (fun _ _ h => h)
    refine CW.sub (L' := [(0, p0), (1, p1), (12, .int .i64 (len a0)), (13, .int .i64 0)]) ⟨rfl, rfl, rfl, rfl, trivial⟩ ?_
    refine CW.loop (dynposref01_Ints_L1 a0 a1) (fun s_ L_ w15 => ∃ (o16 : Cls) (x8 : Int), x8 = s_ ∧ L_ = [(0, p0), (1, p1), (12, .int .i64 (len a0)), (13, .int .i64 x8)] ∧ Ent w0 none o16 w15) hl9 ?_ ?_
    · exact ⟨(ent w0 none), 0, rfl, rfl, hE⟩
    intro K17 s_ L_ w15 hi_ x18 hx19 hr20 hk21
    obtain ⟨o16, x8, rfl, rfl, hE⟩ := hi_
    rw [dynposref01_Ints_L1] at hx19
    refine CW.seq fun K22 hK22 => ?_
    refine CW.region ?_
    refine WL.stepE (OW.pv (v := .bool ((decide (x8 < (len a0))))) rfl) rfl ?_
    refine WL.nil ?_
    refine NK.sub (L' := [(0, p0), (1, p1), (12, .int .i64 (len a0)), (13, .int .i64 x8), (14, .bool ((decide (x8 < (len a0)))))]) ⟨rfl, rfl, rfl, rfl, rfl, trivial⟩ ?_
    refine hK22 _ _ ?_
    refine CW.seq fun K23 hK23 => ?_
    refine CW.cond (b := (decide (x8 < (len a0)))) rfl (fun hc24 => ?_) (fun hc24 => ?_)
    · have hx19 := iteT hc24 hx19
      refine CW.skip ?_
      refine NK.sub (L' := [(0, p0), (1, p1), (12, .int .i64 (len a0)), (13, .int .i64 x8)]) ⟨rfl, rfl, rfl, rfl, trivial⟩ ?_
      refine hK23 _ _ ?_
      refine CW.seq fun K25 hK25 => ?_
      refine CW.block ?_
      refine CW.seq fun K26 hK26 => ?_
      refine CW.region ?_
      refine WL.stepE (OW.pv (v := .int .i64 x8) rfl) rfl ?_
      refine WL.stepE (OW.pv (v := .int .i64 x8) rfl) rfl ?_
      refine WL.nil ?_
      refine NK.sub (L' := [(0, p0), (1, p1), (5, .int .i64 x8), (12, .int .i64 (len a0)), (13, .int .i64 x8)]) ⟨rfl, rfl, rfl, rfl, rfl, trivial⟩ ?_
      refine hK26 _ _ ?_
      refine CW.seq fun K27 hK27 => ?_
      obtain ⟨y28, q32, hx19⟩ := bindE hx19
      obtain ⟨y33, q37, hx19⟩ := bindE hx19
      have ev_ := Evo.drew o16 w15
      refine CW.any (ow := o16) hmix [⟨some 2, none, [0], [2], fun x_ o_ w_ => PtrAt (In o_ [0]) w_ (pOf (x_.getD 0 undef)) y28⟩, ⟨some 2, none, [], [2], fun x_ o_ w_ => EPtr p0 1 x8 (pOf (x_.getD 0 undef))⟩, ⟨some 6, none, [0], [6], fun x_ o_ w_ => PtrAt (In o_ [0]) w_ (pOf (x_.getD 0 undef)) y33⟩, ⟨some 6, none, [], [6], fun x_ o_ w_ => EPtr p1 1 x8 (pOf (x_.getD 0 undef))⟩] [⟨[], [], [], [], fun x_ => p0, false⟩, ⟨[], [], [], [], fun x_ => .int .i64 x8, false⟩, ⟨[], [], [0, 1], [2], fun x_ => .pointer (some (pOf (x_.getD 0 undef))), false⟩, ⟨[], [0], [0, 1, 2], [], fun x_ => .int .i64 y28, false⟩, ⟨[], [], [], [], fun x_ => p1, false⟩, ⟨[], [], [], [], fun x_ => .int .i64 x8, false⟩, ⟨[], [], [4, 5], [6], fun x_ => .pointer (some (pOf (x_.getD 0 undef))), false⟩, ⟨[], [2], [4, 5, 6], [], fun x_ => .int .i64 y33, false⟩, ⟨[], [], [0, 1, 2, 3, 4, 5, 6, 7], [], fun x_ => .bool (((y28 != y33))), false⟩] [] [] (fun o_ w_ => Ent w0 none o_ w_) (by kernel_rfl) (by kernel_rfl) ⟨fun _ _ _ _ _ _ ev hd h => PtrAt.evo h ev hd, fun _ _ _ _ _ _ _ _ h => h, fun _ _ _ _ _ _ ev hd h => PtrAt.evo h ev hd, fun _ _ _ _ _ _ _ _ h => h, trivial⟩ (Ent.any rfl rfl) ⟨hE.evo ev_ rfl rfl, trivial⟩ ⟨?_, ?_, ?_, ?_, ?_, ?_, ?_, ?_, ?_, trivial⟩ ?_
      · intro vs38 o_ w_ hE 
        refine OW.imp (OW.fr (L' := [(0, p0)]) ⟨rfl, trivial⟩ (OW.pv (v := p0) rfl)) ?_
        rintro _ _ ⟨rfl, rfl⟩
        exact ⟨_, Evo.refl _ _ _ _, rfl, trivial⟩
      · intro vs38 o_ w_ hE 
        refine OW.imp (OW.fr (L' := [(5, .int .i64 x8)]) ⟨rfl, trivial⟩ (OW.pv (v := .int .i64 x8) rfl)) ?_
        rintro _ _ ⟨rfl, rfl⟩
        exact ⟨_, Evo.refl _ _ _ _, rfl, trivial⟩
      · intro vs38 o_ w_ hE 
        refine OW.imp (OW.fr (L' := [(16, p0), (17, .int .i64 x8)]) ⟨rfl, rfl, trivial⟩ (OW.indexAddr Try.underlying22 ty3 rfl (g0.base hE) rfl q32)) ?_
        rintro _ _ ⟨rfl, ⟨pa29, hv_, hp30, he31⟩⟩
        subst hv_
        exact ⟨_, Evo.refl _ _ _ _, rfl, hp30, he31, trivial⟩
      · intro vs38 o_ w_ hE hp30
        have hp30 : PtrAt (In o_ [0]) w_ (pOf (vs38 2)) y28 := hp30
        refine OW.imp (OW.fr (L' := [(18, .pointer (some (pOf (vs38 2))))]) ⟨rfl, trivial⟩ (OW.loadI ty3 rfl hp30)) ?_
        rintro _ _ ⟨rfl, rfl⟩
        exact ⟨_, Evo.refl _ _ _ _, rfl, trivial⟩
      · intro vs38 o_ w_ hE 
        refine OW.imp (OW.fr (L' := [(1, p1)]) ⟨rfl, trivial⟩ (OW.pv (v := p1) rfl)) ?_
        rintro _ _ ⟨rfl, rfl⟩
        exact ⟨_, Evo.refl _ _ _ _, rfl, trivial⟩
      · intro vs38 o_ w_ hE 
        refine OW.imp (OW.fr (L' := [(5, .int .i64 x8)]) ⟨rfl, trivial⟩ (OW.pv (v := .int .i64 x8) rfl)) ?_
        rintro _ _ ⟨rfl, rfl⟩
        exact ⟨_, Evo.refl _ _ _ _, rfl, trivial⟩
      · intro vs38 o_ w_ hE 
        refine OW.imp (OW.fr (L' := [(20, p1), (21, .int .i64 x8)]) ⟨rfl, rfl, trivial⟩ (OW.indexAddr Try.underlying22 ty3 rfl (g1.base hE) rfl q37)) ?_
        rintro _ _ ⟨rfl, ⟨pa34, hv_, hp35, he36⟩⟩
        subst hv_
        exact ⟨_, Evo.refl _ _ _ _, rfl, hp35, he36, trivial⟩
      · intro vs38 o_ w_ hE hp35
        have hp35 : PtrAt (In o_ [0]) w_ (pOf (vs38 6)) y33 := hp35
        refine OW.imp (OW.fr (L' := [(22, .pointer (some (pOf (vs38 6))))]) ⟨rfl, trivial⟩ (OW.loadI ty3 rfl hp35)) ?_
        rintro _ _ ⟨rfl, rfl⟩
        exact ⟨_, Evo.refl _ _ _ _, rfl, trivial⟩
      · intro vs38 o_ w_ hE 
        refine OW.imp (OW.fr (L' := [(19, .int .i64 y28), (23, .int .i64 y33)]) ⟨rfl, rfl, trivial⟩ (OW.pv (v := .bool (((y28 != y33)))) rfl)) ?_
        rintro _ _ ⟨rfl, rfl⟩
        exact ⟨_, Evo.refl _ _ _ _, rfl, trivial⟩
      · intro vs38 o40 w39 hE hp30 he31 hp35 he36
        have hp30 : PtrAt (In o40 [0]) w39 (pOf (vs38 2)) y28 := hp30
        have he31 : EPtr p0 1 x8 (pOf (vs38 2)) := he31
        have hp35 : PtrAt (In o40 [0]) w39 (pOf (vs38 6)) y33 := hp35
        have he36 : EPtr p1 1 x8 (pOf (vs38 6)) := he36
        refine NK.sub (L' := [(0, p0), (1, p1), (12, .int .i64 (len a0)), (13, .int .i64 x8), (24, .bool (((y28 != y33))))]) ⟨rfl, rfl, rfl, rfl, rfl, trivial⟩ ?_
        refine hK27 _ _ ?_
        refine CW.cond (b := ((y28 != y33))) rfl (fun hc41 => ?_) (fun hc41 => ?_)
        · have hx19 := iteT hc41 hx19
          refine CW.seq fun K42 hK42 => ?_
          refine CW.region ?_
          refine WL.stepE (OW.pv (v := .bool false) rfl) rfl ?_
          refine WL.nil ?_
          refine NK.sub (L' := [(4, .bool false)]) ⟨rfl, trivial⟩ ?_
          refine hK42 _ _ ?_
          have e_ := hr20 _ (Option.some.inj hx19).symm
          subst e_
          have hF := elimR hF
          obtain rfl := Option.some.inj hF
          exact CW.rets (vs := [.bool false]) Try.results15 ⟨rfl, trivial⟩ ⟨_, rfl, hE.fresh, rfl⟩ (fun _ _ h => h)
        · have hx19 := iteF hc41 hx19
          refine CW.skip ?_
          refine NK.sub (L' := [(0, p0), (1, p1), (12, .int .i64 (len a0)), (13, .int .i64 x8)]) ⟨rfl, rfl, rfl, rfl, trivial⟩ ?_
          refine hK25 _ _ ?_
          refine CW.region ?_
          refine WL.stepE (OW.pv (v := .int .i64 ((W (x8 + 1)))) rfl) rfl ?_
          refine WL.stepE (OW.pv (v := .int .i64 ((W (x8 + 1)))) rfl) rfl ?_
          refine WL.nil ?_
          exact NK.sub (L' := [(0, p0), (1, p1), (12, .int .i64 (len a0)), (13, .int .i64 ((W (x8 + 1))))]) ⟨rfl, rfl, rfl, rfl, trivial⟩ (hk21 _ _ _ (Option.some.inj hx19).symm ⟨o40, (W (x8 + 1)), rfl, rfl, hE⟩)
    · have hx19 := iteF hc24 hx19
      refine CW.exit ?_
      exact NK.sub (L' := []) trivial (hJ13 w15 o16 (hr20 _ (Option.some.inj hx19).symm) hE)

set_option maxHeartbeats 1000000 in
theorem balance_Check_ok {a0 : Int} {a1 : (List Int)} {a2 : (List Int)} {r : Bool} (hF : balance_Check a0 a1 a2 = some r) {w0 : World} {p1 : Value} {S1 : Nat → Prop} (g1 : Rv S1 w0 p1 a1) {p2 : Value} {S2 : Nat → Prop} (g2 : Rv S2 w0 p2 a2) :
    Calls Try.prog 16 #[.int .i64 a0, p1, p2] w0 (Ret fun v w' => Below w0.heap.size w0 w' ∧ v = .bool r) := by
  have hE := Ent.refl w0 none
  have g1 := g1.arg0
  have g2 := g2.arg0
  rw [balance_Check] at hF
  refine enter (l := [.int .i64 a0, p1, p2]) Try.func16 rfl Try.ntmps16 rfl ?_
  refine CW.sub (L' := [(0, .int .i64 a0), (1, p1), (2, p2)]) ⟨rfl, rfl, rfl, trivial⟩ ?_
  refine CW.seq fun K1 hK1 => ?_
  refine CW.region ?_
  refine WL.stepE (OW.pv (v := .bool false) rfl) rfl ?_
  refine WL.nil ?_
  refine NK.sub (L' := [(0, .int .i64 a0), (1, p1), (2, p2)]) ⟨rfl, rfl, rfl, trivial⟩ ?_
  refine hK1 _ _ ?_
  refine CW.seq fun K2 hK2 => ?_
  refine CW.region ?_
  refine WL.stepE (OW.pv (v := .int .i64 a0) rfl) rfl ?_
  refine WL.stepE (OW.pv (v := p1) rfl) rfl ?_
  obtain ⟨⟨y3, y4⟩, q5, hF⟩ := bindE hF
  dsimp only at hF
  refine WL.step (OW.call Try.call46 rfl (balance_check_ok q5 (g1.base hE))) rfl ?_
  rintro _ w6 ⟨hb10, rfl⟩
  obtain ⟨o7, ev8, hn9⟩ := fresh_new (o := (ent w0 none)) 2 hb10
  have hE := hE.evo ev8 rfl rfl
  refine WL.stepE (OW.pv (v := .tuple #[.int .i64 y3, .int .i64 y4]) rfl) rfl ?_
  refine WL.stepE (OW.pv (v := .int .i64 y3) rfl) rfl ?_
  refine WL.stepE (OW.pv (v := .int .i64 y4) rfl) rfl ?_
  refine WL.stepE (OW.pv (v := .int .i64 y3) rfl) rfl ?_
  refine WL.stepE (OW.pv (v := .int .i64 y4) rfl) rfl ?_
  refine WL.nil ?_
  refine NK.sub (L' := [(0, .int .i64 a0), (1, p1), (2, p2), (7, .int .i64 y3), (8, .int .i64 y4)]) ⟨rfl, rfl, rfl, rfl, rfl, trivial⟩ ?_
  refine hK2 _ _ ?_
  refine CW.seq fun K11 hK11 => ?_
  refine CW.seq fun K12 hK12 => ?_
  refine CW.region ?_
  refine WL.stepE (OW.pv (v := .int .i64 y4) rfl) rfl ?_
  refine WL.stepE (OW.pv (v := .bool (((y4 != 0)))) rfl) rfl ?_
  refine WL.stepE (OW.pv (v := .bool (((y4 != 0)))) rfl) rfl ?_
  obtain ⟨x13, q14, hF⟩ := bindE hF
  have hJ17 : ∀ (w15 : World) (o16 : Cls), Ent w0 none o16 w15 → NK 63 K12 [(0, .int .i64 a0), (1, p1), (2, p2), (7, .int .i64 y3), (27, .bool x13)] w15 := by
    intro w15 o16  hE
    refine NK.sub (L' := [(0, .int .i64 a0), (1, p1), (2, p2), (7, .int .i64 y3), (27, .bool x13)]) ⟨rfl, rfl, rfl, rfl, rfl, trivial⟩ ?_
    refine hK12 _ _ ?_
    refine CW.cond (b := x13) rfl (fun hc18 => ?_) (fun hc18 => ?_)
    · have hF := iteT hc18 hF
      refine CW.seq fun K19 hK19 => ?_
      refine CW.region ?_
      refine WL.stepE (OW.pv (v := .bool false) rfl) rfl ?_
      refine WL.nil ?_
      refine NK.sub (L' := [(6, .bool false)]) ⟨rfl, trivial⟩ ?_
      refine hK19 _ _ ?_
      obtain rfl := Option.some.inj hF
      exact CW.rets (vs := [.bool false]) Try.results16 ⟨rfl, trivial⟩ ⟨_, rfl, hE.fresh, rfl⟩ (fun _ _ h => h)
    · have hF := iteF hc18 hF
      refine CW.skip ?_
      refine NK.sub (L' := [(0, .int .i64 a0), (1, p1), (2, p2), (7, .int .i64 y3)]) ⟨rfl, rfl, rfl, rfl, trivial⟩ ?_
      refine hK11 _ _ ?_
      refine CW.seq fun K20 hK20 => ?_
      refine CW.region ?_
      refine WL.stepE (OW.pv (v := .int .i64 0) rfl) rfl ?_
      refine WL.nil ?_
      refine NK.sub (L' := [(0, .int .i64 a0), (1, p1), (2, p2), (7, .int .i64 y3), (9, .int .i64 0)]) ⟨rfl, rfl, rfl, rfl, rfl, trivial⟩ ?_
      refine hK20 _ _ ?_
      refine CW.seq fun K21 hK21 => ?_
      refine CW.seq fun K22 hK22 => ?_
      refine CW.region ?_
      refine WL.stepE (OW.pv (v := p2) rfl) rfl ?_
      refine WL.stepE (OW.len Try.underlying22 rfl (g2.base hE)) rfl ?_
      refine WL.stepE (OW.pv (v := .int .i64 0) rfl) rfl ?_
      refine WL.nil ?_
      refine NK.sub (L' := [(0, .int .i64 a0), (1, p1), (7, .int .i64 y3), (9, .int .i64 0), (28, p2), (29, .int .i64 (len a2)), (30, .int .i64 0)]) ⟨rfl, rfl, rfl, rfl, rfl, rfl, rfl, trivial⟩ ?_
      refine hK22 _ _ ?_
      refine CW.block ?_
      obtain ⟨r27, hl26, hF⟩ := bindE hF
      have hJ30 : ∀ (x25 : Int) (w28 : World) (o29 : Cls), .inl x25 = r27 → Ent w0 none o29 w28 → NK 63 K21 [(0, .int .i64 a0), (9, .int .i64 x25)] w28 := by
        intro x25 w28 o29  e_ hE
        subst e_
        have hF := elimL hF
        try dsimp only at hF
        refine NK.sub (L' := [(0, .int .i64 a0), (9, .int .i64 x25)]) ⟨rfl, rfl, trivial⟩ ?_
        refine hK21 _ _ ?_
        refine CW.seq fun K31 hK31 => ?_
        refine CW.region ?_
        refine WL.stepE (OW.pv (v := .int .i64 x25) rfl) rfl ?_
        refine WL.stepE (OW.pv (v := .int .i64 a0) rfl) rfl ?_
        refine WL.stepE (OW.pv (v := .bool (((x25 == a0)))) rfl) rfl ?_
        refine WL.stepE (OW.pv (v := .bool (((x25 == a0)))) rfl) rfl ?_
        refine WL.nil ?_
        refine NK.sub (L' := [(6, .bool (((x25 == a0))))]) ⟨rfl, trivial⟩ ?_
        refine hK31 _ _ ?_
        obtain rfl := Option.some.inj hF
        exact CW.rets (vs := [.bool (((x25 == a0)))]) Try.results16 ⟨rfl, trivial⟩ ⟨_, rfl, hE.fresh, rfl⟩ (fun _ _ h => h)
      refine CW.sub (L' := [(0, .int .i64 a0), (1, p1), (7, .int .i64 y3), (9, .int .i64 0), (28, p2), (29, .int .i64 (len a2)), (30, .int .i64 0)]) ⟨rfl, rfl, rfl, rfl, rfl, rfl, rfl, trivial⟩ ?_
      refine CW.loop (balance_Check_L1 a0 a1 a2 y3) (fun s_ L_ w32 => ∃ (o33 : Cls) (x23 : Int) (x24 : Int), (x23, x24) = s_ ∧ L_ = [(0, .int .i64 a0), (1, p1), (7, .int .i64 y3), (9, .int .i64 x23), (28, p2), (29, .int .i64 (len a2)), (30, .int .i64 x24)] ∧ Ent w0 none o33 w32) hl26 ?_ ?_
      · exact ⟨o16, 0, 0, rfl, rfl, hE⟩
      intro K34 s_ L_ w32 hi_ x35 hx36 hr37 hk38
      obtain ⟨o33, x23, x24, rfl, rfl, hE⟩ := hi_
      rw [balance_Check_L1] at hx36
      refine CW.seq fun K39 hK39 => ?_
      refine CW.region ?_
      refine WL.stepE (OW.pv (v := .bool ((decide (x24 < (len a2))))) rfl) rfl ?_
      refine WL.nil ?_
      refine NK.sub (L' := [(0, .int .i64 a0), (1, p1), (7, .int .i64 y3), (9, .int .i64 x23), (28, p2), (29, .int .i64 (len a2)), (30, .int .i64 x24), (31, .bool ((decide (x24 < (len a2)))))]) ⟨rfl, rfl, rfl, rfl, rfl, rfl, rfl, rfl, trivial⟩ ?_
      refine hK39 _ _ ?_
      refine CW.seq fun K40 hK40 => ?_
      refine CW.cond (b := (decide (x24 < (len a2)))) rfl (fun hc41 => ?_) (fun hc41 => ?_)
      · have hx36 := iteT hc41 hx36
        refine CW.skip ?_
        refine NK.sub (L' := [(0, .int .i64 a0), (1, p1), (7, .int .i64 y3), (9, .int .i64 x23), (28, p2), (29, .int .i64 (len a2)), (30, .int .i64 x24)]) ⟨rfl, rfl, rfl, rfl, rfl, rfl, rfl, trivial⟩ ?_
        refine hK40 _ _ ?_
        refine CW.seq fun K42 hK42 => ?_
        refine CW.block ?_
        refine CW.seq fun K43 hK43 => ?_
        refine CW.region ?_
        refine WL.stepE (OW.pv (v := .int .i64 x24) rfl) rfl ?_
        obtain ⟨y44, q48, hx36⟩ := bindE hx36
        refine WL.stepP (OW.indexAddr Try.underlying22 ty3 rfl (g2.base hE) rfl q48) rfl fun _ ⟨pa45, hv_, hp46, he47⟩ => ?_
        subst hv_
        refine WL.stepE (OW.loadI ty3 rfl hp46) rfl ?_
        refine WL.stepE (OW.pv (v := .int .i64 x24) rfl) rfl ?_
        refine WL.stepE (OW.pv (v := .int .i64 y44) rfl) rfl ?_
        refine WL.nil ?_
        refine NK.sub (L' := [(0, .int .i64 a0), (1, p1), (7, .int .i64 y3), (9, .int .i64 x23), (10, .int .i64 x24), (11, .int .i64 y44), (28, p2), (29, .int .i64 (len a2)), (30, .int .i64 x24)]) ⟨rfl, rfl, rfl, rfl, rfl, rfl, rfl, rfl, rfl, trivial⟩ ?_
        refine hK43 _ _ ?_
        refine CW.seq fun K49 hK49 => ?_
        refine CW.region ?_
        refine WL.stepE (OW.pv (v := .int .i64 a0) rfl) rfl ?_
        refine WL.stepE (OW.pv (v := p1) rfl) rfl ?_
        refine WL.stepE (OW.pv (v := .int .i64 x24) rfl) rfl ?_
        obtain ⟨y50, q54, hx36⟩ := bindE hx36
        refine WL.stepP (OW.indexAddr Try.underlying22 ty3 rfl (g1.base hE) rfl q54) rfl fun _ ⟨pa51, hv_, hp52, he53⟩ => ?_
        subst hv_
        refine WL.stepE (OW.loadI ty3 rfl hp52) rfl ?_
        refine WL.stepE (OW.pv (v := .int .i64 ((W (a0 * y50)))) rfl) rfl ?_
        refine WL.stepE (OW.pv (v := .int .i64 ((W (a0 * y50)))) rfl) rfl ?_
        refine WL.nil ?_
        refine NK.sub (L' := [(0, .int .i64 a0), (1, p1), (7, .int .i64 y3), (9, .int .i64 x23), (11, .int .i64 y44), (12, .int .i64 ((W (a0 * y50)))), (28, p2), (29, .int .i64 (len a2)), (30, .int .i64 x24)]) ⟨rfl, rfl, rfl, rfl, rfl, rfl, rfl, rfl, rfl, trivial⟩ ?_
        refine hK49 _ _ ?_
        refine CW.seq fun K55 hK55 => ?_
        refine CW.seq fun K56 hK56 => ?_
        refine CW.region ?_
        refine WL.stepE (OW.pv (v := .int .i64 y44) rfl) rfl ?_
        refine WL.stepE (OW.pv (v := .int .i64 ((W (a0 * y50)))) rfl) rfl ?_
        refine WL.stepE (OW.pv (v := .int .i64 y3) rfl) rfl ?_
        obtain ⟨y57, q58, hx36⟩ := bindE hx36
        refine WL.stepE (OW.quo rfl rfl q58) rfl ?_
        refine WL.stepE (OW.pv (v := .bool ((decide (y44 < y57)))) rfl) rfl ?_
        refine WL.stepE (OW.pv (v := .bool ((decide (y44 < y57)))) rfl) rfl ?_
        obtain ⟨x59, q60, hx36⟩ := bindE hx36
        have hJ63 : ∀ (w61 : World) (o62 : Cls), Ent w0 none o62 w61 → NK 63 K56 [(0, .int .i64 a0), (1, p1), (7, .int .i64 y3), (9, .int .i64 x23), (11, .int .i64 y44), (28, p2), (29, .int .i64 (len a2)), (30, .int .i64 x24), (55, .bool x59)] w61 := by
          intro w61 o62  hE
          refine NK.sub (L' := [(0, .int .i64 a0), (1, p1), (7, .int .i64 y3), (9, .int .i64 x23), (11, .int .i64 y44), (28, p2), (29, .int .i64 (len a2)), (30, .int .i64 x24), (55, .bool x59)]) ⟨rfl, rfl, rfl, rfl, rfl, rfl, rfl, rfl, rfl, trivial⟩ ?_
          refine hK56 _ _ ?_
          refine CW.cond (b := x59) rfl (fun hc64 => ?_) (fun hc64 => ?_)
          · have hx36 := iteT hc64 hx36
            refine CW.seq fun K65 hK65 => ?_
            refine CW.region ?_
            refine WL.stepE (OW.pv (v := .bool false) rfl) rfl ?_
            refine WL.nil ?_
            refine NK.sub (L' := [(6, .bool false)]) ⟨rfl, trivial⟩ ?_
            refine hK65 _ _ ?_
            have e_ := hr37 _ (Option.some.inj hx36).symm
            subst e_
            have hF := elimR hF
            obtain rfl := Option.some.inj hF
            exact CW.rets (vs := [.bool false]) Try.results16 ⟨rfl, trivial⟩ ⟨_, rfl, hE.fresh, rfl⟩ (fun _ _ h => h)
          · have hx36 := iteF hc64 hx36
            refine CW.skip ?_
            refine NK.sub (L' := [(0, .int .i64 a0), (1, p1), (7, .int .i64 y3), (9, .int .i64 x23), (11, .int .i64 y44), (28, p2), (29, .int .i64 (len a2)), (30, .int .i64 x24)]) ⟨rfl, rfl, rfl, rfl, rfl, rfl, rfl, rfl, trivial⟩ ?_
            refine hK55 _ _ ?_
            refine CW.region ?_
            refine WL.stepE (OW.pv (v := .int .i64 x23) rfl) rfl ?_
            refine WL.stepE (OW.pv (v := .int .i64 y44) rfl) rfl ?_
            refine WL.stepE (OW.pv (v := .int .i64 ((W (x23 + y44)))) rfl) rfl ?_
            refine WL.stepE (OW.pv (v := .int .i64 ((W (x23 + y44)))) rfl) rfl ?_
            refine WL.nil ?_
            refine NK.sub (L' := [(0, .int .i64 a0), (1, p1), (7, .int .i64 y3), (9, .int .i64 ((W (x23 + y44)))), (28, p2), (29, .int .i64 (len a2)), (30, .int .i64 x24)]) ⟨rfl, rfl, rfl, rfl, rfl, rfl, rfl, trivial⟩ ?_
            refine hK42 _ _ ?_
            refine CW.region ?_
            refine WL.stepE (OW.pv (v := .int .i64 ((W (x24 + 1)))) rfl) rfl ?_
            refine WL.stepE (OW.pv (v := .int .i64 ((W (x24 + 1)))) rfl) rfl ?_
            refine WL.nil ?_
            exact NK.sub (L' := [(0, .int .i64 a0), (1, p1), (7, .int .i64 y3), (9, .int .i64 ((W (x23 + y44)))), (28, p2), (29, .int .i64 (len a2)), (30, .int .i64 ((W (x24 + 1))))]) ⟨rfl, rfl, rfl, rfl, rfl, rfl, rfl, trivial⟩ (hk38 _ _ _ (Option.some.inj hx36).symm ⟨o62, (W (x23 + y44)), (W (x24 + 1)), rfl, rfl, hE⟩)
        rcases Bool.eq_false_or_eq_true ((decide (y44 < y57))) with hc66 | hc66
        · have q60 := iteT hc66 q60
          refine WL.skipG rfl rfl rfl (by rw [hc66]; rfl) rfl ?_
          refine WL.skipG rfl rfl rfl (by rw [hc66]; rfl) rfl ?_
          refine WL.skipG rfl rfl rfl (by rw [hc66]; rfl) rfl ?_
          refine WL.skipG rfl rfl rfl (by rw [hc66]; rfl) rfl ?_
          refine WL.skipG rfl rfl rfl (by rw [hc66]; rfl) rfl ?_
          refine WL.skipG rfl rfl rfl (by rw [hc66]; rfl) rfl ?_
          refine WL.skipG rfl rfl rfl (by rw [hc66]; rfl) rfl ?_
          refine WL.skipG rfl rfl rfl (by rw [hc66]; rfl) rfl ?_
          refine WL.stepE (OW.pickT rfl hc66 rfl) rfl ?_
          refine WL.nil ?_
          have e67 := Option.some.inj q60
          subst e67
          exact NK.sub (L' := [(0, .int .i64 a0), (1, p1), (7, .int .i64 y3), (9, .int .i64 x23), (11, .int .i64 y44), (28, p2), (29, .int .i64 (len a2)), (30, .int .i64 x24), (55, .bool true)]) ⟨rfl, rfl, rfl, rfl, rfl, rfl, rfl, rfl, rfl, trivial⟩ (hJ63 w32 o33 hE)
        · have q60 := iteF hc66 q60
          refine WL.stepGE rfl rfl rfl hc66 (OW.pv (v := .int .i64 y44) rfl) rfl ?_
          refine WL.stepGE rfl rfl rfl hc66 (OW.pv (v := .int .i64 ((W (a0 * y50)))) rfl) rfl ?_
          refine WL.stepGE rfl rfl rfl hc66 (OW.pv (v := .int .i64 y3) rfl) rfl ?_
          refine WL.stepGE rfl rfl rfl hc66 (OW.pv (v := .int .i64 ((W (((W (a0 * y50))) + y3)))) rfl) rfl ?_
          refine WL.stepGE rfl rfl rfl hc66 (OW.pv (v := .int .i64 ((W (((W (((W (a0 * y50))) + y3))) - 1)))) rfl) rfl ?_
          refine WL.stepGE rfl rfl rfl hc66 (OW.pv (v := .int .i64 y3) rfl) rfl ?_
          obtain ⟨y68, q69, q60⟩ := bindE q60
          refine WL.stepGE rfl rfl rfl hc66 (OW.quo rfl rfl q69) rfl ?_
          refine WL.stepGE rfl rfl rfl hc66 (OW.pv (v := .bool ((decide (y44 > y68)))) rfl) rfl ?_
          refine WL.stepE (OW.pickF rfl hc66 rfl) rfl ?_
          refine WL.nil ?_
          have e70 := Option.some.inj q60
          subst e70
          exact NK.sub (L' := [(0, .int .i64 a0), (1, p1), (7, .int .i64 y3), (9, .int .i64 x23), (11, .int .i64 y44), (28, p2), (29, .int .i64 (len a2)), (30, .int .i64 x24), (55, .bool ((decide (y44 > y68))))]) ⟨rfl, rfl, rfl, rfl, rfl, rfl, rfl, rfl, rfl, trivial⟩ (hJ63 w32 o33 hE)
      · have hx36 := iteF hc41 hx36
        refine CW.exit ?_
        exact NK.sub (L' := [(0, .int .i64 a0), (9, .int .i64 x23)]) ⟨rfl, rfl, trivial⟩ (hJ30 x23 w32 o33 (hr37 _ (Option.some.inj hx36).symm) hE)
  rcases Bool.eq_false_or_eq_true (((y4 != 0))) with hc71 | hc71
  · have q14 := iteT hc71 q14
    refine WL.skipG rfl rfl rfl (by rw [hc71]; rfl) rfl ?_
    refine WL.skipG rfl rfl rfl (by rw [hc71]; rfl) rfl ?_
    refine WL.skipG rfl rfl rfl (by rw [hc71]; rfl) rfl ?_
    refine WL.skipG rfl rfl rfl (by rw [hc71]; rfl) rfl ?_
    refine WL.skipG rfl rfl rfl (by rw [hc71]; rfl) rfl ?_
    refine WL.stepE (OW.pickT rfl hc71 rfl) rfl ?_
    refine WL.nil ?_
    have e72 := Option.some.inj q14
    subst e72
    exact NK.sub (L' := [(0, .int .i64 a0), (1, p1), (2, p2), (7, .int .i64 y3), (27, .bool true)]) ⟨rfl, rfl, rfl, rfl, rfl, trivial⟩ (hJ17 w6 o7 hE)
  · have q14 := iteF hc71 q14
    refine WL.stepGE rfl rfl rfl hc71 (OW.pv (v := p2) rfl) rfl ?_
    refine WL.stepGE rfl rfl rfl hc71 (OW.len Try.underlying22 rfl (g2.base hE)) rfl ?_
    refine WL.stepGE rfl rfl rfl hc71 (OW.pv (v := p1) rfl) rfl ?_
    refine WL.stepGE rfl rfl rfl hc71 (OW.len Try.underlying22 rfl (g1.base hE)) rfl ?_
    refine WL.stepGE rfl rfl rfl hc71 (OW.pv (v := .bool ((((len a2) != (len a1))))) rfl) rfl ?_
    refine WL.stepE (OW.pickF rfl hc71 rfl) rfl ?_
    refine WL.nil ?_
    have e73 := Option.some.inj q14
    subst e73
    exact NK.sub (L' := [(0, .int .i64 a0), (1, p1), (2, p2), (7, .int .i64 y3), (27, .bool ((((len a2) != (len a1)))))]) ⟨rfl, rfl, rfl, rfl, rfl, trivial⟩ (hJ17 w6 o7 hE)

end Go.Proofs.Ytnpghnnlcakbfaa
