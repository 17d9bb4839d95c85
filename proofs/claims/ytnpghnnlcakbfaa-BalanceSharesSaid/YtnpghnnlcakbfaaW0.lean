/- Walks. Written by a program (wip/gen). -/
import Derived.Test.YtnpghnnlcakbfaaTf
import Derived.Test.YtnpghnnlcakbfaaFn
namespace Go.Proofs.Ytnpghnnlcakbfaa
open Go Go.RowKit Dp

set_option maxRecDepth 100000

set_option maxHeartbeats 1000000 in
theorem dynposmake_Mod_ok {a0 : Int} {a1 : Int} {r : Int} (hF : dynposmake_Mod a0 a1 = some r) {w0 : World}  :
    Calls Try.prog 45 #[.int .i64 a0, .int .i64 a1] w0 (Ret fun v w' => Below w0.heap.size w0 w' ∧ v = .int .i64 r) := by
  have hE := Ent.refl w0 none
  rw [dynposmake_Mod] at hF
  refine enter (l := [.int .i64 a0, .int .i64 a1]) Try.func45 rfl Try.ntmps45 rfl ?_
  refine CW.sub (L' := [(0, .int .i64 a0), (1, .int .i64 a1)]) ⟨rfl, rfl, trivial⟩ ?_
  refine CW.seq fun K1 hK1 => ?_
  refine CW.region ?_
  refine WL.stepE (OW.pv (v := .int .i64 0) rfl) rfl ?_
  refine WL.nil ?_
  refine NK.sub (L' := [(0, .int .i64 a0), (1, .int .i64 a1)]) ⟨rfl, rfl, trivial⟩ ?_
  refine hK1 _ _ ?_
  refine CW.seq fun K2 hK2 => ?_
  refine CW.seq fun K3 hK3 => ?_
  refine CW.region ?_
  refine WL.stepE (OW.pv (v := .int .i64 a1) rfl) rfl ?_
  refine WL.stepE (OW.pv (v := .bool ((decide (a1 < 1)))) rfl) rfl ?_
  refine WL.nil ?_
  refine NK.sub (L' := [(0, .int .i64 a0), (1, .int .i64 a1), (6, .bool ((decide (a1 < 1))))]) ⟨rfl, rfl, rfl, trivial⟩ ?_
  refine hK3 _ _ ?_
  refine CW.cond (b := (decide (a1 < 1))) rfl (fun hc4 => ?_) (fun hc4 => ?_)
  · have hF := iteT hc4 hF
    refine CW.seq fun K5 hK5 => ?_
    refine CW.region ?_
    refine WL.stepE (OW.pv (v := .int .i64 0) rfl) rfl ?_
    refine WL.nil ?_
    refine NK.sub (L' := [(4, .int .i64 0)]) ⟨rfl, trivial⟩ ?_
    refine hK5 _ _ ?_
    obtain rfl := Option.some.inj hF
    exact CW.rets (vs := [.int .i64 0]) Try.results45 ⟨rfl, trivial⟩ ⟨_, rfl, hE.fresh, rfl⟩ (fun _ _ h => h)
  · have hF := iteF hc4 hF
    refine CW.skip ?_
    refine NK.sub (L' := [(0, .int .i64 a0), (1, .int .i64 a1)]) ⟨rfl, rfl, trivial⟩ ?_
    refine hK2 _ _ ?_
    refine CW.seq fun K6 hK6 => ?_
    refine CW.region ?_
    refine WL.stepE (OW.pv (v := .int .i64 a0) rfl) rfl ?_
    refine WL.stepE (OW.pv (v := .int .i64 a1) rfl) rfl ?_
    obtain ⟨y7, q8, hF⟩ := bindE hF
    refine WL.stepE (OW.rem rfl rfl q8) rfl ?_
    refine WL.stepE (OW.pv (v := .int .i64 a1) rfl) rfl ?_
    refine WL.stepE (OW.pv (v := .int .i64 ((W (y7 + a1)))) rfl) rfl ?_
    refine WL.stepE (OW.pv (v := .int .i64 a1) rfl) rfl ?_
    obtain ⟨y9, q10, hF⟩ := bindE hF
    refine WL.stepE (OW.rem rfl rfl q10) rfl ?_
    refine WL.stepE (OW.pv (v := .int .i64 y9) rfl) rfl ?_
    refine WL.nil ?_
    refine NK.sub (L' := [(4, .int .i64 y9)]) ⟨rfl, trivial⟩ ?_
    refine hK6 _ _ ?_
    obtain rfl := Option.some.inj hF
    exact CW.rets (vs := [.int .i64 y9]) Try.results45 ⟨rfl, trivial⟩ ⟨_, rfl, hE.fresh, rfl⟩ (fun _ _ h => h)

set_option maxHeartbeats 1000000 in
theorem Src_N_raw_ok {sL : List Int} {sk : Int} {a1 : Int} {r : (Int × Int)} (hF : Src_N_raw sL sk a1 = some r) {w0 : World} {sb : Nat} {sv : Value} {Ss : Nat → Prop} (hb : ∃ T, w0.heap[sb]? = some (.cells #[sv, .int .i64 sk] T (0, 0))) (hL : Rv Ss w0 sv sL) (hLn : ∀ b, Ss b → b ≠ sb) :
    Calls Try.prog 13 #[.pointer (some ⟨sb, 0, none⟩), .int .i64 a1] w0 (Ret fun v w' => w0.grownBy w' (some sb) ∧ (∃ T, w'.heap[sb]? = some (.cells #[sv, .int .i64 r.2] T (0, 0))) ∧ v = .int .i64 r.1) := by
  have hE := Ent.refl w0 (some sb)
  have hb : Bk (ent w0 (some sb)) 1 w0 ⟨sb, 0, none⟩ [sv, .int .i64 sk] := ⟨rfl, rfl, ent_raw hb, hb⟩
  have hL := hL.arg (sb := some sb) (fun b hb e => hLn b hb (Option.some.inj e))
  rw [Src_N_raw] at hF
  refine enter (l := [.pointer (some (⟨sb, 0, none⟩ : Addr)), .int .i64 a1]) Try.func13 rfl Try.ntmps13 rfl ?_
  refine CW.sub (L' := [(0, .pointer (some (⟨sb, 0, none⟩ : Addr))), (1, .int .i64 a1)]) ⟨rfl, rfl, trivial⟩ ?_
  refine CW.seq fun K1 hK1 => ?_
  refine CW.region ?_
  refine WL.stepE (OW.pv (v := .int .i64 0) rfl) rfl ?_
  refine WL.nil ?_
  refine NK.sub (L' := [(0, .pointer (some (⟨sb, 0, none⟩ : Addr))), (1, .int .i64 a1)]) ⟨rfl, rfl, trivial⟩ ?_
  refine hK1 _ _ ?_
  refine CW.seq fun K2 hK2 => ?_
  refine CW.seq fun K3 hK3 => ?_
  have ev_ := Evo.drew (ent w0 (some sb)) w0
  refine CW.any (ow := (ent w0 (some sb))) hmix [⟨none, none, [1], [], fun x_ o_ w_ => Bk o_ 1 w_ (⟨sb, 0, none⟩ : Addr) [sv, .int .i64 sk]⟩] [⟨[], [], [], [], fun x_ => .pointer (some (⟨sb, 0, none⟩ : Addr)), false⟩, ⟨[], [], [0], [], fun x_ => .pointer (some (⟨sb, 0, none⟩ : Addr)), false⟩, ⟨[], [], [0, 1], [], fun x_ => .pointer (some ((⟨sb, 0, none⟩ : Addr).add 1)), false⟩, ⟨[], [0], [0, 1, 2], [], fun x_ => .int .i64 sk, false⟩, ⟨[], [], [], [], fun x_ => .pointer (some (⟨sb, 0, none⟩ : Addr)), false⟩, ⟨[], [], [4], [], fun x_ => .pointer (some (⟨sb, 0, none⟩ : Addr)), false⟩, ⟨[], [], [4, 5], [], fun x_ => .pointer (some ((⟨sb, 0, none⟩ : Addr).add 0)), false⟩, ⟨[], [0], [4, 5, 6], [], fun x_ => sv, false⟩, ⟨[], [], [4, 5, 6, 7], [], fun x_ => .int .i64 (len sL), false⟩, ⟨[], [], [0, 1, 2, 3, 4, 5, 6, 7, 8], [], fun x_ => .bool ((decide (sk ≥ (len sL)))), false⟩] [] [] (fun o_ w_ => Ent w0 (some sb) o_ w_) (by kernel_rfl) (by kernel_rfl) ⟨fun _ _ _ _ _ _ ev hd h => Bk.evo h ev hd, trivial⟩ (Ent.any rfl rfl) ⟨hE.evo ev_ rfl rfl, ⟨hb.evo ev_ rfl, trivial⟩⟩ ⟨?_, ?_, ?_, ?_, ?_, ?_, ?_, ?_, ?_, ?_, trivial⟩ ?_
  · intro vs4 o_ w_ hE 
    refine OW.imp (OW.fr (L' := [(0, .pointer (some (⟨sb, 0, none⟩ : Addr)))]) ⟨rfl, trivial⟩ (OW.pv (v := .pointer (some (⟨sb, 0, none⟩ : Addr))) rfl)) ?_
    rintro _ _ ⟨rfl, rfl⟩
    exact ⟨_, Evo.refl _ _ _ _, rfl, trivial⟩
  · intro vs4 o_ w_ hE 
    refine OW.imp (OW.fr (L' := [(5, .pointer (some (⟨sb, 0, none⟩ : Addr)))]) ⟨rfl, trivial⟩ (OW.pv (v := .pointer (some (⟨sb, 0, none⟩ : Addr))) rfl)) ?_
    rintro _ _ ⟨rfl, rfl⟩
    exact ⟨_, Evo.refl _ _ _ _, rfl, trivial⟩
  · intro vs4 o_ w_ hE 
    refine OW.imp (OW.fr (L' := [(6, .pointer (some (⟨sb, 0, none⟩ : Addr)))]) ⟨rfl, trivial⟩ (OW.fldAddr (FldOk.at f77_1) rfl)) ?_
    rintro _ _ ⟨rfl, rfl⟩
    exact ⟨_, Evo.refl _ _ _ _, rfl, trivial⟩
  · intro vs4 o_ w_ hE hb
    have hb : Bk o_ 1 w_ (⟨sb, 0, none⟩ : Addr) [sv, .int .i64 sk] := hb
    refine OW.imp (OW.fr (L' := [(7, .pointer (some ((⟨sb, 0, none⟩ : Addr).add 1)))]) ⟨rfl, trivial⟩ (OW.loadK (off := 1) Int (.int .i64 sk) ty3 rfl hb rfl rfl)) ?_
    rintro _ _ ⟨rfl, rfl⟩
    exact ⟨_, Evo.refl _ _ _ _, rfl, trivial⟩
  · intro vs4 o_ w_ hE 
    refine OW.imp (OW.fr (L' := [(0, .pointer (some (⟨sb, 0, none⟩ : Addr)))]) ⟨rfl, trivial⟩ (OW.pv (v := .pointer (some (⟨sb, 0, none⟩ : Addr))) rfl)) ?_
    rintro _ _ ⟨rfl, rfl⟩
    exact ⟨_, Evo.refl _ _ _ _, rfl, trivial⟩
  · intro vs4 o_ w_ hE 
    refine OW.imp (OW.fr (L' := [(9, .pointer (some (⟨sb, 0, none⟩ : Addr)))]) ⟨rfl, trivial⟩ (OW.pv (v := .pointer (some (⟨sb, 0, none⟩ : Addr))) rfl)) ?_
    rintro _ _ ⟨rfl, rfl⟩
    exact ⟨_, Evo.refl _ _ _ _, rfl, trivial⟩
  · intro vs4 o_ w_ hE 
    refine OW.imp (OW.fr (L' := [(10, .pointer (some (⟨sb, 0, none⟩ : Addr)))]) ⟨rfl, trivial⟩ (OW.fldAddr (FldOk.at f77_0) rfl)) ?_
    rintro _ _ ⟨rfl, rfl⟩
    exact ⟨_, Evo.refl _ _ _ _, rfl, trivial⟩
  · intro vs4 o_ w_ hE hb
    have hb : Bk o_ 1 w_ (⟨sb, 0, none⟩ : Addr) [sv, .int .i64 sk] := hb
    refine OW.imp (OW.fr (L' := [(11, .pointer (some ((⟨sb, 0, none⟩ : Addr).add 0)))]) ⟨rfl, trivial⟩ (OW.loadK (off := 0) (List Int) (sv) ty22 rfl hb rfl rfl)) ?_
    rintro _ _ ⟨rfl, rfl⟩
    exact ⟨_, Evo.refl _ _ _ _, rfl, trivial⟩
  · intro vs4 o_ w_ hE 
    refine OW.imp (OW.fr (L' := [(12, sv)]) ⟨rfl, trivial⟩ (OW.len Try.underlying22 rfl (hL.base hE))) ?_
    rintro _ _ ⟨rfl, rfl⟩
    exact ⟨_, Evo.refl _ _ _ _, rfl, trivial⟩
  · intro vs4 o_ w_ hE 
    refine OW.imp (OW.fr (L' := [(8, .int .i64 sk), (13, .int .i64 (len sL))]) ⟨rfl, rfl, trivial⟩ (OW.pv (v := .bool ((decide (sk ≥ (len sL))))) rfl)) ?_
    rintro _ _ ⟨rfl, rfl⟩
    exact ⟨_, Evo.refl _ _ _ _, rfl, trivial⟩
  · intro vs4 o6 w5 hE hb
    have hb : Bk o6 1 w5 (⟨sb, 0, none⟩ : Addr) [sv, .int .i64 sk] := hb
    refine NK.sub (L' := [(0, .pointer (some (⟨sb, 0, none⟩ : Addr))), (1, .int .i64 a1), (14, .bool ((decide (sk ≥ (len sL)))))]) ⟨rfl, rfl, rfl, trivial⟩ ?_
    refine hK3 _ _ ?_
    refine CW.cond (b := (decide (sk ≥ (len sL)))) rfl (fun hc7 => ?_) (fun hc7 => ?_)
    · have hF := iteT hc7 hF
      refine CW.seq fun K8 hK8 => ?_
      refine CW.region ?_
      refine WL.stepE (OW.pv (v := .int .i64 0) rfl) rfl ?_
      refine WL.nil ?_
      refine NK.sub (L' := [(4, .int .i64 0)]) ⟨rfl, trivial⟩ ?_
      refine hK8 _ _ ?_
      obtain rfl := Option.some.inj hF
      exact CW.rets (vs := [.int .i64 0]) Try.results13 ⟨rfl, trivial⟩ ⟨_, rfl, hE.but, hb.cells, rfl⟩ (fun _ _ h => h)
    · have hF := iteF hc7 hF
      refine CW.skip ?_
      refine NK.sub (L' := [(0, .pointer (some (⟨sb, 0, none⟩ : Addr))), (1, .int .i64 a1)]) ⟨rfl, rfl, trivial⟩ ?_
      refine hK2 _ _ ?_
      refine CW.seq fun K9 hK9 => ?_
      refine CW.region ?_
      refine WL.stepE (OW.pv (v := .pointer (some (⟨sb, 0, none⟩ : Addr))) rfl) rfl ?_
      refine WL.stepE (OW.pv (v := .pointer (some (⟨sb, 0, none⟩ : Addr))) rfl) rfl ?_
      refine WL.stepE (OW.fldAddr (FldOk.at f77_1) rfl) rfl ?_
      refine WL.stepE (OW.loadK (off := 1) Int (.int .i64 sk) ty3 rfl hb rfl rfl) rfl ?_
      refine WL.stepE (OW.pv (v := .int .i64 ((W (sk + 1)))) rfl) rfl ?_
      refine WL.stepE (OW.pv (v := .pointer (some (⟨sb, 0, none⟩ : Addr))) rfl) rfl ?_
      refine WL.stepE (OW.fldAddr (FldOk.at f77_1) rfl) rfl ?_
      refine WL.step0 (OW.storeK (off := 1) Int [sv, .int .i64 ((W (sk + 1)))] [.int .i64 ((W (sk + 1)))] ty3 rfl rfl hb rfl ⟨rfl, trivial⟩ rfl rfl rfl) ?_
      rintro _ w10 ⟨ev11, hb⟩
      have hE := hE.evo ev11 rfl rfl
      refine WL.nil ?_
      refine NK.sub (L' := [(0, .pointer (some (⟨sb, 0, none⟩ : Addr))), (1, .int .i64 a1)]) ⟨rfl, rfl, trivial⟩ ?_
      refine hK9 _ _ ?_
      refine CW.seq fun K12 hK12 => ?_
      obtain ⟨y13, q17, hF⟩ := bindE hF
      obtain ⟨y18, q19, hF⟩ := bindE hF
      have ev_ := Evo.drew o6 w10
      refine CW.any (ow := o6) hmix [⟨none, none, [1], [], fun x_ o_ w_ => Bk o_ 1 w_ (⟨sb, 0, none⟩ : Addr) [sv, .int .i64 ((W (sk + 1)))]⟩, ⟨some 9, none, [0], [9], fun x_ o_ w_ => PtrAt (In o_ [0]) w_ (pOf (x_.getD 0 undef)) y13⟩, ⟨some 9, none, [], [9], fun x_ o_ w_ => EPtr sv 1 ((W (((W (sk + 1))) - 1))) (pOf (x_.getD 0 undef))⟩] [⟨[], [], [], [], fun x_ => .pointer (some (⟨sb, 0, none⟩ : Addr)), false⟩, ⟨[], [], [0], [], fun x_ => .pointer (some (⟨sb, 0, none⟩ : Addr)), false⟩, ⟨[], [], [0, 1], [], fun x_ => .pointer (some ((⟨sb, 0, none⟩ : Addr).add 0)), false⟩, ⟨[], [0], [0, 1, 2], [], fun x_ => sv, false⟩, ⟨[], [], [], [], fun x_ => .pointer (some (⟨sb, 0, none⟩ : Addr)), false⟩, ⟨[], [], [4], [], fun x_ => .pointer (some (⟨sb, 0, none⟩ : Addr)), false⟩, ⟨[], [], [4, 5], [], fun x_ => .pointer (some ((⟨sb, 0, none⟩ : Addr).add 1)), false⟩, ⟨[], [0], [4, 5, 6], [], fun x_ => .int .i64 ((W (sk + 1))), false⟩, ⟨[], [], [4, 5, 6, 7], [], fun x_ => .int .i64 ((W (((W (sk + 1))) - 1))), false⟩, ⟨[], [], [0, 1, 2, 3, 4, 5, 6, 7, 8], [9], fun x_ => .pointer (some (pOf (x_.getD 0 undef))), false⟩, ⟨[], [1], [0, 1, 2, 3, 4, 5, 6, 7, 8, 9], [], fun x_ => .int .i64 y13, false⟩, ⟨[], [], [], [], fun x_ => .int .i64 a1, false⟩, ⟨[], [], [0, 1, 2, 3, 4, 5, 6, 7, 8, 9, 10, 11], [], fun x_ => .int .i64 y18, false⟩, ⟨[], [], [0, 1, 2, 3, 4, 5, 6, 7, 8, 9, 10, 11, 12], [], fun x_ => .int .i64 y18, false⟩] [2] [] (fun o_ w_ => Ent w0 (some sb) o_ w_) (by kernel_rfl) (by kernel_rfl) ⟨fun _ _ _ _ _ _ ev hd h => Bk.evo h ev hd, fun _ _ _ _ _ _ ev hd h => PtrAt.evo h ev hd, fun _ _ _ _ _ _ _ _ h => h, trivial⟩ (Ent.any rfl rfl) ⟨hE.evo ev_ rfl rfl, ⟨hb.evo ev_ rfl, trivial⟩⟩ ⟨?_, ?_, ?_, ?_, ?_, ?_, ?_, ?_, ?_, ?_, ?_, ?_, ?_, ?_, trivial⟩ ?_
      · intro vs25 o_ w_ hE 
        refine OW.imp (OW.fr (L' := [(0, .pointer (some (⟨sb, 0, none⟩ : Addr)))]) ⟨rfl, trivial⟩ (OW.pv (v := .pointer (some (⟨sb, 0, none⟩ : Addr))) rfl)) ?_
        rintro _ _ ⟨rfl, rfl⟩
        exact ⟨_, Evo.refl _ _ _ _, rfl, trivial⟩
      · intro vs25 o_ w_ hE 
        refine OW.imp (OW.fr (L' := [(22, .pointer (some (⟨sb, 0, none⟩ : Addr)))]) ⟨rfl, trivial⟩ (OW.pv (v := .pointer (some (⟨sb, 0, none⟩ : Addr))) rfl)) ?_
        rintro _ _ ⟨rfl, rfl⟩
        exact ⟨_, Evo.refl _ _ _ _, rfl, trivial⟩
      · intro vs25 o_ w_ hE 
        refine OW.imp (OW.fr (L' := [(23, .pointer (some (⟨sb, 0, none⟩ : Addr)))]) ⟨rfl, trivial⟩ (OW.fldAddr (FldOk.at f77_0) rfl)) ?_
        rintro _ _ ⟨rfl, rfl⟩
        exact ⟨_, Evo.refl _ _ _ _, rfl, trivial⟩
      · intro vs25 o_ w_ hE hb
        have hb : Bk o_ 1 w_ (⟨sb, 0, none⟩ : Addr) [sv, .int .i64 ((W (sk + 1)))] := hb
        refine OW.imp (OW.fr (L' := [(24, .pointer (some ((⟨sb, 0, none⟩ : Addr).add 0)))]) ⟨rfl, trivial⟩ (OW.loadK (off := 0) (List Int) (sv) ty22 rfl hb rfl rfl)) ?_
        rintro _ _ ⟨rfl, rfl⟩
        exact ⟨_, Evo.refl _ _ _ _, rfl, trivial⟩
      · intro vs25 o_ w_ hE 
        refine OW.imp (OW.fr (L' := [(0, .pointer (some (⟨sb, 0, none⟩ : Addr)))]) ⟨rfl, trivial⟩ (OW.pv (v := .pointer (some (⟨sb, 0, none⟩ : Addr))) rfl)) ?_
        rintro _ _ ⟨rfl, rfl⟩
        exact ⟨_, Evo.refl _ _ _ _, rfl, trivial⟩
      · intro vs25 o_ w_ hE 
        refine OW.imp (OW.fr (L' := [(26, .pointer (some (⟨sb, 0, none⟩ : Addr)))]) ⟨rfl, trivial⟩ (OW.pv (v := .pointer (some (⟨sb, 0, none⟩ : Addr))) rfl)) ?_
        rintro _ _ ⟨rfl, rfl⟩
        exact ⟨_, Evo.refl _ _ _ _, rfl, trivial⟩
      · intro vs25 o_ w_ hE 
        refine OW.imp (OW.fr (L' := [(27, .pointer (some (⟨sb, 0, none⟩ : Addr)))]) ⟨rfl, trivial⟩ (OW.fldAddr (FldOk.at f77_1) rfl)) ?_
        rintro _ _ ⟨rfl, rfl⟩
        exact ⟨_, Evo.refl _ _ _ _, rfl, trivial⟩
      · intro vs25 o_ w_ hE hb
        have hb : Bk o_ 1 w_ (⟨sb, 0, none⟩ : Addr) [sv, .int .i64 ((W (sk + 1)))] := hb
        refine OW.imp (OW.fr (L' := [(28, .pointer (some ((⟨sb, 0, none⟩ : Addr).add 1)))]) ⟨rfl, trivial⟩ (OW.loadK (off := 1) Int (.int .i64 ((W (sk + 1)))) ty3 rfl hb rfl rfl)) ?_
        rintro _ _ ⟨rfl, rfl⟩
        exact ⟨_, Evo.refl _ _ _ _, rfl, trivial⟩
      · intro vs25 o_ w_ hE 
        refine OW.imp (OW.fr (L' := [(29, .int .i64 ((W (sk + 1))))]) ⟨rfl, trivial⟩ (OW.pv (v := .int .i64 ((W (((W (sk + 1))) - 1)))) rfl)) ?_
        rintro _ _ ⟨rfl, rfl⟩
        exact ⟨_, Evo.refl _ _ _ _, rfl, trivial⟩
      · intro vs25 o_ w_ hE 
        refine OW.imp (OW.fr (L' := [(25, sv), (30, .int .i64 ((W (((W (sk + 1))) - 1))))]) ⟨rfl, rfl, trivial⟩ (OW.indexAddr Try.underlying22 ty3 rfl (hL.base hE) rfl q17)) ?_
        rintro _ _ ⟨rfl, ⟨pa14, hv_, hp15, he16⟩⟩
        subst hv_
        exact ⟨_, Evo.refl _ _ _ _, rfl, hp15, he16, trivial⟩
      · intro vs25 o_ w_ hE hp15
        have hp15 : PtrAt (In o_ [0]) w_ (pOf (vs25 9)) y13 := hp15
        refine OW.imp (OW.fr (L' := [(31, .pointer (some (pOf (vs25 9))))]) ⟨rfl, trivial⟩ (OW.loadI ty3 rfl hp15)) ?_
        rintro _ _ ⟨rfl, rfl⟩
        exact ⟨_, Evo.refl _ _ _ _, rfl, trivial⟩
      · intro vs25 o_ w_ hE 
        refine OW.imp (OW.fr (L' := [(1, .int .i64 a1)]) ⟨rfl, trivial⟩ (OW.pv (v := .int .i64 a1) rfl)) ?_
        rintro _ _ ⟨rfl, rfl⟩
        exact ⟨_, Evo.refl _ _ _ _, rfl, trivial⟩
      · intro vs25 o_ w_ hE 
        refine OW.imp (OW.fr (L' := [(32, .int .i64 y13), (33, .int .i64 a1)]) ⟨rfl, rfl, trivial⟩ (OW.call Try.call45 rfl (dynposmake_Mod_ok q19))) ?_
        rintro _ w20 ⟨hb24, rfl⟩
        obtain ⟨o21, ev22, hn23⟩ := fresh_new (o := o_) 2 hb24
        exact ⟨o21, ev22.sub rfl rfl, rfl, trivial⟩
      · intro vs25 o_ w_ hE 
        refine OW.imp (OW.fr (L' := [(34, .int .i64 y18)]) ⟨rfl, trivial⟩ (OW.pv (v := .int .i64 y18) rfl)) ?_
        rintro _ _ ⟨rfl, rfl⟩
        exact ⟨_, Evo.refl _ _ _ _, rfl, trivial⟩
      · intro vs25 o27 w26 hE hb hp15 he16
        have hb : Bk o27 1 w26 (⟨sb, 0, none⟩ : Addr) [sv, .int .i64 ((W (sk + 1)))] := hb
        have hp15 : PtrAt (In o27 [0]) w26 (pOf (vs25 9)) y13 := hp15
        have he16 : EPtr sv 1 ((W (((W (sk + 1))) - 1))) (pOf (vs25 9)) := he16
        refine NK.sub (L' := [(4, .int .i64 y18)]) ⟨rfl, trivial⟩ ?_
        refine hK12 _ _ ?_
        obtain rfl := Option.some.inj hF
        exact CW.rets (vs := [.int .i64 y18]) Try.results13 ⟨rfl, trivial⟩ ⟨_, rfl, hE.but, hb.cells, rfl⟩ (fun _ _ h => h)

end Go.Proofs.Ytnpghnnlcakbfaa
