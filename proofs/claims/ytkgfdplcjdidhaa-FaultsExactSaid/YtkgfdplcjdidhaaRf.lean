/- A range over slices.Backward: the function that it ranges over. Nothing here names a program. -/
import Derived.RangeFuncSeq
import Derived.RangeFuncRecord
import Derived.Test.YtkgfdplcjdidhaaRo
set_option linter.unusedVariables false
set_option linter.unusedSimpArgs false
set_option linter.unusedSectionVars false
namespace Go.Proofs.Ytkgfdplcjdidhaa
open Go Go.RowKit Dp

namespace Rx

/-- slices.Backward's loop: the types of the slice, its elements, numbers, truth values, yield -/
def rbC (ts te ti tb ty : TypeId) : Code :=
  .seq (.region 0 #[⟨some 4, .load ts (.tmp 1), ts, "iter.go:28", #[], none⟩,
      ⟨some 5, .call { callee := .builtin .len, args := #[.tmp 4], argTypes := #[ts] }, ti, "iter.go:28", #[⟨0, .data⟩], none⟩,
      ⟨some 6, .binOp .sub ti (.tmp 5) (.const (.int .i64 1)) ti, ti, "iter.go:28", #[⟨1, .data⟩], none⟩,
      ⟨some 3, .assign (.tmp 6), ti, "iter.go:28", #[⟨2, .data⟩, ⟨0, .phase⟩, ⟨1, .phase⟩, ⟨2, .phase⟩], none⟩] false)
    (.block 0 (.loop (.seq
      (.seq (.region 1 #[⟨some 7, .move (.tmp 3), ti, "iter.go:28", #[], none⟩,
          ⟨some 8, .binOp .geq ti (.tmp 7) (.const (.int .i64 0)) ti, tb, "iter.go:28", #[⟨0, .data⟩], none⟩] false)
        (.cond (.tmp 8) .skip (.exit 0)))
      (.seq
        (.block 1 (.seq (.region 3 #[⟨some 11, .move (.tmp 0), ty, "iter.go:29", #[], none⟩,
            ⟨some 12, .move (.tmp 3), ti, "iter.go:29", #[], none⟩,
            ⟨some 13, .load ts (.tmp 1), ts, "iter.go:29", #[], none⟩,
            ⟨some 14, .move (.tmp 3), ti, "iter.go:29", #[], none⟩,
            ⟨some 15, .indexAddr ts (.tmp 13) (.tmp 14), 0, "iter.go:29", #[⟨2, .data⟩, ⟨3, .data⟩], none⟩,
            ⟨some 16, .load te (.tmp 15), te, "iter.go:29", #[⟨4, .data⟩], none⟩,
            ⟨some 17, .call { callee := .value (.tmp 11), args := #[.tmp 12, .tmp 16], argTypes := #[ti, te] }, tb, "iter.go:29", #[⟨0, .data⟩, ⟨1, .data⟩, ⟨5, .data⟩], none⟩,
            ⟨some 18, .unOp .not tb (.tmp 17), tb, "iter.go:29", #[⟨6, .data⟩], none⟩] false)
          (.cond (.tmp 18) .ret .skip)))
        (.region 2 #[⟨some 9, .move (.tmp 3), ti, "iter.go:28", #[], none⟩,
          ⟨some 10, .binOp .sub ti (.tmp 9) (.const (.int .i64 1)) ti, ti, "iter.go:28", #[⟨0, .data⟩], none⟩,
          ⟨some 3, .assign (.tmp 10), ti, "iter.go:28", #[⟨1, .data⟩, ⟨0, .phase⟩, ⟨1, .phase⟩], none⟩] false)))))

section
variable {P : Program} {Q : Exit → Act → World → Prop} {L : List (Nat × Value)} {w : World} {n : Nat}

theorem OW.round [I : Rd] {o : Oper} {R : Value → World → Prop} (h : ∀ a, Reads L a → ∃ l f tmps assign body, (execOp a.eval o).run P w = .ok (.round l f tmps assign body) w ∧ RoundIn Fence.wide 0 P l f tmps assign body w (Ret R)) : OW P Q L o w R := by
  intro a K ha hK
  obtain ⟨l, f, tmps, assign, body, h1, h2⟩ := h a ha
  unfold Oper.wpIn
  rw [semAt_run h1 (fun _ h => by cases h), Oper.uponIn_round]
  refine ⟨fun f _ => trivial, fun h => by simp [Rd.F, Fence.wide] at h, ?_⟩
  refine (h2 : RoundIn Fence.wide 0 P l f tmps assign body w (Ret R)).mono ?_
  rintro e w' ⟨v, rfl, hr⟩
  exact hK v w' hr

/-- a call of yield -/
theorem OW.yield [I : Rd] {x : Operand} {args : List Operand} {vs : List Value} {l : Nat} {ats : Array TypeId} {d : Option Tmp} {ty : TypeId} {pos : String} {af : Array Edge} {g : Option (Nat × Bool)} {R : Value → World → Prop} (hx : ev L x = some (.func (.yield l) #[] #[])) (ha : evs L args = some vs)
    (hy : YieldAt Fence.wide 0 P l vs.toArray w (Ret R)) : OW P Q L ⟨d, .call { callee := .value x, args := args.toArray, argTypes := ats }, ty, pos, af, g⟩ w R := by
  obtain ⟨fn, tmps, assign, body, h1, h2⟩ := hy
  refine OW.round fun a hr => ⟨l, fn, tmps, assign, body, ?_, h2⟩
  have h3 : args.toArray.map a.eval = vs.toArray := by rw [← evs_map hr _ ha]; simp
  simp [execOp, resolve, invoke, Deferred.ofValue, hr _ _ hx] at h3 ⊢
  rw [h3, h1]

def kOf : Option Value → Nat
  | some (.int _ i) => (i + 1).toNat
  | _ => 0
def kAt (a : Act) : Nat := kOf a.tmps[3]?
theorem bodyPost_ret0 [I : Rd] {fn : Func} {R : Value → World → Prop} (hres : fn.results = #[]) {L : List (Nat × Value)} (hI : I.ds = []) {w : World} (hR : ∀ v, R v w) : NK n (bodyPost P fn (Ret R) .ret) L w ∧ NK n (bodyPost P fn (Ret R) .normal) L w := by
  constructor
  · exact fun a ha => bodyPost_ret (results_all (rs := []) (vs := []) (fun _ _ hx => ha.ev hx) (by rw [hres]) trivial) (ha.defers.trans hI) ⟨_, rfl, hR _⟩
  · exact fun a ha => bodyPost_end (results_all (rs := []) (vs := []) (fun _ _ hx => ha.ev hx) (by rw [hres]) trivial) (ha.defers.trans hI) ⟨_, rfl, hR _⟩
theorem rb_ok {α : Type} [Rep α] {gf : Nat} {fn : Func} {ts te ti tb ty : TypeId} {zs : List Value} {ze : List Value} (hf : P.funcs[gf]? = some fn) (hb : fn.body = some (rbC ts te ti tb ty)) (hnt : fn.ntmps = 19) (hres : fn.results = #[])
    (hu : P.underlying ts = some (.slice te)) (hT : TyOk P te α) (hTs : TyR P ts false zs) (hzs : zs.length = 1) (hTe : TyR P te (Rep.agg α) ze) (hze : ze.length = Rep.sz α) (hz1 : Rep.agg α = false → ze.length = 1)
    {l b : Nat} {xs : List α} (Inv : Nat → World → Prop) (R : World → Prop)
    (hstep : ∀ k W, Inv k W → ∃ (S : Nat → Prop) (u : Value), CellsAt W ⟨b, 0, none⟩ [u] ∧ Rv S W u xs ∧ ∀ k' y cs, k = k' + 1 → xs[k']? = some y → Rep.rd S W cs y →
      YieldAt Fence.wide 0 P l #[.int .i64 k', pack (Rep.agg α) cs] W (Ret fun v W' => (v = .bool true ∧ Inv k' W') ∨ (v = .bool false ∧ R W')))
    (hdone : ∀ W, Inv 0 W → R W) (h0 : Inv xs.length w) : Calls P gf #[.func (.yield l) #[] #[], ptrV b 0] w (Ret fun _ w' => R w') := by
  refine enter (n := 19) (l := [.func (.yield l) #[] #[], ptrV b 0]) hf hb hnt rfl ?_
  refine CW.seq fun K hK => ?_
  obtain ⟨S, u, h1, h2, _⟩ := hstep _ _ h0
  have hlen : xs.length ≤ maxLen := by
    obtain ⟨p, cap, rfl, e1, e2, _⟩ := rv_list h2
    omega
  have hW : Dp.W ((xs.length : Int) - 1) = (xs.length : Int) - 1 := by
    unfold maxLen at hlen
    exact W_in (by omega) (by omega)
  refine CW.region (WL.stepE (OW.loadR hTs (fun _ => hzs) rfl h1 (by rw [hzs]; rfl)) rfl ?_)
  refine WL.stepE (OW.len hu rfl (by exact h2)) rfl ?_
  refine WL.v rfl rfl ?_
  refine WL.v rfl rfl ?_
  refine WL.nil (hK _ _ ?_)
  refine CW.block ?_
  intro a ha
  refine wpIn_loop (fun a w => ∃ (k : Nat) (L : List (Nat × Value)), Fr 19 L a ∧ Dp.sub [(0, .func (.yield l) #[] #[]), (1, ptrV b 0), (3, .int .i64 ((k : Int) - 1))] L ∧ k ≤ xs.length ∧ Inv k w) (fun a _ => kAt a) ⟨xs.length, _, ha, ⟨rfl, rfl, by rw [← hW]; rfl, trivial⟩, Nat.le_refl _, h0⟩ ?_
  rintro a w ⟨k, L, hfr, hsub, hkl, hinv⟩
  obtain ⟨S, u, h1, h2, h3⟩ := hstep _ _ hinv
  have hka : kAt a = k := by
    have := hfr.get 3 _ (sub_look hsub rfl)
    unfold kAt
    rw [this]
    show ((k : Int) - 1 + 1).toNat = k
    omega
  rw [hka]
  obtain ⟨K, hKd⟩ : ∃ K : Act → World → Prop, K = fun a' w' => (∃ (k : Nat) (L : List (Nat × Value)), Fr 19 L a' ∧ Dp.sub [(0, .func (.yield l) #[] #[]), (1, ptrV b 0), (3, .int .i64 ((k : Int) - 1))] L ∧ k ≤ xs.length ∧ Inv k w') ∧ kAt a' < k := ⟨_, rfl⟩
  rw [← hKd]
  refine CW.sub hsub ?_ a hfr
  refine CW.seq fun K1 hK1 => ?_
  refine CW.seq fun K2 hK2 => ?_
  refine CW.region (WL.v rfl rfl (WL.v rfl rfl ?_))
  refine WL.nil (hK2 _ _ ?_)
  refine CW.cond rfl (fun hc => CW.skip (hK1 _ _ ?_)) (fun hc => CW.exit ?_)
  · have hk1 : 0 ≤ (k : Int) - 1 := by simpa using hc
    obtain ⟨k', rfl⟩ : ∃ k', k = k' + 1 := ⟨k - 1, by omega⟩
    have hkk : ((k' + 1 : Nat) : Int) - 1 = (k' : Int) := by omega
    rw [hkk]
    have hW2 : Dp.W ((k' : Int) - 1) = (k' : Int) - 1 := by
      unfold maxLen at hlen
      exact W_in (by omega) (by omega)
    obtain ⟨y, hy⟩ : ∃ y, xs[k']? = some y := ⟨_, List.getElem?_eq_getElem (by omega)⟩
    refine CW.seq fun K3 hK3 => ?_
    refine CW.block ?_
    refine CW.seq fun K4 hK4 => ?_
    refine CW.region (WL.v rfl rfl (WL.v rfl rfl ?_))
    refine WL.stepE (OW.loadR hTs (fun _ => hzs) rfl h1 (by rw [hzs]; rfl)) rfl ?_
    refine WL.v rfl rfl ?_
    refine WL.stepP (OW.indexAddr (y := y) hu hT rfl h2 rfl (by unfold idx; simp [hy])) rfl ?_
    rintro v ⟨pa, rfl, ⟨cs, hc1, hc2, hc3⟩, _⟩
    refine WL.stepE (OW.loadR hTe hz1 rfl hc3 (by rw [hze]; exact Rep.len hc1)) rfl ?_
    refine WL.step (OW.yield rfl rfl (h3 k' y cs rfl hy hc1)) rfl ?_
    rintro v w' (⟨rfl, hi⟩ | ⟨rfl, hr⟩)
    · refine WL.v rfl rfl (WL.nil (hK4 _ _ ?_))
      refine CW.cond rfl (fun hc => by cases hc) (fun _ => CW.skip (hK3 _ _ ?_))
      refine CW.region (WL.v rfl rfl (WL.v rfl rfl (WL.v rfl rfl (WL.nil ?_))))
      show NK 19 K _ w'
      rw [hKd]
      intro a' ha'
      refine ⟨⟨k', _, ha', ⟨rfl, rfl, (by show some (Value.int .i64 (Dp.W ((k' : Int) - 1))) = _; rw [hW2]), trivial⟩, by omega, hi⟩, ?_⟩
      have := ha'.get 3 _ rfl
      unfold kAt
      rw [this]
      show (Dp.W ((k' : Int) - 1) + 1).toNat < k' + 1
      rw [hW2]
      omega
    · refine WL.v rfl rfl (WL.nil (hK4 _ _ ?_))
      refine CW.cond rfl (fun _ => ?_) (fun hc => by cases hc)
      intro a' ha'
      exact wpIn_ret ((bodyPost_ret0 (L := _) hres rfl fun _ => hr).1 a' ha')
  · have hk0 : k = 0 := by
      have : ¬ (0 ≤ (k : Int) - 1) := by simpa using hc
      omega
    subst hk0
    intro a' ha'
    show (if 0 = 0 then bodyPost P fn (Ret fun _ w' => R w') .normal a' w else bodyPost P fn (Ret fun _ w' => R w') (.exit 0) a' w)
    rw [if_pos rfl]
    exact (bodyPost_ret0 (L := _) hres rfl fun _ => hdone _ hinv).2 a' ha'
end

/-! the statement -/
section
variable {D : Nat → Type}
/-- cells that read as data, without names -/
def cells0 (K : List Nat) : List (DV D) → List (A1 D)
  | [] => []
  | ⟨l, d⟩ :: r => .v l d (leafK K l) 0 :: cells0 K r
def dropS (wr : List Nat) (σ : S D) : S D := { σ with sl := σ.sl.filter fun p => !(memN wr p.1) }
/-- one round, from the last element on -/
noncomputable def roundK (T : Tab D) (Φ : List (Con D)) (n : Nat) (xs : List (D n)) (K wr : List Nat) (p0 p1 : Nat) (assign body : Code) (ana anb : An) {ρ : Type} (σ : S D) (k : Out → S D → Option ρ) : Option ρ := match lookN σ.sl p0 with
  | some (.c (.one (.v (.int .i64) c _ _))) => cnd (ilt c 0) (k (.exit 0) (dropS wr σ)) (obind (idx xs c) fun y => match packA (T.ag n) (cells0 K (T.out n y)) with
    | some a => cps T Φ assign ana { σ with sl := (p1, a) :: σ.sl } fun o σ1 => match o with
      | .normal => cps T Φ body anb σ1 fun o σ2 => match o with
        | .normal => k .normal { σ2 with sl := (p0, iv .i64 (isub0 c 1) 0) :: σ2.sl }
        | .ret => k .ret (dropS wr σ2)
        | _ => none
      | _ => none
    | none => none)
  | _ => none
def rwr (p0 p1 : Nat) (assign body : Code) : List Nat := p0 :: p1 :: (writes assign ++ writes body)
def rok (c : Code) : Bool := okC c && noSp c && noScp c
noncomputable def rangeK (T : Tab D) (Φ : List (Con D)) (Bk : List (Nat × Nat)) (g p0 p1 : Nat) (assign body : Code) (j : J) (pr : Bool) (E : List (Out × J)) (ana anb : An) {ρ : Type} (σ : S D) (k : Out → S D → Option ρ) : Option ρ := match lookN σ.sl g with
  | some (.c (.one (.fn f caps))) => match caps with
    | [.ptr i off] => match lookN Bk f, lookO σ.ob i with
      | some n, some (.box cs) => match cs with
        | [.v (.sl n') xs K _] => if Nat.beq off 0 && Nat.beq n n' && memN ((kept σ (j.mv ++ mvE E)).map Prod.fst ++ σ.lk) i && !(memN (rwr p0 p1 assign body) g) && j.sl.all (fun p => Nat.beq p.1 p0) && !(Nat.beq p0 p1) && rok assign && rok body then
            loopK T (rwr p0 p1 assign body) j pr E (fun σ k => roundK T Φ n' xs K (rwr p0 p1 assign body) p0 p1 assign body ana anb σ k) { σ with sl := (p0, iv .i64 (isub0 (len xs) 1) 0) :: σ.sl } fun o σ1 => match o with
              | .exit _ => k .normal σ1
              | .ret => k .ret σ1
              | _ => none
          else none
        | _ => none
      | _, _ => none
    | _ => none
  | _ => none
/-- a range over a function behind a region -/
def rfOf : Code → Option (Code × Nat × Nat × Nat × Nat × Code × Code)
  | .seq r (.block id (.rangeFunc (.tmp g) ps assign body)) => match ps.toList with
    | [p0, p1] => some (r, id, g, p0, p1, assign, body)
    | _ => none
  | _ => none
def rfAn : An → Option (J × Bool × List (Out × J) × An)
  | .loop j pr E x => some (j, pr, E, x)
  | _ => none
noncomputable def cpsT (T : Tab D) (Φ : List (Con D)) (Bk : List (Nat × Nat)) : Code → An → ∀ {ρ : Type}, S D → (Out → S D → Option ρ) → Option ρ
  | .seq a b, an, _, σ, k => match rfOf a with
    | some (r, id, g, p0, p1, assign, body) => match rfAn an.a.b with
      | some (j, pr, E, x) => frzK an.a.a.fz σ fun σ => cps T Φ r an.a.a.un σ fun o σ1 => match o with
        | .normal => rangeK T Φ Bk g p0 p1 assign body j pr E x.a x.b σ1 fun o σ2 => match o with
          | .normal => cps T Φ b an.b σ2 k
          | o => k o σ2
        | o => k o σ1
      | none => none
    | none => frzK an.a.fz σ fun σ => cps T Φ a an.a.un σ fun o σ1 => match o with
      | .normal => cpsT T Φ Bk b an.b σ1 k
      | o => k o σ1
  | _, _, _, _, _ => none
def okT : Code → Bool
  | .seq a b => (match rfOf a with
    | some x => okC x.1 && noSp x.1 && okC b && noSp b
    | none => okC a && noSp a && okT b)
  | _ => true
noncomputable def semR (T : Tab D) (Φ : List (Con D)) (Bk : List (Nat × Nat)) (c : Con D) (rs : List ResultVar) (code : Code) (an : An) (h : HH D c.ins) : Option (HH D c.outs) := match okT code with
  | true => match entS T c h with
    | some σ => frzK an.fz σ fun σ => cpsT T Φ Bk code an.un σ (retK T c rs)
    | none => none
  | false => none
end

/-! blocks that only the machine looks at -/
section
variable {D : Nat → Type} [∀ n, Rep (D n)]
variable {P : Program} {T : Tab D} {Φ : List (Con D)} {n : Nat}
variable {γ γ' γ'' : Gh D} {w w' w'' : World} {Z : List Nat}
structure FrZ (Z : List Nat) (γ : Gh D) (w : World) (γ' : Gh D) (w' : World) : Prop where
  os : w'.os = w.os
  tape : w'.tape = w.tape
  output : w'.output = w.output
  size : w.heap.size ≤ w'.heap.size
  ro : ∀ b, b ∉ Z → b < w.heap.size → (γ.o b = 0 ∨ γ.o b = 3) → γ'.o b = γ.o b ∧ w'.heap[b]? = w.heap[b]?
  back : ∀ b, b ∉ Z → b < w'.heap.size → (γ'.o b = 0 ∨ γ'.o b = 3) → b < w.heap.size ∧ γ.o b = γ'.o b
  gk : ∀ i, i < 2000 → γ'.g i = γ.g i
theorem FrZ.of (h : Rx.Frame γ w γ' w') : FrZ Z γ w γ' w' := ⟨h.os, h.tape, h.output, h.size, fun b _ => h.ro b, fun b _ => h.back b, h.gk⟩
theorem FrZ.trans (h : FrZ Z γ w γ' w') (k : FrZ Z γ' w' γ'' w'') : FrZ Z γ w γ'' w'' := by
  refine ⟨k.os.trans h.os, k.tape.trans h.tape, k.output.trans h.output, Nat.le_trans h.size k.size, fun b hz hb hc => ?_, fun b hz hb hc => ?_, fun i hi => (k.gk i hi).trans (h.gk i hi)⟩
  · obtain ⟨h1, h2⟩ := h.ro b hz hb hc
    obtain ⟨k1, k2⟩ := k.ro b hz (Nat.lt_of_lt_of_le hb h.size) (by rw [h1]; exact hc)
    exact ⟨k1.trans h1, k2.trans h2⟩
  · obtain ⟨k1, k2⟩ := k.back b hz hb hc
    obtain ⟨h1, h2⟩ := h.back b hz k1 (by rw [k2]; exact hc)
    exact ⟨h1, h2.trans k2⟩
theorem FrZ.frame (h : FrZ Z γ w γ' w') (h1 : ∀ b ∈ Z, w.heap.size ≤ b) (h2 : ∀ b ∈ Z, γ'.o b = 2) : Rx.Frame γ w γ' w' :=
  ⟨⟨h.os, h.tape, h.output, h.size, fun b hb hc => h.ro b (fun hz => by have := h1 b hz; omega) hb hc, fun b hb hc => h.back b (fun hz => by rw [h2 b hz] at hc; omega) hb hc⟩, h.gk⟩
def recl (γ : Gh D) (Z : List Nat) (c : Nat) : Gh D := ⟨fun b => if b ∈ Z then c else γ.o b, γ.g, γ.v⟩
theorem recl_in {c b : Nat} (h : b ∈ Z) : (recl γ Z c).o b = c := by simp [recl, h]
theorem recl_out {c b : Nat} (h : b ∉ Z) : (recl γ Z c).o b = γ.o b := by simp [recl, h]
/-- worlds that differ there alone -/
structure WZ (Z : List Nat) (w w' : World) : Prop where
  os : w'.os = w.os
  tape : w'.tape = w.tape
  output : w'.output = w.output
  size : w.heap.size ≤ w'.heap.size
  same : ∀ b, b ∉ Z → b < w.heap.size → w'.heap[b]? = w.heap[b]?
  new : ∀ b, b < w'.heap.size → b < w.heap.size ∨ b ∈ Z
theorem WZ.refl (Z : List Nat) (w : World) : WZ Z w w := ⟨rfl, rfl, rfl, Nat.le_refl _, fun _ _ _ => rfl, fun _ h => .inl h⟩
theorem WZ.put {l : Nat} {o : Obj} (h : l ∈ Z) : WZ Z w (w.putObj l o) :=
  ⟨rfl, rfl, rfl, by simp, fun b hb _ => World.putObj_heap_other fun e => hb (e ▸ h), fun b hb => .inl (by simpa using hb)⟩
theorem FrZ.wz {c : Nat} (h : WZ Z w w') : FrZ Z γ w (recl γ Z c) w' :=
  ⟨h.os, h.tape, h.output, h.size, fun b hz hb _ => ⟨recl_out hz, h.same b hz hb⟩, fun b hz hb _ => ⟨(h.new b hb).resolve_right hz, (recl_out hz).symm⟩, fun _ _ => rfl⟩
theorem Kn.wz {σ : S D} {L : List (Nat × Value)} {c : Nat} (hk : Kn σ γ w L) (hc : c = 2 ∨ c = 3) (hZ : ∀ b ∈ Z, b < w.heap.size → γ.o b = 2 ∨ γ.o b = 3) (h : WZ Z w w') : Kn σ (recl γ Z c) w' L := by
  have hkp : Keep (fun i => i < σ.nx) (fun i => i < σ.nx) γ w (recl γ Z c) w' := ⟨fun _ h => h, fun _ _ => rfl, fun _ _ => rfl, fun b hb hlt => by
    have hz : b ∉ Z := fun hz => by have := hZ b hz hb; omega
    exact ⟨recl_out hz, h.same b hz hb⟩⟩
  refine ⟨hk.sr.keep hkp, ⟨fun i x hx => ?_, fun b hb => ?_, hk.ob.ro⟩, hk.big⟩
  · obtain ⟨h1, h2, h3⟩ := hk.ob.ob i x hx
    refine ⟨h1, h2, h3.keep hkp h2 fun b hb hbi => ?_⟩
    have hz : b ∉ Z := fun hz => by have := hZ b hz hb; omega
    exact ⟨recl_out hz, h.same b hz hb⟩
  · have := hk.big
    by_cases hz : b ∈ Z
    · rw [recl_in hz]
      show c < σ.nx
      omega
    · rw [recl_out hz]
      exact hk.ob.cl b ((h.new b hb).resolve_right hz)

/-! all slots of a frame -/
def allL (a : Act) : List (Nat × Value) := argsL 0 a.tmps.toList
theorem look_args : ∀ (l : List Value) (k t : Nat) (v : Value), k ≤ t → l[t - k]? = some v → Dp.look (argsL k l) t = some v
  | [], k, t, v, _, h => by simp at h
  | u :: r, k, t, v, hk, h => by
    unfold argsL
    by_cases hkt : k = t
    · subst hkt
      rw [look_cons_eq]
      simpa using h
    · rw [look_cons_ne _ _ hkt]
      refine look_args r (k + 1) t v (by omega) ?_
      rw [show t - k = (t - (k + 1)) + 1 by omega] at h
      simpa using h
theorem look_allL {a : Act} {t : Nat} {v : Value} : Dp.look (allL a) t = some v ↔ a.tmps[t]? = some v := by
  constructor
  · intro h
    obtain ⟨_, h2⟩ := look_argsL _ _ _ _ h
    simpa using h2
  · intro h
    exact look_args _ _ _ _ (Nat.zero_le _) (by simpa using h)
theorem Kn.all [Rd] {σ : S D} {L : List (Nat × Value)} {a : Act} (h : Kn σ γ w L) (ha : Fr n L a) : Kn σ γ w (allL a) :=
  ⟨fun t x hx => by
    obtain ⟨v, h1, h2⟩ := h.sr t x hx
    exact ⟨v, look_allL.2 (ha.get t v h1), h2⟩, h.ob, h.big⟩
theorem fr_all [Rd] {L : List (Nat × Value)} {a : Act} (ha : Fr n L a) : Fr n (allL a) a := ⟨ha.size, ha.defers, fun t v h => look_allL.1 h, ha.fix⟩

/-- which slots stand behind a joint -/
theorem inJ_keys {j : J} {wr mv : List Nat} {σ σ2 : S D} {h : HH D j.hts} (hi : inJ T j wr mv σ h = some σ2) {t : Nat} {a : AV D} (ht : lookN σ2.sl t = some a) : (t ∈ j.sl.map Prod.fst ∧ t ∈ wr) ∨ t ∉ wr := by
  unfold inJ at hi
  dsimp only at hi
  split at hi
  case isFalse => cases hi
  rename_i hc
  split at hi
  case h_2 => cases hi
  rename_i sa sb hsa hsb
  cases hi
  simp only [Bool.and_eq_true, List.all_eq_true] at hc
  simp only at ht
  rw [lookN_append] at ht
  cases hl : lookN sa t with
  | some x =>
    unfold inSl at hsa
    split at hsa
    case h_2 => cases hsa
    cases hsa
    have hk := zipS_keys hl
    obtain ⟨q, hq, e⟩ := List.mem_map.1 hk
    exact .inl ⟨hk, e ▸ memN_iff.1 (hc.1.2 q hq)⟩
  | none =>
    rw [hl] at ht
    right
    intro hw
    have := lookN_filter (f := fun t => !(memN wr t)) (l := σ.sl) (t := t)
    rw [memN_iff.2 hw] at this
    simp only [Bool.not_true, Bool.false_eq_true, if_false] at this
    simp only at ht
    rw [this] at ht
    cases ht
theorem exJ_slots {j : J} {σ : S D} {h : HH D j.hts} (hx : ExR T j σ h) {t : Nat} (ht : t ∈ j.sl.map Prod.fst) : ∃ a, lookN σ.sl t = some a := by
  obtain ⟨avs, l, m, ha, _⟩ := hx.ex
  have key : ∀ {js : List (Nat × PC)} {avs : List (AV D)}, avsOf σ.sl js = some avs → t ∈ js.map Prod.fst → ∃ a, lookN σ.sl t = some a := by
    intro js
    induction js with
    | nil => intro avs _ h; simp at h
    | cons q js ih =>
      intro avs h hm
      obtain ⟨t0, p⟩ := q
      simp only [avsOf] at h
      split at h
      case h_2 => cases h
      rename_i x y h1 h2
      simp only [List.map_cons, List.mem_cons] at hm
      rcases hm with rfl | hm
      · exact ⟨x, h1⟩
      · exact ih h2 hm
  exact key ha ht
theorem dropS_look {wr : List Nat} {σ : S D} {t : Nat} : lookN (dropS wr σ).sl t = if t ∈ wr then none else lookN σ.sl t := by
  have := lookN_filter (f := fun t => !(memN wr t)) (l := σ.sl) (t := t)
  unfold dropS
  simp only
  rw [this]
  by_cases h : t ∈ wr
  · rw [memN_iff.2 h]; simp [h]
  · have : memN wr t = false := by
      cases hm : memN wr t with
      | true => exact (h (memN_iff.1 hm)).elim
      | false => rfl
    rw [this]; simp [h]
theorem cells0_ok {U : Nat → Prop} {K : List Nat} (hK : roK K) : ∀ {ds : List (DV D)} {us : List Value}, LRd (In γ.o K) w us ds → VR1s U γ w (cells0 K ds) us
  | [], [], _ => trivial
  | ⟨lf, x⟩ :: ds, u :: us, h => by
    refine ⟨⟨?_, .inl rfl, ?_⟩, cells0_ok hK h.2⟩
    · have h1 := h.1
      cases lf with
      | sl m => exact h1
      | _ => exact h1
    · cases lf with
      | sl m => exact hK
      | _ => exact fun _ h => by cases h
  | [], _ :: _, h => h.elim
  | _ :: _, [], h => h.elim


theorem Kn.drop {σ : S D} {L : List (Nat × Value)} (h : Kn σ γ w L) (wr : List Nat) : Kn (dropS wr σ) γ w L :=
  ⟨fun t x hx => by
    rw [dropS_look] at hx
    split at hx
    · cases hx
    · exact h.sr t x hx, h.ob, h.big⟩
theorem Kn.rebase {σ : S D} {L L' : List (Nat × Value)} (h : Kn σ γ w L) (hs : ∀ t x v, lookN σ.sl t = some x → Dp.look L t = some v → Dp.look L' t = some v) : Kn σ γ w L' :=
  ⟨fun t x hx => by
    obtain ⟨v, h1, h2⟩ := h.sr t x hx
    exact ⟨v, hs t x v hx h1, h2⟩, h.ob, h.big⟩
theorem loopN_some {σ ρ : Type} {step : σ → Option (σ ⊕ ρ)} {N : Nat} {s : σ} {r : ρ} (h : loopN step N s = some r) : ∃ N' y, N = N' + 1 ∧ step s = some y ∧ ((∃ s', y = .inl s' ∧ loopN step N' s' = some r) ∨ y = .inr r) := by
  cases N with
  | zero => cases h
  | succ N' =>
    rw [loopN_succ] at h
    cases hs : step s with
    | none => rw [hs] at h; cases h
    | some y =>
      rw [hs] at h
      cases y with
      | inl s' => exact ⟨N', _, rfl, rfl, .inl ⟨s', rfl, h⟩⟩
      | inr r' => cases h; exact ⟨N', _, rfl, rfl, .inr rfl⟩

theorem packA_ok {U : Nat → Prop} {g : Bool} {cs : List (A1 D)} {us : List Value} {x : AV D} (h : VR1s U γ w cs us) (hx : packA g cs = some x) : VRV U γ w x (pack g us) := by
  unfold packA at hx
  cases g with
  | true => cases hx; exact ⟨us, rfl, h⟩
  | false =>
    simp only [Bool.false_eq_true, if_false] at hx
    match cs, us, h, hx with
    | [c], [u], h, hx => cases hx; exact h.1
    | [], [], _, hx => cases hx
    | c :: c' :: r, _, _, hx => cases hx
def BkOk (P : Program) (T : Tab D) (q : Nat × Nat) : Prop := ∃ (fn : Func) (ts te ti tb ty : TypeId) (tyd : TyD), Nat.blt q.1 1000000 = true ∧ (∀ (args : Array Value) (w : World), (callFunc q.1 args).run P w = .ok (.enter q.1 args) w) ∧ P.funcs[q.1]? = some fn ∧ fn.body = some (rbC ts te ti tb ty) ∧ fn.ntmps = 19 ∧ fn.results = #[] ∧
  lookN T.els ts = some (te, q.2) ∧ lookN T.ty ts = some (.one (.sl q.2)) ∧ lookN T.ty te = some tyd ∧ tyd.agg = T.ag q.2 ∧ tyd.n T = (T.lv q.2).length
def mark (b : Nat) : Deferred := { target := .collected b, args := #[] }
@[reducible] def Rd.aft (b : Nat) : Rd := ⟨none, [mark b], fun _ => none⟩

theorem range_ok (hP : POk P T) (hR : RepOk T) (hΦ : ∀ c ∈ Φ, ConOk P T c) (hm : P.follows .mixedOrders = true) {Bk : List (Nat × Nat)} (hB : ∀ q ∈ Bk, BkOk P T q) {id g p0 p1 : Nat} {assign body : Code} {j : J} {pr : Bool} {E : List (Out × J)} {ana anb : An} {ρ : Type} {σ : S D} {k : Out → S D → Option ρ} {r : ρ} {γ : Gh D} {w : World} {L : List (Nat × Value)} {Q : Exit → Act → World → Prop}
    (h : rangeK T Φ Bk g p0 p1 assign body j pr E ana anb σ k = some r) (hk : Kn σ γ w L) (hd : ∀ t ∈ rwr p0 p1 assign body, Nat.blt t n = true)
    (hc : ∀ b o σ1 γ1 w1 L1, Kn σ1 γ1 w1 L1 → Rx.Frame γ w γ1 w1 → w.heap.size ≤ b → b < w1.heap.size → γ1.o b = 2 → w1.heap[b]? = some (.deferred (some [])) → k o σ1 = some r → o = .normal ∨ o = .ret → ∀ a1, @Fr (Rd.aft b) n L1 a1 → Q (toX o) a1 w1) :
    CW P n (.block id (.rangeFunc (.tmp g) #[p0, p1] assign body)) Q L w := by
  intro a ha
  refine wpIn_block (wpIn_rangeFunc fun fnid _ => ?_)
  unfold rangeK at h
  split at h
  case h_2 => cases h
  rename_i f caps hg
  split at h
  case h_2 => cases h
  rename_i i off
  split at h
  case h_2 => cases h
  rename_i nn cs hbk hob
  split at h
  case h_2 => cases h
  rename_i n' xs K gx
  split at h
  case isFalse => cases h
  rename_i hcond
  obtain ⟨wr, hwr⟩ : ∃ wr, wr = rwr p0 p1 assign body := ⟨_, rfl⟩
  rw [← hwr] at h hcond hd
  simp only [Bool.and_eq_true, Bool.not_eq_true'] at hcond
  obtain ⟨⟨⟨⟨⟨⟨⟨c1, c2⟩, c3⟩, c4⟩, c5⟩, c6⟩, c7⟩, c8⟩ := hcond
  have c1 := Nat.eq_of_beq_eq_true c1
  have c2 := Nat.eq_of_beq_eq_true c2
  subst c1 c2
  have hp01 : p0 ≠ p1 := fun e => by subst e; simp at c6
  have hgw : g ∉ wr := memN_false c4
  have hp0 : p0 ∈ wr := by rw [hwr]; unfold rwr; simp
  have hp1 : p1 ∈ wr := by rw [hwr]; unfold rwr; simp
  -- the closure
  have hkall := hk.all ha
  have hfra := fr_all ha
  have hasz := ha.size
  obtain ⟨gv, hgv, cvs, hgf, hgc⟩ := hkall.sr g _ hg
  obtain ⟨bv, hbv, hbi⟩ : ∃ b, γ.g i = ptrV b 0 ∧ cvs = [ptrV b 0] := by
    match cvs, hgc with
    | [v], ⟨⟨_, b, h1, h2⟩, _⟩ => exact ⟨b, h1, by rw [h2]⟩
  subst hbi
  obtain ⟨fn, ts, te, ti, tb, ty, tyd, b1, b2, b3, b4, b5, b6, b7, b8, b9, b10, b11⟩ := hB (f, nn) (lookN_mem hbk)
  dsimp only at b1 b2 b3 b7 b8 b10 b11
  have hgfn : gv = .func (.func f) #[] #[ptrV bv 0] := by rw [hgf]; unfold fnV; rw [if_pos b1]
  -- the state ahead of the loop
  obtain ⟨σ', hσ'⟩ : ∃ σ' : S D, σ' = { σ with sl := (p0, iv .i64 (isub0 (len xs) 1) 0) :: σ.sl } := ⟨_, rfl⟩
  rw [← hσ'] at h
  have hk' : Kn σ' γ w ((p0, .int .i64 (isub0 (len xs) 1)) :: allL a) := by
    rw [hσ']
    exact ⟨hkall.sr.cons ⟨rfl, .inl rfl, fun _ h => by cases h⟩, hkall.ob, hkall.big⟩
  have hlk' : σ'.lk = σ.lk := by rw [hσ']
  have hob' : σ'.ob = σ.ob := by rw [hσ']
  unfold loopK at h
  obtain ⟨h0, hx0, h⟩ := exJ_R h
  obtain ⟨x, hx, hf⟩ := bindE h
  clear h
  obtain ⟨mv, hmv⟩ : ∃ mv, mv = j.mv ++ mvE E := ⟨_, rfl⟩
  rw [← hmv] at hx hf hx0 c3
  obtain ⟨lk, hlk⟩ : ∃ lk, lk = (kept σ' mv).map Prod.fst ++ σ'.lk := ⟨_, rfl⟩
  rw [← hlk] at hx hx0
  have hil : i ∈ lk := by
    rw [hlk]
    unfold kept at c3 ⊢
    rw [hob', hlk']
    exact memN_iff.1 c3
  obtain ⟨kout, hkout⟩ : ∃ kout : Out → S D → Option ρ, kout = fun o σ1 => match o with
    | .exit _ => k .normal σ1
    | .ret => k .ret σ1
    | _ => none := ⟨_, rfl⟩
  rw [← hkout] at hf hx
  obtain ⟨step, hstep, hx⟩ : ∃ step : HH D j.hts → Option (HH D j.hts ⊕ ExT D pr ρ E), (∀ h y, step h = some y → ∃ σh, inJ T j wr mv σ' h = some σh ∧ ∃ kk : Out → S D → Option (HH D j.hts ⊕ ExT D pr ρ E), (∀ σ1, kk .normal σ1 = exJ T j σ1 fun h' => some (.inl h')) ∧
      (∀ o σ1, o ≠ .normal → kk o σ1 = match toE T pr E o σ1 (kout o { σ1 with lk := σ'.lk }) with
        | some x => some (.inr x)
        | none => none) ∧ roundK T Φ nn xs K wr p0 p1 assign body ana anb { σh with lk := lk } kk = some y) ∧ loopO step h0 = some x := by
    refine ⟨_, fun h y hy => ?_, hx⟩
    dsimp only at hy
    split at hy
    case h_2 => cases hy
    rename_i σh hσh
    exact ⟨σh, hσh, _, fun _ => rfl, fun o σ1 ho => by cases o <;> first | rfl | exact (ho rfl).elim, hy⟩
  -- the two blocks of the machine's
  obtain ⟨rec, hrec⟩ : ∃ rec : LoopState → Option Code → Loop, rec = fun st pe => { state := st, pending := pe, fn := fnid, tmps := a.tmps, params := #[p0, p1], assign, body, defers := w.heap.size } := ⟨_, rfl⟩
  obtain ⟨W1, hW1⟩ : ∃ W1, (w.alloc (.deferred (some []))).alloc (.loop (rec .ready none)) = W1 := ⟨_, rfl⟩
  obtain ⟨l, hl⟩ : ∃ l, l = w.heap.size + 1 := ⟨_, rfl⟩
  have hL1 : W1.heap[l]? = some (.loop (rec .ready none)) := by
    rw [← hW1, hl]; have := World.alloc_heap_new (w.alloc (.deferred (some []))) (.loop (rec .ready none)); rwa [World.size_alloc] at this
  have hK1 : W1.heap[w.heap.size]? = some (.deferred (some [])) := by
    rw [← hW1]; exact (Below.heap_alloc _ _ _ (by simp)).trans (World.alloc_heap_new w _)
  obtain ⟨Z, hZ⟩ : ∃ Z : List Nat, Z = [w.heap.size, l] := ⟨_, rfl⟩
  have hlZ : l ∈ Z := by rw [hZ]; simp
  have hDZ : w.heap.size ∈ Z := by rw [hZ]; simp
  have hZge : ∀ b ∈ Z, w.heap.size ≤ b := fun b hb => by
    rw [hZ] at hb
    simp only [List.mem_cons, List.not_mem_nil, or_false] at hb
    omega
  have hDl : w.heap.size ≠ l := by omega
  have hWZ : WZ Z w W1 := by
    rw [← hW1]
    refine ⟨rfl, rfl, rfl, by simp; omega, fun b hb hlt => ?_, fun b hb => ?_⟩
    · rw [Below.heap_alloc _ _ _ (by simp; omega), Below.heap_alloc _ _ _ hlt]
    · rw [World.size_alloc, World.size_alloc] at hb
      rw [hZ]
      simp only [List.mem_cons, List.not_mem_nil, or_false]
      omega
  -- at the end
  obtain ⟨R, hRd⟩ : ∃ R : World → Prop, R = fun W => ∃ st jump o σ1 γ1, st ≠ .busy ∧ W.heap[l]? = some (.loop (rec st jump)) ∧ W.heap[w.heap.size]? = some (.deferred (some [])) ∧ Kn σ1 γ1 W (allL a) ∧ FrZ Z γ w γ1 W ∧ (∀ b ∈ Z, γ1.o b = 2) ∧ k o σ1 = some r ∧ ((jump = none ∧ o = .normal) ∨ (jump = some .ret ∧ o = .ret)) := ⟨_, rfl⟩
  obtain ⟨Inv, hInv⟩ : ∃ Inv : Nat → World → Prop, Inv = fun (m : Nat) W => ∃ N h' σh γh, loopN step N h' = some x ∧ inJ T j wr mv σ' h' = some σh ∧ Kn σh γh W ((p0, .int .i64 ((m : Int) - 1)) :: allL a) ∧ FrZ Z γ w γh W ∧ Ext wr { σ' with lk := lk } { σh with lk := lk } ∧ (∀ b ∈ Z, γh.o b = 2) ∧ W.heap[l]? = some (.loop (rec .ready none)) ∧ W.heap[w.heap.size]? = some (.deferred (some [])) := ⟨_, rfl⟩
  have hcall : Calls P f #[.func (.yield l) #[] #[], ptrV bv 0] W1 (Ret fun _ w' => R w') := by
    have head : ∀ {m : Nat} {N : Nat} {s : HH D j.hts} {σ1 : S D} {γ1 : Gh D} {W : World} {L1 : List (Nat × Value)}, loopN step N s = some x → Kn σ1 γ1 W L1 → Ext wr { σ' with lk := lk } σ1 → ExR T j σ1 s → FrZ Z γ w γ1 W → (∀ b ∈ Z, γ1.o b = 3) → W.heap[l]? = some (.loop (rec .ready none)) → W.heap[w.heap.size]? = some (.deferred (some [])) →
        (∀ t v, t ∉ wr ∨ t = p0 → Dp.look L1 t = some v → Dp.look ((p0, .int .i64 ((m : Int) - 1)) :: allL a) t = some v) → Inv m W := by
      intro m N s σ1 γ1 W L1 hN hk1 he hxr hfr hcl hwl hwD hre
      obtain ⟨N', y, _, hs, _⟩ := loopN_some hN
      obtain ⟨σh, hσh, _⟩ := hstep _ _ hs
      obtain ⟨γ2, k1, k2, k3, _⟩ := join_ok hR hlk hk' hk1 he hxr hσh
      have hZlt : ∀ b ∈ Z, b < W.heap.size := fun b hb => by
        rw [hZ] at hb
        simp only [List.mem_cons, List.not_mem_nil, or_false] at hb
        rcases hb with rfl | rfl
        · exact (Array.getElem?_eq_some_iff.1 hwD).1
        · exact (Array.getElem?_eq_some_iff.1 hwl).1
      have hcl2 : ∀ b ∈ Z, γ2.o b = 3 := fun b hb => by
        rw [(k2.ro b (hZlt b hb) (.inr (hcl b hb))).1]; exact hcl b hb
      rw [hInv]
      refine ⟨N, s, σh, recl γ2 Z 2, hN, hσh, (k1.wz (.inl rfl) (fun b hb _ => .inr (hcl2 b hb)) (.refl Z W)).rebase fun t y v hy hv => hre t v ?_ hv, (hfr.trans (.of k2)).trans (.wz (.refl Z W)), k3, fun b hb => recl_in hb, hwl, hwD⟩
      rcases inJ_keys hσh hy with ⟨h1, _⟩ | h1
      · right
        obtain ⟨q, hq, rfl⟩ := List.mem_map.1 h1
        exact Nat.eq_of_beq_eq_true (List.all_eq_true.1 c5 q hq)
      · exact .inl h1
    have leave : ∀ {o : Out} {s : HH D j.hts} {y : HH D j.hts ⊕ ExT D pr ρ E} {N : Nat} {σ1 : S D} {γ1 : Gh D} {W : World} {L1 : List (Nat × Value)}, loopN step N s = some x → step s = some y → (match toE T pr E o σ1 (kout o { σ1 with lk := σ'.lk }) with | some x => some (.inr x) | none => none) = some y →
        Kn σ1 γ1 W L1 → Ext wr { σ' with lk := lk } σ1 → (∀ t, t ∈ wr → lookN σ1.sl t = none) → FrZ Z γ w γ1 W → (∀ b ∈ Z, γ1.o b = 3 ∧ b < W.heap.size) → (∀ t v, t ∉ wr → Dp.look L1 t = some v → Dp.look (allL a) t = some v) → ∃ σ2 γ2, Kn σ2 γ2 W (allL a) ∧ FrZ Z γ w γ2 W ∧ (∀ b ∈ Z, γ2.o b = 2) ∧ kout o σ2 = some r := by
      intro o s y N σ1 γ1 W L1 hN hs hz hk1 he hno hfr hcl hre
      split at hz
      case h_2 => cases hz
      rename_i x' hx'
      have hz := (Option.some.inj hz).symm
      subst hz
      obtain ⟨N', y', _, hs', hy'⟩ := loopN_some hN
      rw [hs] at hs'
      cases hs'
      rcases hy' with ⟨s', h1, _⟩ | h1
      · cases h1
      cases h1
      have fin : ∀ {σ2 : S D} {γ2 : Gh D}, Kn σ2 γ2 W L1 → Rx.Frame γ1 W γ2 W → (∀ t x, lookN σ2.sl t = some x → t ∉ wr) → kout o σ2 = some r → ∃ σ2 γ2, Kn σ2 γ2 W (allL a) ∧ FrZ Z γ w γ2 W ∧ (∀ b ∈ Z, γ2.o b = 2) ∧ kout o σ2 = some r := by
        intro σ2 γ2 k1 k2 k3 k4
        have hcl2 : ∀ b ∈ Z, γ2.o b = 3 := fun b hb => by
          rw [(k2.ro b (hcl b hb).2 (.inr (hcl b hb).1)).1]; exact (hcl b hb).1
        exact ⟨σ2, recl γ2 Z 2, (k1.wz (.inl rfl) (fun b hb _ => .inr (hcl2 b hb)) (.refl Z W)).rebase fun t y v hy hv => hre t v (k3 t y hy) hv, (hfr.trans (.of k2)).trans (.wz (.refl Z W)), fun b hb => recl_in hb, k4⟩
      rcases toE_fromE hx' hf with ⟨j', y2, σ2, h1, h2, h3⟩ | h1
      · obtain ⟨γ2, k1, k2, k3, _⟩ := join_ok hR hlk hk' hk1 he h1 h2
        refine fin k1 k2 (fun t z ht => ?_) h3
        rcases inJ_keys h2 ht with ⟨m1, m2⟩ | m1
        · obtain ⟨z', hz'⟩ := exJ_slots h1 m1
          rw [hno t m2] at hz'
          cases hz'
        · exact m1
      · refine fin (hk1.lk _) (Rx.Frame.refl _ _) (fun t z ht hw => ?_) h1
        have ht : lookN σ1.sl t = some z := ht
        rw [hno t hw] at ht
        cases ht
    have hcn : ∀ {γ2 : Gh D} {W : World} {σ2 : S D} {m : Nat} {c : Int} {K' : List Nat} {g' : Nat}, Kn σ2 γ2 W ((p0, .int .i64 ((m : Int) - 1)) :: allL a) → lookN σ2.sl p0 = some (.c (.one (.v (.int .i64) c K' g'))) → c = (m : Int) - 1 := by
      intro γ2 W σ2 m c K' g' hkn hl
      obtain ⟨v, h1, h2⟩ := hkn.sr p0 _ hl
      rw [look_cons_eq] at h1
      cases h1
      have h2 : Value.int .i64 ((m : Int) - 1) = .int .i64 c := h2.1
      cases h2
      rfl
    refine rb_ok (α := D nn) (xs := xs) b3 b4 b5 b6 (hP.els ts te nn b7).1 (hP.els ts te nn b7).2 (hP.ty ts _ b8).1 rfl (ze := zcells T tyd) ?_ (by rw [zcells_len, b11, hR.sz]) (fun h => zcells_one T tyd (by rw [b10, ← hR.ag]; exact h)) Inv R ?_ ?_ ?_
    · have := (hP.ty te tyd b9).1
      rw [hR.ag, ← b10]
      exact this
    · intro m W hi
      rw [hInv] at hi
      obtain ⟨N, h', σh, γh, i1, i2, i3, i4, i5, i6, i7, i8⟩ := hi
      have hobh : lookO σh.ob i = some (.box [.v (.sl nn) xs K gx]) := by
        have h1 := i5.ob i hil
        unfold lookO at hob ⊢
        have h1 : lookN σh.ob i = lookN σ'.ob i := h1
        rw [h1, hob']
        exact hob
      obtain ⟨_, _, b', us, t', o1, o2, o3, o4, o5⟩ := i3.ob.ob i _ hobh
      obtain ⟨u, rfl, o6⟩ : ∃ u, us = [u] ∧ VR1 (fun i => i < σh.nx) γh W (.v (.sl nn) xs K gx) u := by
        match us, o4 with
        | [u], ⟨h1, _⟩ => exact ⟨u, rfl, h1⟩
      have hbb : b' = bv := by
        have hlg : lookN σh.sl g = some (.c (.one (.fn f [.ptr i 0]))) := by
          have h1 : lookN σh.sl g = lookN σ'.sl g := i5.sl g hgw
          rw [h1, hσ']
          have hne : Nat.beq p0 g = false := by
            cases hb : Nat.beq p0 g with
            | true => have := Nat.eq_of_beq_eq_true hb; subst this; exact (hgw hp0).elim
            | false => rfl
          simp only [lookN, hne, cond_false]
          exact hg
        obtain ⟨v, v1, cvs, v2, v3⟩ := i3.sr g _ hlg
        rw [look_cons_ne _ _ (fun e : p0 = g => hgw (e ▸ hp0)), hgv] at v1
        cases v1
        rw [hgf] at v2
        unfold fnV at v2
        rw [if_pos b1, if_pos b1] at v2
        match cvs, v3, v2 with
        | [v], ⟨⟨_, b2', h1, h2⟩, _⟩, v2 =>
          rw [h2] at v2
          simp at v2
          rw [o1] at h1
          have e1 := (ptrV_inj h1).1
          have e2 := (ptrV_inj v2).1
          omega
      subst hbb
      refine ⟨In γh.o K, u, ?_, o6.1, fun m' y cs hm hy hrd => ?_⟩
      · have := cells_at o3 0 1
        simpa using this
      subst hm
      have hyl := run_yield (P := P) (args := #[.int .i64 (m' : Int), pack (Rep.agg (D nn)) cs]) i7 (by rw [hrec]; rfl)
      rw [hrec] at hyl
      refine ⟨fnid, _, assign, body, hyl, roundIn_of_wpIn trivial ?_⟩
      obtain ⟨N', yy, hN', hs, hnext⟩ := loopN_some i1
      obtain ⟨σh', hσh, kk, kk1, kk2, hy0⟩ := hstep _ _ hs
      rw [i2] at hσh
      cases hσh
      unfold roundK at hy0
      split at hy0
      case h_2 => cases hy0
      rename_i c K' g' hc0
      have hc1 : c = (m' : Int) := (hcn i3 hc0).trans (by omega)
      subst hc1
      rcases cnd_R hy0 with ⟨hcc, _⟩ | ⟨_, hy0⟩
      · exact absurd (of_decide_eq_true hcc) (by omega)
      obtain ⟨y', hyy, hy0⟩ := bindE hy0
      have hye : y' = y := by
        unfold idx at hyy
        rw [if_pos (by omega)] at hyy
        have : ((m' : Int)).toNat = m' := by omega
        rw [this, hy] at hyy
        exact (Option.some.inj hyy).symm
      subst hye
      split at hy0
      case h_2 => cases hy0
      rename_i av hav
      obtain ⟨I, hI⟩ : ∃ I : Rd, I = ⟨some l, [], fun t => if memN wr t then none else a.tmps[t]?⟩ := ⟨_, rfl⟩
      have hIF : I.F = Fence.wide.inRound l := by rw [hI]; rfl
      have hIr : I.ro = none ∨ noScp assign = true := .inr (by unfold rok at c7; rw [Bool.and_eq_true] at c7; exact c7.2)
      have hIr2 : I.ro = none ∨ noScp body = true := .inr (by unfold rok at c8; rw [Bool.and_eq_true] at c8; exact c8.2)
      unfold rok at c7 c8
      simp only [Bool.and_eq_true] at c7 c8
      have hokt : ∀ t ∈ wr, I.okt n t = true := fun t ht => by
        unfold Rd.okt
        rw [hd t ht, hI]
        simp only [memN_iff.2 ht, if_true]
        rfl
      have hwa : ∀ t ∈ writes assign, t ∈ wr := fun t ht => by rw [hwr]; unfold rwr; simp [ht]
      have hwb : ∀ t ∈ writes body, t ∈ wr := fun t ht => by rw [hwr]; unfold rwr; simp [ht]
      have hZlt : ∀ b ∈ Z, b < W.heap.size := fun b hb => by
        rw [hZ] at hb
        simp only [List.mem_cons, List.not_mem_nil, or_false] at hb
        rcases hb with rfl | rfl
        · exact (Array.getElem?_eq_some_iff.1 i8).1
        · exact (Array.getElem?_eq_some_iff.1 i7).1
      -- the state at the round's start
      have hkr : Kn { σh with lk := lk, sl := (p1, av) :: σh.sl } (recl γh Z 3) W ((p1, pack (Rep.agg (D nn)) cs) :: (p0, .int .i64 (m' : Int)) :: allL a) := by
        have h1 : Kn { σh with lk := lk } (recl γh Z 3) W ((p0, .int .i64 (m' : Int)) :: allL a) := by
          have := (i3.lk lk).wz (c := 3) (.inr rfl) (fun b hb _ => .inl (i6 b hb)) (.refl Z W)
          rwa [show (((m' + 1 : Nat) : Int) - 1) = (m' : Int) by omega] at this
        have hKr : In (recl γh Z 3).o K = In γh.o K ∨ True := .inr trivial
        refine ⟨h1.sr.cons ?_, h1.ob, h1.big⟩
        have hrd2 : Rep.rd (In (recl γh Z 3).o K) W cs y' := Rep.mono (fun b hb hlt => by
          refine ⟨?_, rfl⟩
          have hb2 : γh.o b ∈ K := hb
          have hz : b ∉ Z := fun hz => by have := o6.2.2 _ hb2; rw [i6 b hz] at this; omega
          show (recl γh Z 3).o b ∈ K
          rw [recl_out hz]
          exact hb2) hrd
        rw [hR.ag]
        exact packA_ok (cells0_ok o6.2.2 ((hR.rd nn _ _ _ _).1 hrd2)) hav
      have hfr0 : @Fr I n ((p1, pack (Rep.agg (D nn)) cs) :: (p0, .int .i64 (m' : Int)) :: allL a) { tmps := (#[p0, p1].zip #[.int .i64 (m' : Int), pack (Rep.agg (D nn)) cs]).foldl (fun tmps (t, a) => tmps.setIfInBounds t a) a.tmps, defers := [] } := by
        have e0 : (#[p0, p1].zip #[.int .i64 (m' : Int), pack (Rep.agg (D nn)) cs]).foldl (fun tmps (t, a) => tmps.setIfInBounds t a) a.tmps = (a.tmps.setIfInBounds p0 (.int .i64 (m' : Int))).setIfInBounds p1 (pack (Rep.agg (D nn)) cs) := by simp
        rw [e0]
        have l0 : p0 < a.tmps.size := by rw [hasz]; exact Nat.le_of_ble_eq_true (hd p0 hp0)
        have l1 : p1 < a.tmps.size := by rw [hasz]; exact Nat.le_of_ble_eq_true (hd p1 hp1)
        refine @Fr.mk I n _ _ (by simp [hasz]) (by rw [hI]; rfl) (fun t v hv => ?_) (fun t v hv => ?_)
        · by_cases h1 : p1 = t
          · subst h1
            rw [look_cons_eq] at hv
            simp [l1]
            exact Option.some.inj hv
          · rw [look_cons_ne _ _ h1] at hv
            by_cases h0 : p0 = t
            · subst h0
              rw [look_cons_eq] at hv
              simp [Array.getElem?_setIfInBounds, h1, l0]
              exact Option.some.inj hv
            · rw [look_cons_ne _ _ h0] at hv
              simp [Array.getElem?_setIfInBounds, h1, h0]
              exact look_allL.1 hv
        · rw [hI] at hv
          dsimp only at hv
          split at hv
          · cases hv
          · rename_i hm
            have h1 : p1 ≠ t := fun e => hm (memN_iff.2 (e ▸ hp1))
            have h0 : p0 ≠ t := fun e => hm (memN_iff.2 (e ▸ hp0))
            simp [Array.getElem?_setIfInBounds, h1, h0]
            exact hv
      rw [← hIF]
      refine cps_ok (I := I) (n := n) hP hR hΦ hm assign ana c7.1.1 hIr (Lb.none c7.1.2) hy0 (fun t ht => hokt t (hwa t ht)) hkr ?_ _ hfr0
      intro o σ1 γ1 w1 L1 m1 m2 m3 m4
      cases o with
      | exit id => cases m4
      | goto l => cases m4
      | ret => cases m4
      | normal =>
      intro a1 ha1
      have hcl1 : ∀ b ∈ Z, γ1.o b = 3 ∧ w1.heap[b]? = W.heap[b]? := fun b hb => by
        have := m2.ro b (hZlt b hb) (.inr (recl_in hb))
        exact ⟨this.1.trans (recl_in hb), this.2⟩
      have hl1 : w1.heap[l]? = some (.loop (rec .ready none)) := (hcl1 l hlZ).2.trans i7
      have hD1 : w1.heap[w.heap.size]? = some (.deferred (some [])) := (hcl1 _ hDZ).2.trans i8
      refine ⟨_, run_beginRound hl1 (by rw [hrec]), ?_⟩
      obtain ⟨w2, hw2⟩ : ∃ w2, w2 = w1.putObj l (.loop { rec .ready none with state := .busy }) := ⟨_, rfl⟩
      rw [← hw2]
      have hl2 : w2.heap[l]? = some (.loop { rec .ready none with state := .busy }) := by rw [hw2]; exact World.putObj_heap_same (Array.getElem?_eq_some_iff.1 hl1).1
      have hD2 : w2.heap[w.heap.size]? = some (.deferred (some [])) := by rw [hw2]; exact (World.putObj_heap_other hDl).trans hD1
      have hwz2 : WZ Z w1 w2 := by rw [hw2]; exact .put hlZ
      have hk2 : Kn σ1 (recl γ1 Z 3) w2 L1 := m1.wz (.inr rfl) (fun b hb _ => .inr (hcl1 b hb).1) hwz2
      refine cps_ok (I := I) (n := n) hP hR hΦ hm body anb c8.1.1 hIr2 (Lb.none c8.1.2) m4 (fun t ht => hokt t (hwb t ht)) hk2 ?_ _ ha1
      intro o σ2 γ2 w3 L2 n1 n2 n3 n4
      have hZ2 : ∀ b ∈ Z, b < w2.heap.size := fun b hb => by
        rw [hZ] at hb
        simp only [List.mem_cons, List.not_mem_nil, or_false] at hb
        rcases hb with rfl | rfl
        · exact (Array.getElem?_eq_some_iff.1 hD2).1
        · exact (Array.getElem?_eq_some_iff.1 hl2).1
      have hcl2 : ∀ b ∈ Z, γ2.o b = 3 ∧ w3.heap[b]? = w2.heap[b]? := fun b hb => by
        have := n2.ro b (hZ2 b hb) (.inr (recl_in hb))
        exact ⟨this.1.trans (recl_in hb), this.2⟩
      have hl3 := (hcl2 l hlZ).2.trans hl2
      have hD3 := (hcl2 _ hDZ).2.trans hD2
      have hfrz : FrZ Z γ w γ2 w3 := (((i4.trans (.wz (c := 3) (.refl Z W))).trans (.of m2)).trans (.wz (c := 3) hwz2)).trans (.of n2)
      have hext : Ext wr { σ' with lk := lk } σ2 := by
        have e1 : Ext wr { σh with lk := lk } { σh with lk := lk, sl := (p1, av) :: σh.sl } := ⟨fun t ht => by
          have hne : Nat.beq p1 t = false := by
            cases hb : Nat.beq p1 t with
            | true => have := Nat.eq_of_beq_eq_true hb; subst this; exact (ht hp1).elim
            | false => rfl
          simp only [lookN, hne, cond_false], rfl, fun _ _ => rfl, Nat.le_refl _⟩
        exact ((i5.trans e1).trans (m3.mono hwa)).trans (n3.mono hwb)
      have hback : ∀ {a2 : Act}, @Fr I n L2 a2 → ∀ t v, t ∉ wr → Dp.look L2 t = some v → Dp.look (allL a) t = some v := by
        intro a2 ha2 t v ht hv
        have g1 := ha2.get t v hv
        have htn : t < a.tmps.size := by
          have := (Array.getElem?_eq_some_iff.1 g1).1
          rw [ha2.size] at this
          rw [hasz]
          exact this
        have g2 : a2.tmps[t]? = some a.tmps[t] := ha2.fix t _ (by
          have hb : memN wr t = false := by
            cases hb : memN wr t with
            | true => exact (ht (memN_iff.1 hb)).elim
            | false => rfl
          rw [hI]
          simp [hb, htn])
        rw [g1] at g2
        cases g2
        exact look_allL.2 (Array.getElem?_eq_getElem htn)
      cases o with
      | exit id => cases n4
      | goto l => cases n4
      | normal =>
        intro a2 ha2
        dsimp only at n4
        rw [kk1] at n4
        obtain ⟨h2, hx2, e⟩ := exJ_R n4
        cases e
        obtain ⟨W4, hW4⟩ : ∃ W4, W4 = w3.putObj l (.loop (rec .ready none)) := ⟨_, rfl⟩
        have hwz4 : WZ Z w3 W4 := by rw [hW4]; exact .put hlZ
        have hloop : loopN step N' h2 = some x := by
          rcases hnext with ⟨s', e, h⟩ | e
          · cases e; exact h
          · cases e
        have hI4 : Inv m' W4 := by
          have hk4 := n1.wz (c := 3) (.inr rfl) (fun b hb _ => .inr (hcl2 b hb).1) hwz4
          refine head (m := m') hloop (σ1 := { σ2 with sl := (p0, iv .i64 (isub0 (m' : Int) 1) 0) :: σ2.sl }) (L1 := (p0, .int .i64 ((m' : Int) - 1)) :: L2) ⟨hk4.sr.cons ⟨rfl, .inl rfl, fun _ h => by cases h⟩, hk4.ob, hk4.big⟩ (hext.trans ⟨fun t ht => ?_, rfl, fun _ _ => rfl, Nat.le_refl _⟩) hx2 (hfrz.trans (.wz hwz4)) (fun b hb => recl_in hb) ?_ ?_ ?_
          · have hne : Nat.beq p0 t = false := by
              cases hb : Nat.beq p0 t with
              | true => have := Nat.eq_of_beq_eq_true hb; subst this; exact (ht hp0).elim
              | false => rfl
            simp only [lookN, hne, cond_false]
          · rw [hW4]; exact World.putObj_heap_same (Array.getElem?_eq_some_iff.1 hl3).1
          · rw [hW4]; exact (World.putObj_heap_other hDl).trans hD3
          · intro t v ht hv
            by_cases hpt : p0 = t
            · subst hpt
              rw [look_cons_eq] at hv ⊢
              exact hv
            · rw [look_cons_ne _ _ hpt] at hv ⊢
              exact hback ha2 t v (ht.resolve_right fun e => hpt e.symm) hv
        refine ⟨_, _, run_endRound none hl3, _, rfl, .inl ⟨rfl, ?_⟩⟩
        have e4 : w3.putObj l (.loop { ({ rec .ready none with state := .busy } : Loop) with state := if (none : Option Code).isNone then .ready else .done, pending := none }) = W4 := by
          rw [hW4, hrec]; rfl
        rw [e4]
        exact hI4
      | ret =>
        intro a2 ha2
        dsimp only at n4
        rw [kk2 _ _ (by simp)] at n4
        obtain ⟨W4, hW4⟩ : ∃ W4, W4 = w3.putObj l (.loop (rec .done (some .ret))) := ⟨_, rfl⟩
        have hwz4 : WZ Z w3 W4 := by rw [hW4]; exact .put hlZ
        have hk4 := n1.wz (c := 3) (.inr rfl) (fun b hb _ => .inr (hcl2 b hb).1) hwz4
        have hR4 : R W4 := by
          have hZ4 : ∀ b ∈ Z, b < W4.heap.size := fun b hb => by
            have h1 := hZ2 b hb
            have h2 := n2.size
            have h3 := hwz4.size
            omega
          obtain ⟨σ3, γ3, q1, q2, q3, q4⟩ := leave i1 hs n4 (hk4.drop wr) (hext.trans ⟨fun t ht => by rw [dropS_look, if_neg ht], rfl, fun _ _ => rfl, Nat.le_refl _⟩) (fun t ht => by rw [dropS_look, if_pos ht]) (hfrz.trans (.wz hwz4)) (fun b hb => ⟨recl_in hb, hZ4 b hb⟩) (hback ha2)
          rw [hRd]
          refine ⟨.done, some .ret, .ret, σ3, γ3, by simp, ?_, ?_, q1, q2, q3, ?_, .inr ⟨rfl, rfl⟩⟩
          · rw [hW4]; exact World.putObj_heap_same (Array.getElem?_eq_some_iff.1 hl3).1
          · rw [hW4]; exact (World.putObj_heap_other hDl).trans hD3
          · rw [hkout] at q4
            exact q4
        refine ⟨_, _, run_endRound (some .ret) hl3, _, rfl, .inr ⟨rfl, ?_⟩⟩
        have e4 : w3.putObj l (.loop { ({ rec .ready none with state := .busy } : Loop) with state := if (some Code.ret).isNone then .ready else .done, pending := some .ret }) = W4 := by
          rw [hW4, hrec]; rfl
        rw [e4]
        exact hR4
    · intro W hi
      rw [hInv] at hi
      obtain ⟨N, h', σh, γh, i1, i2, i3, i4, i5, i6, i7, i8⟩ := hi
      obtain ⟨N', y, _, hs, _⟩ := loopN_some i1
      obtain ⟨σh', hσh, kk, kk1, kk2, hy⟩ := hstep _ _ hs
      rw [i2] at hσh
      cases hσh
      unfold roundK at hy
      split at hy
      case h_2 => cases hy
      rename_i c K' g' hc0
      have hc1 := hcn i3 hc0
      rcases cnd_R hy with ⟨_, hy⟩ | ⟨hcc, _⟩
      · rw [kk2 _ _ (by simp)] at hy
        have hZlt : ∀ b ∈ Z, b < W.heap.size := fun b hb => by
          rw [hZ] at hb
          simp only [List.mem_cons, List.not_mem_nil, or_false] at hb
          rcases hb with rfl | rfl
          · exact (Array.getElem?_eq_some_iff.1 i8).1
          · exact (Array.getElem?_eq_some_iff.1 i7).1
        obtain ⟨σ2, γ2, m1, m2, m3, m4⟩ := leave i1 hs hy (((i3.lk lk).drop wr).wz (c := 3) (.inr rfl) (fun b hb _ => .inl (i6 b hb)) (.refl Z W)) ⟨fun t ht => by rw [dropS_look, if_neg ht]; exact i5.sl t ht, rfl, i5.ob, i5.nx⟩ (fun t ht => by rw [dropS_look, if_pos ht]) (i4.trans (.wz (.refl Z W))) (fun b hb => ⟨recl_in hb, hZlt b hb⟩) (fun t v ht hv => by
          rw [look_cons_ne _ _ (fun e : p0 = t => ht (e ▸ hp0))] at hv
          exact hv)
        rw [hRd]
        refine ⟨.ready, none, .normal, σ2, γ2, by simp, i7, i8, m1, m2, m3, ?_, .inl ⟨rfl, rfl⟩⟩
        rw [hkout] at m4
        exact m4
      · exfalso
        have : c < 0 := by rw [hc1]; simp
        simp [this] at hcc
    · have h3 : Kn { σ' with lk := lk } (recl γ Z 3) W1 ((p0, .int .i64 (isub0 (len xs) 1)) :: allL a) := (hk'.lk lk).wz (.inr rfl) (fun b hb hlt => by have := hZge b hb; omega) hWZ
      unfold loopO at hx
      exact head hx h3 (.refl _ _) hx0 (.wz hWZ) (fun b hb => recl_in hb) hL1 hK1 fun t v _ hv => hv
  refine ⟨l, [mark w.heap.size], W1, { target := .fn (.func f) #[ptrV bv 0], args := #[.func (.yield l) #[] #[]] }, W1, f, #[.func (.yield l) #[] #[]] ++ #[ptrV bv 0], W1, ?_, ?_, ?_, ?_, fun h => by simp [Rd.F, Fence.wide] at h, ?_⟩
  · rw [← hW1, hrec, hl]
    exact run_enterLoop_outer _ _ _ _ _
  · have : a.eval (.tmp g) = .func (.func f) #[] #[ptrV bv 0] := by rw [hfra.ev (x := .tmp g) (v := gv) hgv, hgfn]
    simp only [resolve, this]
    simp [go_sem]
  · intro f' hf'; trivial
  · simp [invoke, go_sem, b2]
  · have h3 := (callsIn_wide (n := 0)).2 hcall
    refine (h3 : CallsIn Fence.wide 0 P f _ W1 _).mono ?_
    rintro e w' ⟨v, rfl, hr⟩
    rw [hRd] at hr
    obtain ⟨st, jump, o, σ1, γ1, r1, r2, r3, r4, r5, r6, r7, r8⟩ := hr
    have hbusy : (rec st jump).state ≠ .busy := by rw [hrec]; exact r1
    have hrun := run_endLoop (P := P) r2 hbusy
    have hpend : (rec st jump).pending = jump := by rw [hrec]
    rw [hpend] at hrun
    refine ⟨jump, _, hrun, ?_⟩
    have hfin : ∀ (O : Obj) a1, @Fr (Rd.aft w.heap.size) n (allL a) a1 → Q (toX o) a1 (w'.putObj l O) := by
      intro O
      refine hc w.heap.size o σ1 (recl γ1 Z 2) _ (allL a) (r4.wz (.inl rfl) (fun b hb _ => .inl (r6 b hb)) (.put hlZ)) ((r5.trans (FrZ.wz (.put hlZ))).frame hZge fun b hb => recl_in hb) (Nat.le_refl _) ?_ (recl_in hDZ) ?_ r7 ?_
      · rw [World.putObj_size]; exact (Array.getElem?_eq_some_iff.1 r3).1
      · rw [World.putObj_heap_other hDl]; exact r3
      · rcases r8 with ⟨_, h⟩ | ⟨_, h⟩
        · exact .inl h
        · exact .inr h
    have hfa : @Fr (Rd.aft w.heap.size) n (allL a) { a with defers := [mark w.heap.size] ++ a.defers } := by
      refine @Fr.mk (Rd.aft w.heap.size) n (allL a) _ ha.size ?_ (fun t v h => look_allL.1 h) (fun _ _ h => by cases h)
      show [mark w.heap.size] ++ a.defers = [mark w.heap.size]
      rw [ha.defers]; rfl
    rcases r8 with ⟨rfl, rfl⟩ | ⟨rfl, rfl⟩
    · exact hfin _ _ hfa
    · exact wpIn_ret (hfin _ _ hfa)

theorem rfOf_some {a : Code} {x : Code × Nat × Nat × Nat × Nat × Code × Code} (h : rfOf a = some x) : a = .seq x.1 (.block x.2.1 (.rangeFunc (.tmp x.2.2.1) #[x.2.2.2.1, x.2.2.2.2.1] x.2.2.2.2.2.1 x.2.2.2.2.2.2)) := by
  unfold rfOf at h
  split at h
  case h_2 => cases h
  rename_i r id g ps assign body
  split at h
  case h_2 => cases h
  rename_i p0 p1 hp
  cases h
  have : ps = #[p0, p1] := by
    apply Array.ext'
    rw [hp]
  rw [this]

/-- with the machine's block for deferred calls put aside again -/
theorem aft_ok (hP : POk P T) (hR : RepOk T) (hΦ : ∀ c ∈ Φ, ConOk P T c) (hm : P.follows .mixedOrders = true) {b : Nat} {c : Code} {an : An} {ρ : Type} {σ : S D} {k : Out → S D → Option ρ} {r : ρ} {γ0 : Gh D} {w0 : World} {L : List (Nat × Value)} {Q : Exit → Act → World → Prop}
    (h : cps T Φ c an σ k = some r) (hN : okC c = true) (hS : noSp c = true) (hd : ∀ t ∈ writes c, Nat.blt t n = true) (hk : Kn σ γ w L) (hfr : Rx.Frame γ0 w0 γ w) (hb : w0.heap.size ≤ b) (hb2 : b < w.heap.size) (hcl : γ.o b = 2) (hob : w.heap[b]? = some (.deferred (some [])))
    (hc : ∀ o σ1 γ1 w1 L1, Kn σ1 γ1 w1 L1 → Rx.Frame γ0 w0 γ1 w1 → γ1.o b = 2 → b < w1.heap.size → w1.heap[b]? = some (.deferred (some [])) → k o σ1 = some r → ∀ a1, @Fr (Rd.aft b) n L1 a1 → Q (toX o) a1 w1) :
    @CW P n (Rd.aft b) c Q L w := by
  refine cps_ok (I := Rd.aft b) hP hR hΦ hm c an hN (.inl rfl) (@Lb.none P (Rd.aft b) _ _ hS) h (fun t ht => by unfold Rd.okt; rw [hd t ht]; rfl) (hk.wz (Z := [b]) (c := 3) (.inr rfl) (fun b' hb' _ => by simp only [List.mem_singleton] at hb'; subst hb'; exact .inl hcl) (.refl _ w)) ?_
  intro o σ1 γ1 w1 L1 m1 m2 m3 m4
  obtain ⟨q1, q2⟩ := m2.ro b hb2 (.inr (recl_in (by simp)))
  have q1 : γ1.o b = 3 := q1.trans (recl_in (by simp))
  have hsz : b < w1.heap.size := Nat.lt_of_lt_of_le hb2 m2.size
  refine hc o σ1 (recl γ1 [b] 2) w1 L1 (m1.wz (.inl rfl) (fun b' hb' _ => by simp only [List.mem_singleton] at hb'; subst hb'; exact .inr q1) (.refl _ w1)) ?_ (recl_in (by simp)) hsz (q2.trans hob) m4
  refine FrZ.frame (Z := [b]) ((((FrZ.of hfr).trans (.wz (.refl _ w))).trans (.of m2)).trans (.wz (.refl _ w1))) (fun b' hb' => ?_) (fun b' hb' => recl_in hb')
  simp only [List.mem_singleton] at hb'
  subst hb'
  exact hb

theorem cpsT_ok (hP : POk P T) (hR : RepOk T) (hΦ : ∀ c ∈ Φ, ConOk P T c) (hm : P.follows .mixedOrders = true) {Bk : List (Nat × Nat)} (hB : ∀ q ∈ Bk, BkOk P T q) : ∀ (c : Code) (an : An) {ρ : Type} {σ : S D} {k : Out → S D → Option ρ} {r : ρ} {γ : Gh D} {w : World} {L : List (Nat × Value)} {Q : Exit → Act → World → Prop}, okT c = true → cpsT T Φ Bk c an σ k = some r → (∀ t ∈ writes c, Nat.blt t n = true) → Kn σ γ w L →
    (∀ o σ1 γ1 w1 L1, Kn σ1 γ1 w1 L1 → Rx.Frame γ w γ1 w1 → k o σ1 = some r → NK n (Q (toX o)) L1 w1) →
    (∀ b o σ1 γ1 w1 L1, Kn σ1 γ1 w1 L1 → Rx.Frame γ w γ1 w1 → γ1.o b = 2 → w.heap.size ≤ b → b < w1.heap.size → w1.heap[b]? = some (.deferred (some [])) → k o σ1 = some r → ∀ a1, @Fr (Rd.aft b) n L1 a1 → Q (toX o) a1 w1) → CW P n c Q L w := by
  intro c
  induction c with
  | seq a b iha ihb =>
    intro an ρ σ k r γ w L Q hN h hd hk hc1 hc2
    unfold okT at hN
    simp only [cpsT] at h
    have hda : ∀ t ∈ writes a, Nat.blt t n = true := fun t ht => hd t (by simp only [writes]; exact List.mem_append.2 (.inl ht))
    have hdb : ∀ t ∈ writes b, Nat.blt t n = true := fun t ht => hd t (by simp only [writes]; exact List.mem_append.2 (.inr ht))
    cases hrf : rfOf a with
    | none =>
      rw [hrf] at hN h
      simp only [Bool.and_eq_true] at hN
      obtain ⟨σ0, hf0, h⟩ := frzK_R h
      obtain ⟨γ0, z1, z2, z3⟩ := frz_ok hf0 hk
      refine CW.seq fun K hK => ?_
      refine cps_ok hP hR hΦ hm a _ hN.1.1 (.inl rfl) (Lb.none hN.1.2) h (fun t ht => by unfold Rd.okt; rw [hda t ht]; rfl) z1 fun o σ1 γ1 w1 L1 m1 m2 m3 m4 => ?_
      have m2 := z2.trans m2
      cases o with
      | normal =>
        refine hK _ _ (ihb _ hN.2 m4 hdb m1 (fun o σ2 γ2 w2 L2 n1 n2 n3 => hc1 o σ2 γ2 w2 L2 n1 (m2.trans n2) n3) fun b' o σ2 γ2 w2 L2 n1 n2 n3 n4 n5 n6 n7 => hc2 b' o σ2 γ2 w2 L2 n1 (m2.trans n2) n3 (Nat.le_trans m2.size n4) n5 n6 n7)
      | exit id => exact hc1 (.exit id) σ1 γ1 w1 L1 m1 m2 m4
      | goto l => exact hc1 (.goto l) σ1 γ1 w1 L1 m1 m2 m4
      | ret => exact hc1 .ret σ1 γ1 w1 L1 m1 m2 m4
    | some x =>
      obtain ⟨r0, id, g, p0, p1, assign, body⟩ := x
      rw [hrf] at hN h
      obtain rfl := rfOf_some hrf
      dsimp only at hN h hda ⊢
      simp only [Bool.and_eq_true] at hN
      split at h
      case h_2 => cases h
      rename_i j pr E x hx
      obtain ⟨σ0, hf0, h⟩ := frzK_R h
      obtain ⟨γ0, z1, z2, z3⟩ := frz_ok hf0 hk
      intro a' ha'
      refine wpIn_seq (wpIn_seq ?_)
      refine cps_ok hP hR hΦ hm r0 _ hN.1.1.1 (.inl rfl) (Lb.none hN.1.1.2) h (fun t ht => by unfold Rd.okt; rw [hda t (by simp only [writes]; exact List.mem_append.2 (.inl ht))]; rfl) z1 (fun o σ1 γ1 w1 L1 m1 m2 m3 m4 => ?_) a' ha'
      have m2 := z2.trans m2
      cases o with
      | normal =>
        refine range_ok hP hR hΦ hm hB m4 m1 (fun t ht => hda t ?_) ?_
        · simp only [writes]
          unfold rwr at ht
          simp only [List.mem_cons, List.mem_append] at ht ⊢
          rcases ht with rfl | rfl | ht | ht <;> simp [*]
        · intro b' o σ2 γ2 w2 L2 n1 n2 n3 n4 n5 n6 n7 n8
          have hfr := m2.trans n2
          rcases n8 with rfl | rfl
          · dsimp only at n7
            refine aft_ok hP hR hΦ hm n7 hN.1.2 hN.2 hdb n1 hfr (Nat.le_trans m2.size n3) n4 n5 n6 ?_
            intro o σ3 γ3 w3 L3 q1 q2 q3 q4 q5 q6
            exact hc2 b' o σ3 γ3 w3 L3 q1 q2 q3 (Nat.le_trans m2.size n3) q4 q5 q6
          · exact hc2 b' .ret σ2 γ2 w2 L2 n1 hfr n5 (Nat.le_trans m2.size n3) n4 n6 n7
      | exit id => exact hc1 (.exit id) σ1 γ1 w1 L1 m1 m2 m4
      | goto l => exact hc1 (.goto l) σ1 γ1 w1 L1 m1 m2 m4
      | ret => exact hc1 .ret σ1 γ1 w1 L1 m1 m2 m4
  | _ => intro an ρ σ k r γ w L Q hN h; simp [cpsT] at h

theorem enterM {f : FuncId} {fn : Func} {c : Code} {l : List Value} {R : Ending → World → Prop} (hf : P.funcs[f]? = some fn) (hb : fn.body = some c) (hn : fn.ntmps = n) (hl : Nat.ble l.length n = true)
    (h : CW P n c (bodyPostM Fence.wide 0 P fn R) (argsL 0 l) w) : Calls P f l.toArray w R := by
  have hl' : l.length ≤ n := by simpa using hl
  refine callsIn_wide.1 (callsIn_of_wp_marks (n := 0) hf hb trivial (h _ ⟨by simp [hn]; omega, rfl, fun t v hv => ?_, fun _ _ h => by cases h⟩))
  obtain ⟨_, h2⟩ := look_argsL l 0 t v hv
  have ht : t < l.length := (List.getElem?_eq_some_iff.1 h2).1
  simp only [Nat.sub_zero] at h2
  rw [Array.getElem?_append_left (by simpa using ht)]
  simpa using h2

/-- a function that ranges over slices.Backward -/
theorem fnR_ok (hP : POk P T) (hR : RepOk T) (hΦ : ∀ c ∈ Φ, ConOk P T c) (hm : P.follows .mixedOrders = true) {Bk : List (Nat × Nat)} (hB : ∀ q ∈ Bk, BkOk P T q) {c : Con D} {fn : Func} {code : Code} {rs : List ResultVar} {an : An}
    (hent : ∀ (args : Array Value) (w : World), (callFunc c.f args).run P w = .ok (.enter c.f args) w)
    (hf : P.funcs[c.f]? = some fn) (hb : fn.body = some code) (hrs : fn.results = rs.toArray)
    (hst : ((writes code).all (fun t => Nat.blt t fn.ntmps) && Nat.ble c.args.length fn.ntmps && ksOk c.res c.ob' && nodupB (c.ob'.map Prod.fst) && c.ob'.all (fun p => Nat.ble 1000 p.1) && Nat.ble c.ob'.length 40) = true)
    (hfn : ∀ h, semR T Φ Bk c rs code an h = c.fn h) : ConOk P T c := by
  simp only [Bool.and_eq_true] at hst
  obtain ⟨⟨⟨⟨⟨hw, hl⟩, hks⟩, hkey⟩, hbig⟩, hfew⟩ := hst
  refine ⟨hent, hks, hkey, hbig, hfew, fun h r hr as obs has hobs γ w vs hv hob => ?_⟩
  rw [← hfn] at hr
  unfold semR at hr
  split at hr
  case h_2 => cases hr
  rename_i hok
  split at hr
  case h_2 => cases hr
  rename_i σ hσ
  unfold entS at hσ
  dsimp only at hσ
  split at hσ
  case isFalse => cases hσ
  rename_i hc
  rw [has, hobs] at hσ
  have hσ := Option.some.inj hσ
  subst hσ
  simp only [Bool.and_eq_true, List.all_eq_true] at hc hbig hw
  have hsr := argS_ok (k := 0) hv
  have hlen := hv.len
  have hlen2 := inCs_len has
  refine enterM hf hb rfl (by rw [hlen, hlen2]; exact hl) ?_
  obtain ⟨σ0, hf0, hr⟩ := frzK_R hr
  obtain ⟨γ0, z1, z2, z3⟩ := frz_ok hf0 (γ := γ) ⟨hsr, hob, Nat.le_refl _⟩
  have fin : ∀ {σ'} {γ' : Gh D} {w' : World} {L' : List (Nat × Value)}, Kn σ' γ' w' L' → Rx.Frame γ w γ' w' → retK.fin T c rs σ' = some r → ∃ vs, ResAll P L' w' rs vs ∧ Ret (fun v w' => ∃ U' γ' rs obs', inCs T (ofHH T c.outs r) some id 3000 c.res = some rs ∧ inOs T (ofHH T c.outs r) some id 3000 c.ob' = some obs' ∧
      VRR U' γ' w' rs v ∧ (∀ p x, lookO obs' p = some x → OR U' γ' w' p x) ∧ (∀ p, (p, p) ∈ stay c → γ'.g p = γ.g p) ∧ Frame0 γ w γ' w') (.returned (resVal vs)) w' := by
    intro σ' γ' w' L' hk' hfr ho
    obtain ⟨vs, h1, γ2, rs', obs', h2, h3, h4, h5, h6, h7⟩ := ret_ok hP hR hk' (fun q hq => Nat.le_of_ble_eq_true (hbig q hq)) (fun q hq => by
      have := Nat.le_of_ble_eq_true (hc.2 q hq).2
      omega) ho
    refine ⟨vs, h1, _, rfl, _, γ2, rs', obs', h2, h3, h4, h5, fun p hp => ?_, hfr.toFrame0.trans h7⟩
    rw [h6 p hp]
    refine hfr.gk p ?_
    unfold stay at hp
    obtain ⟨q, hq, e⟩ := List.mem_map.1 hp
    cases e
    obtain ⟨q', hq'⟩ := memN_map (List.mem_filter.1 hq).2
    have := Nat.le_of_ble_eq_true (hc.2 _ hq').2
    simp only at this
    omega
  refine cpsT_ok hP hR hΦ hm hB code an.un hok hr hw z1 (fun o σ' γ' w' L' hk' hfr ho => ?_) (fun b o σ' γ' w' L' hk' hfr hcl hbw hbw2 hob' ho a1 ha1 => ?_)
  · have hfr := z2.trans hfr
    have one : retK.fin T c rs σ' = some r → ∀ a, Fr fn.ntmps L' a → LeavesInM Fence.wide 0 P fn a.tmps _ a.defers .returning w' := fun ho a ha => by
      obtain ⟨vs, h1, h2⟩ := fin hk' hfr ho
      rw [ha.defers]
      exact ⟨_, results_all (fun _ _ hx => ha.ev hx) hrs h1, h2⟩
    cases o with
    | normal => exact one ho
    | ret => exact one ho
    | exit id => cases ho
    | goto l => cases ho
  · have hfr := z2.trans hfr
    obtain ⟨w2, hw2⟩ : ∃ w2, w2 = w'.putObj b (.deferred none) := ⟨_, rfl⟩
    have hwz : WZ [b] w' w2 := by rw [hw2]; exact .put (by simp)
    have hk2 : Kn σ' (recl γ' [b] 2) w2 L' := hk'.wz (.inl rfl) (fun b' hb' _ => by simp only [List.mem_singleton] at hb'; subst hb'; exact .inl hcl) hwz
    have hfr2 : Rx.Frame γ w (recl γ' [b] 2) w2 := by
      refine FrZ.frame (Z := [b]) ((FrZ.of hfr).trans (.wz hwz)) (fun b' hb' => ?_) (fun b' hb' => recl_in hb')
      simp only [List.mem_singleton] at hb'
      subst hb'
      exact hbw
    have one : retK.fin T c rs σ' = some r → LeavesInM Fence.wide 0 P fn a1.tmps _ a1.defers .returning w' := fun ho => by
      obtain ⟨vs, h1, h2⟩ := fin hk2 hfr2 ho
      rw [@Fr.defers (Rd.aft b) _ _ _ ha1]
      refine ⟨by simp, .inl ⟨b, w2, rfl, ?_, ?_⟩⟩
      · rw [hw2]; exact run_takeDeferred hob'
      · exact ⟨_, results_all (L := L') (fun _ _ hx => @Fr.ev (Rd.aft b) _ _ _ ha1 _ _ hx) hrs h1, h2⟩
    cases o with
    | normal => exact one ho
    | ret => exact one ho
    | exit id => cases ho
    | goto l => cases ho
end
end Rx
end Go.Proofs.Ytkgfdplcjdidhaa
