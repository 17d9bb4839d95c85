import Derived.Test.YtfnphdhcgkondaaGreatMa
import Derived.Test.YtfnphdhcgkondaaGreatRz
import Derived.Test.YtfnphdhcgkondaaGreatPg
import Derived.KernelRfl
set_option linter.unusedVariables false
set_option linter.unusedSimpArgs false
namespace Go.Proofs.YtfnphdhcgkondaaGreat
open Go Go.RowKit Dp
namespace Rx
theorem clone_eq {p : Power} (h : SmP p) : states_Clone p = some (p.Closed, p.Sources, p.Limits, p.Broken) := by
 obtain ⟨h1, h2, h3, h4⟩ := h
 unfold Sm at *
 unfold states_Clone slices_Clone_bool_bool slices_Clone_Running_Running slices_Clone_int_int slices_Clone_Part_Part
 rw [app_sm (by simp; omega), app_sm (by simp; omega), app_sm (by simp; omega), app_sm (by simp; omega)]
 rfl
section
variable {b : Board} {p : Power}
def dif (a c : Int) : Int := if (c % 3600 - a % 3600) % 3600 > 1800 then (c % 3600 - a % 3600) % 3600 - 3600 else (c % 3600 - a % 3600) % 3600
def agr (b : Board) (x y : Running) : Prop := ((0 ≤ x.Frequency ∧ 0 ≤ y.Frequency) ∧ x.Frequency ≤ 6000 ∧ y.Frequency ≤ 6000) ∧ (x.Frequency - y.Frequency ≤ b.Frequency ∧ y.Frequency - x.Frequency ≤ b.Frequency) ∧ dif x.Phase y.Phase ≤ b.Phase ∧ -dif x.Phase y.Phase ≤ b.Phase
instance (b : Board) (x y : Running) : Decidable (agr b x y) := by unfold agr; exact inferInstance
def SmR (x : Running) : Prop := (-100000000000000000 ≤ x.Frequency ∧ x.Frequency ≤ 100000000000000000) ∧ -100000000000000000 ≤ x.Phase ∧ x.Phase ≤ 100000000000000000
theorem SmR.of {x : Running} (h : RunOk x) : SmR x := by
 obtain ⟨_, _, ⟨h1, h2⟩, h3, h4⟩ := h
 exact ⟨⟨by omega, by omega⟩, by omega, by omega⟩
def like (x y : Running) : Running := { x with Frequency := y.Frequency, Phase := y.Phase }
def setAll (S : List Running) (y : Running) : List Int → List Running
 | [] => S
 | k :: l => setAll (S.set k.toNat (like (gt S k.toNat) y)) y l
theorem setAll_len (y : Running) : ∀ (l : List Int) (S : List Running), (setAll S y l).length = S.length
 | [], _ => rfl
 | k :: l, S => by unfold setAll; rw [setAll_len y l]; simp
theorem setAll_snoc (y : Running) (k : Int) : ∀ (l : List Int) (S : List Running), setAll S y (l ++ [k]) = (setAll S y l).set k.toNat (like (gt (setAll S y l) k.toNat) y)
 | [], _ => rfl
 | j :: l, S => by
  show setAll _ y (l ++ [k]) = _
  rw [setAll_snoc y k l]
  rfl
theorem set_eq {l : List Int} {y : Running} (hl : Sm l) (h : ∀ k ∈ l, 0 ≤ k ∧ k < p.Sources.length) : sync_set p l y = some (setAll p.Sources y l) := by
 have hr := loop_run (step := sync_set_L1 l y) (fun k => ((k : Int), setAll p.Sources y (l.take k))) l.length (r := setAll p.Sources y l) (fun k hk => by
  obtain ⟨k0, k1⟩ := h _ (gt_mem hk)
  obtain ⟨j, hj⟩ := Int.eq_ofNat_of_zero_le k0
  have hj : gt l k = (j : Int) := hj
  have hjl : j < (setAll p.Sources y (l.take k)).length := by rw [setAll_len]; omega
  have hjs : j < ((setAll p.Sources y (l.take k)).set j { gt (setAll p.Sources y (l.take k)) j with Frequency := y.Frequency }).length := by simpa using hjl
  simp only [sync_set_L1, lt_len hk, if_true, idx_gt hk, Option.bind_some, Option.bind_fun_some, Sum.elim_inl, Sum.elim_inr, eqO_self, hj, idx_gt hjl, setO_nat hjl, idx_gt hjs, setO_nat hjs, W_succ (sm_lt hl hk), gt_set hjl, take_gt hk, setAll_snoc, Int.toNat_natCast, List.set_set]
  rfl) (by simp only [sync_set_L1, nlt_len, Bool.false_eq_true, if_false, List.take_length])
 unfold sync_set
 have hr' : loopO (sync_set_L1 l y) ((0 : Int), p.Sources) = some (setAll p.Sources y l) := hr
 rw [hr']
 rfl
end
end Rx
namespace Rx
theorem setAll_gt (y : Running) : ∀ (l : List Int) (S : List Running) (j : Nat), (∀ k ∈ l, 0 ≤ k ∧ k < S.length) → gt (setAll S y l) j = if (j : Int) ∈ l then like (gt S j) y else gt S j
 | [], S, j, _ => by simp [setAll]
 | k :: l, S, j, h => by
  obtain ⟨k0, k1⟩ := h k List.mem_cons_self
  have ih := setAll_gt y l (S.set k.toNat (like (gt S k.toNat) y)) j (fun q hq => by rw [List.length_set]; exact h q (List.mem_cons_of_mem _ hq))
  show gt (setAll (S.set k.toNat (like (gt S k.toNat) y)) y l) j = _
  rw [ih, gt_set (by omega)]
  by_cases hjk : j = k.toNat
  ·have e : (j : Int) = k := by omega
   rw [if_pos hjk, if_pos (show (j : Int) ∈ k :: l by rw [e]; exact List.mem_cons_self)]
   by_cases hl : (j : Int) ∈ l
   ·rw [if_pos hl, ← hjk]; rfl
   ·rw [if_neg hl, ← hjk]
  ·have e : (j : Int) ≠ k := by omega
   rw [if_neg hjk]
   by_cases hl : (j : Int) ∈ l
   ·rw [if_pos hl, if_pos (List.mem_cons_of_mem _ hl)]
   ·rw [if_neg hl, if_neg (fun hh => by rcases List.mem_cons.1 hh with h | h; exact e h; exact hl h)]
section
variable {b : Board} {p : Power}
def ldr (b : Board) (p : Power) (k : Nat) : Nat := (gt (isleOf b p (conn b p (k : Int)).1).Sources 0).toNat
def fol (b : Board) (p : Power) (k : Nat) : Running := if (conn b p (k : Int)).2 = true then like (gt p.Sources k) (gt p.Sources (ldr b p k)) else gt p.Sources k
def folL (b : Board) (p : Power) : List Running := (List.range p.Sources.length).map (fol b p)
def folP (b : Board) (p : Power) : Power := ⟨p.Closed, folL b p, p.Limits, p.Broken⟩
theorem folL_len : (folL b p).length = p.Sources.length := by simp [folL]
theorem folL_gt {k : Nat} (h : k < p.Sources.length) : gt (folL b p) k = fol b p k := by unfold folL; rw [gt_map_range _ h]
theorem isl_src {x : Island} (hx : x ∈ isl b p) {s : Int} (hs : s ∈ x.Sources) : ∃ j : Nat, s = (j : Int) ∧ j < b.Sources.length ∧ (conn b p (j : Int)).2 = true ∧ x = isleOf b p (conn b p (j : Int)).1 := by
 obtain ⟨f, hf, rfl, _⟩ := mem_isl.1 hx
 obtain ⟨j, h1, h2, h3, h4⟩ := mem_src.1 hs
 refine ⟨j, h4, h1, h2, ?_⟩
 unfold isleOf
 rw [h3, Int.toNat_natCast]
theorem src_isl (hb : BrkOk b) {j : Nat} (hj : j < b.Sources.length) (hc : (conn b p (j : Int)).2 = true) : isleOf b p (conn b p (j : Int)).1 ∈ isl b p ∧ (j : Int) ∈ (isleOf b p (conn b p (j : Int)).1).Sources := by
 have hbd := conn_bd hb hc
 refine ⟨(isleOf_in hb hbd.1 hbd.2).1, ?_⟩
 unfold isleOf
 have := (grp_bd (p := p) hb (show (conn b p (j : Int)).1.toNat < b.Buses.toNat by omega)).1
 exact mem_src.2 ⟨j, hj, hc, by omega, rfl⟩
theorem ldr_spec (hb : BrkOk b) {j : Nat} (hj : j < b.Sources.length) (hc : (conn b p (j : Int)).2 = true) :
  gt (isleOf b p (conn b p (j : Int)).1).Sources 0 = (ldr b p j : Int) ∧ ldr b p j < b.Sources.length ∧ (conn b p (ldr b p j : Int)).2 = true ∧ isleOf b p (conn b p (ldr b p j : Int)).1 = isleOf b p (conn b p (j : Int)).1 ∧ ldr b p (ldr b p j) = ldr b p j := by
 obtain ⟨h1, h2⟩ := src_isl hb hj hc
 have hlen : 0 < (isleOf b p (conn b p (j : Int)).1).Sources.length := List.length_pos_of_mem h2
 obtain ⟨i, e1, e2, e3, e4⟩ := isl_src h1 (gt_mem hlen)
 have e5 : ldr b p j = i := by unfold ldr; rw [e1, Int.toNat_natCast]
 rw [e5]
 refine ⟨e1, e2, e3, e4.symm, ?_⟩
 unfold ldr
 rw [← e4, e1, Int.toNat_natCast]
theorem follow_loop (hb : BrkOk b) (hl : Lim b) (hsl : p.Sources.length = b.Sources.length) : loopO (sync_Follow_L1 p (p.Closed, p.Sources, p.Limits, p.Broken) (isl b p)) ((0 : Int), p.Sources) = some (folL b p) := by
 have hbus := hl.bus
 have hsr := hl.src
 have hil := isl_len (b := b) (p := p)
 refine wp_eq.1 ?_
 refine wp_upto (isl b p).length (fun k s => ∃ out, s = ((k : Int), out) ∧ out.length = p.Sources.length ∧ ∀ j, j < p.Sources.length → gt out j = if ∃ q, q < k ∧ (j : Int) ∈ (gt (isl b p) q).Sources then fol b p j else gt p.Sources j) ⟨_, rfl, rfl, fun j hj => by rw [if_neg (by rintro ⟨q, hq, _⟩; omega)]⟩ ?_ ?_
 ·rintro k s hk ⟨out, rfl, h1, h2⟩
  have hx := gt_mem hk
  have hsrc : ∀ s ∈ (gt (isl b p) k).Sources, 0 ≤ s ∧ s < (p.Sources.length : Int) := fun s hs => by
   obtain ⟨j, rfl, h, _⟩ := isl_src hx hs
   omega
  unfold sync_Follow_L1
  simp only [lt_len hk, if_true, idx_gt hk, Option.bind_some]
  have hsplit : ∀ j : Nat, (∃ q, q < k + 1 ∧ (j : Int) ∈ (gt (isl b p) q).Sources) ↔ (∃ q, q < k ∧ (j : Int) ∈ (gt (isl b p) q).Sources) ∨ (j : Int) ∈ (gt (isl b p) k).Sources := fun j => by
   constructor
   ·rintro ⟨q, hq, h⟩
    by_cases hqk : q = k
    ·subst hqk; exact .inr h
    ·exact .inl ⟨q, by omega, h⟩
   ·rintro (⟨q, hq, h⟩ | h)
    ·exact ⟨q, by omega, h⟩
    ·exact ⟨k, by omega, h⟩
  by_cases h0 : (gt (isl b p) k).Sources.length = 0
  ·have e1 : decide (len (gt (isl b p) k).Sources > 0) = false := dF (by unfold len; omega)
   simp only [e1, Bool.false_eq_true, if_false, Option.bind_some]
   refine wp_some.2 ⟨out, by rw [W_succ (by omega)], h1, fun j hj => ?_⟩
   rw [h2 j hj]
   have e2 : (gt (isl b p) k).Sources = [] := List.length_eq_zero_iff.1 h0
   have hi : (∃ q, q < k + 1 ∧ (j : Int) ∈ (gt (isl b p) q).Sources) ↔ (∃ q, q < k ∧ (j : Int) ∈ (gt (isl b p) q).Sources) := by
    rw [hsplit, e2]; simp
   by_cases hh : ∃ q, q < k ∧ (j : Int) ∈ (gt (isl b p) q).Sources
   ·rw [if_pos hh, if_pos (hi.2 hh)]
   ·rw [if_neg hh, if_neg (fun h => hh (hi.1 h))]
  ·have hlen : 0 < (gt (isl b p) k).Sources.length := by omega
   have e1 : decide (len (gt (isl b p) k).Sources > 0) = true := dT (by unfold len; omega)
   obtain ⟨i, f1, f2, f3, f4⟩ := isl_src hx (gt_mem hlen)
   have e0 : idx (gt (isl b p) k).Sources 0 = some (i : Int) := by
    have := idx_gt hlen
    rw [f1] at this
    exact this
   have hsm : Sm (gt (isl b p) k).Sources := by
    obtain ⟨f, _, e, _⟩ := mem_isl.1 hx
    rw [e]
    have := (isle_len (b := b) (p := p) f).2.1
    unfold Sm; omega
   have hset := set_eq (p := ⟨p.Closed, out, p.Limits, p.Broken⟩) (y := gt p.Sources i) hsm (fun s hs => by have := hsrc s hs; simp only; omega)
   simp only [e1, if_true, e0, idx_gt (show i < p.Sources.length by omega), Option.bind_some, hset]
   refine wp_some.2 ⟨_, by rw [W_succ (by omega)], by rw [setAll_len]; exact h1, fun j hj => ?_⟩
   rw [setAll_gt _ _ _ _ (fun s hs => by have := hsrc s hs; omega), h2 j hj]
   by_cases hjx : (j : Int) ∈ (gt (isl b p) k).Sources
   ·rw [if_pos hjx, if_pos ((hsplit j).2 (.inr hjx))]
    obtain ⟨j', g1, g2, g3, g4⟩ := isl_src hx hjx
    have : j' = j := by omega
    subst this
    have hld : ldr b p j' = i := by unfold ldr; rw [← g4, f1, Int.toNat_natCast]
    have hf : fol b p j' = like (gt p.Sources j') (gt p.Sources i) := by unfold fol; rw [if_pos g3, hld]
    rw [hf]
    split <;> rfl
   ·rw [if_neg hjx]
    by_cases hh : ∃ q, q < k ∧ (j : Int) ∈ (gt (isl b p) q).Sources
    ·rw [if_pos hh, if_pos ((hsplit j).2 (.inl hh))]
    ·rw [if_neg hh, if_neg (fun h => ((hsplit j).1 h).elim hh hjx)]
 ·rintro s ⟨out, rfl, h1, h2⟩
  unfold sync_Follow_L1
  simp only [nlt_len, Bool.false_eq_true, if_false]
  refine wp_some.2 ?_
  have : out = folL b p := by
   apply ext_gt
   ·rw [folL_len, h1]
   ·intro j hj
    rw [h2 j (by omega), folL_gt (by omega)]
    by_cases hc : (conn b p (j : Int)).2 = true
    ·obtain ⟨g1, g2⟩ := src_isl hb (show j < b.Sources.length by omega) hc
     obtain ⟨q, hq, e⟩ := mem_gt g1
     rw [if_pos ⟨q, hq, by rw [e]; exact g2⟩]
    ·have hf : fol b p j = gt p.Sources j := by unfold fol; rw [if_neg hc]
     rw [hf]
     split <;> rfl
  rw [this]
theorem follow_eq (hb : SmB b) (hp : SmP p) (h : stt b p = 0) : sync_Follow b p = some (0, p.Closed, folL b p, p.Limits, p.Broken) := by
 obtain ⟨⟨hl, hg⟩, ⟨s1, s2, s3⟩, _⟩ := stt_zero.1 h
 unfold sync_Follow
 have e : (stt b p != 0) = false := by rw [h]; rfl
 simp only [state_eq hb hp, Option.bind_some, e, Bool.false_eq_true, if_false, clone_eq hp, islands_eq hb hp h, follow_loop hg.1 hl s2]
theorem stt_same {q : Power} (h : stt b p = 0) (hc : q.Closed = p.Closed) (hl : q.Sources.length = p.Sources.length) (hli : q.Limits = p.Limits) (hbr : q.Broken = p.Broken) (hr : ∀ k, k < q.Sources.length → RunOk (gt q.Sources k)) : stt b q = 0 := by
 obtain ⟨h1, ⟨s1, s2, s3⟩, g1, g2, g3⟩ := stt_zero.1 h
 have hclo : ∀ j n, clo b q j n = clo b p j n := fun j n => clo_congr fun i _ _ _ => by rw [hc]
 refine stt_zero.2 ⟨h1, ⟨by rw [hc]; exact s1, by rw [hl]; exact s2, by rw [hli]; exact s3⟩, by rw [hbr]; exact g1, hr, fun k hk => ?_⟩
 have := g3 k (by rw [← hli]; exact hk)
 unfold LimAt at this ⊢
 rw [hli, hclo]
 exact this
theorem run_like {x y : Running} (hx : RunOk x) (hy : RunOk y) : RunOk (like x y) := ⟨hx.1, hx.2.1, hy.2.2.1, hy.2.2.2⟩
theorem stt_fol (h : stt b p = 0) : stt b (folP b p) = 0 := by
 obtain ⟨⟨hl, hg⟩, ⟨s1, s2, s3⟩, g1, g2, g3⟩ := stt_zero.1 h
 refine stt_same h rfl folL_len rfl rfl fun k hk => ?_
 have hk' : k < p.Sources.length := by rw [← folL_len (b := b)]; exact hk
 show RunOk (gt (folL b p) k)
 rw [folL_gt hk']
 unfold fol
 split
 ·rename_i hc
  obtain ⟨_, e, _⟩ := ldr_spec hg.1 (show k < b.Sources.length by omega) hc
  exact run_like (g2 k hk') (g2 _ (by omega))
 ·exact g2 k hk'
end
end Rx
namespace Rx
open Classical
theorem bools_eq {a b : List Bool} (ha : Sm a) : dynposref01_Bools a b = some (decide (a = b)) := by
 unfold dynposref01_Bools
 by_cases hl : a.length = b.length
 ·have e1 : (len a != len b) = false := by simp [len, hl]
  have h := loop_any (step := dynposref01_Bools_L1 a b) (fun k => (k : Int)) a.length (fun k => gt a k ≠ gt b k) (r := .inr false) (e := .inl ())
   (fun k hk hp => by
    have e2 : (!(gt a k == gt b k)) = false := by rw [Classical.not_not.1 hp]; simp
    simp only [dynposref01_Bools_L1, lt_len hk, if_true, idx_gt hk, idx_gt (show k < b.length by omega), Option.bind_some, e2, Bool.false_eq_true, if_false, W_succ (sm_lt ha hk)])
   (fun k hk hp => by
    have e2 : (!(gt a k == gt b k)) = true := by simpa using hp
    simp only [dynposref01_Bools_L1, lt_len hk, if_true, idx_gt hk, idx_gt (show k < b.length by omega), Option.bind_some, e2])
   (by simp only [dynposref01_Bools_L1, nlt_len, Bool.false_eq_true, if_false])
  have h' : loopO (dynposref01_Bools_L1 a b) 0 = _ := h
  simp only [e1, Bool.false_eq_true, if_false, h', Option.bind_some]
  by_cases he : a = b
  ·subst he
   rw [if_neg (by simp)]
   simp
  ·have : ∃ k, k < a.length ∧ gt a k ≠ gt b k := by
    apply Classical.byContradiction
    intro hn
    exact he (ext_gt hl fun k hk => Classical.byContradiction fun h => hn ⟨k, hk, h⟩)
   rw [if_pos this]
   simp [he]
 ·have e1 : (len a != len b) = true := by simp [len]; omega
  have he : a ≠ b := fun e => hl (e ▸ rfl)
  simp [e1, he]
theorem runB (x y : Running) : (x.State == y.State && (x.Since == y.Since && (x.Frequency == y.Frequency && x.Phase == y.Phase))) = true ↔ x = y := by
 obtain ⟨a, b, c, d⟩ := x
 obtain ⟨a', b', c', d'⟩ := y
 simp
theorem partB (x y : Part) : (x.Kind == y.Kind && x.Number == y.Number) = true ↔ x = y := by
 obtain ⟨a, b⟩ := x
 obtain ⟨a', b'⟩ := y
 simp
theorem same_eq {p q : Power} (hp : SmP p) : dynposref15_Same p q = some (decide (p = q)) := by
 obtain ⟨h1, h2, h3, h4⟩ := hp
 unfold dynposref15_Same
 simp only [bools_eq h1, ints_eq h3, Option.bind_some]
 by_cases g1 : p.Closed = q.Closed
 case neg => rw [dF g1, dF (c := p = q) (fun h => g1 (h ▸ rfl))]; rfl
 by_cases g2 : p.Limits = q.Limits
 case neg => rw [dT g1, dF g2, dF (c := p = q) (fun h => g2 (h ▸ rfl))]; rfl
 rw [dT g1, dT g2]
 by_cases g3 : p.Sources.length = q.Sources.length
 case neg =>
  have e : (len p.Sources != len q.Sources) = true := by simp [len]; omega
  rw [e, dF (c := p = q) (fun h => g3 (h ▸ rfl))]; rfl
 have e3 : (len p.Sources != len q.Sources) = false := by simp [len, g3]
 by_cases g4 : p.Broken.length = q.Broken.length
 case neg =>
  have e : (len p.Broken != len q.Broken) = true := by simp [len]; omega
  rw [e3, e, dF (c := p = q) (fun h => g4 (h ▸ rfl))]; rfl
 have e4 : (len p.Broken != len q.Broken) = false := by simp [len, g4]
 have l1 : loopO (dynposref15_Same_L1 p q) 0 = some (if ∃ k, k < p.Sources.length ∧ gt p.Sources k ≠ gt q.Sources k then .inr false else .inl ()) := by
  refine Eq.trans (loop_any (r := .inr false) (e := .inl ()) (step := dynposref15_Same_L1 p q) (fun k => (k : Int)) p.Sources.length (fun k => gt p.Sources k ≠ gt q.Sources k) (fun k hk hn => ?_) (fun k hk hn => ?_) (by simp only [dynposref15_Same_L1, nlt_len, Bool.false_eq_true, if_false])) (by congr)
  ·have := (runB (gt p.Sources k) (gt q.Sources k)).2 (Classical.not_not.1 hn)
   simp only [dynposref15_Same_L1, lt_len hk, if_true, idx_gt hk, idx_gt (show k < q.Sources.length by omega), Option.bind_some, this, Bool.not_true, Bool.false_eq_true, if_false, W_succ (sm_lt h2 hk)]
  ·have : ((gt p.Sources k).State == (gt q.Sources k).State && ((gt p.Sources k).Since == (gt q.Sources k).Since && ((gt p.Sources k).Frequency == (gt q.Sources k).Frequency && (gt p.Sources k).Phase == (gt q.Sources k).Phase))) = false := by
    cases hb : ((gt p.Sources k).State == (gt q.Sources k).State && ((gt p.Sources k).Since == (gt q.Sources k).Since && ((gt p.Sources k).Frequency == (gt q.Sources k).Frequency && (gt p.Sources k).Phase == (gt q.Sources k).Phase))) with
    | false => rfl
    | true => exact (hn ((runB _ _).1 hb)).elim
   simp only [dynposref15_Same_L1, lt_len hk, if_true, idx_gt hk, idx_gt (show k < q.Sources.length by omega), Option.bind_some, this, Bool.not_false]
 have l2 : loopO (dynposref15_Same_L2 p q) 0 = some (if ∃ k, k < p.Broken.length ∧ gt p.Broken k ≠ gt q.Broken k then .inr false else .inl ()) := by
  refine Eq.trans (loop_any (r := .inr false) (e := .inl ()) (step := dynposref15_Same_L2 p q) (fun k => (k : Int)) p.Broken.length (fun k => gt p.Broken k ≠ gt q.Broken k) (fun k hk hn => ?_) (fun k hk hn => ?_) (by simp only [dynposref15_Same_L2, nlt_len, Bool.false_eq_true, if_false])) (by congr)
  ·have := (partB (gt p.Broken k) (gt q.Broken k)).2 (Classical.not_not.1 hn)
   simp only [dynposref15_Same_L2, lt_len hk, if_true, idx_gt hk, idx_gt (show k < q.Broken.length by omega), Option.bind_some, this, Bool.not_true, Bool.false_eq_true, if_false, W_succ (sm_lt h4 hk)]
  ·have : ((gt p.Broken k).Kind == (gt q.Broken k).Kind && (gt p.Broken k).Number == (gt q.Broken k).Number) = false := by
    cases hb : ((gt p.Broken k).Kind == (gt q.Broken k).Kind && (gt p.Broken k).Number == (gt q.Broken k).Number) with
    | false => rfl
    | true => exact (hn ((partB _ _).1 hb)).elim
   simp only [dynposref15_Same_L2, lt_len hk, if_true, idx_gt hk, idx_gt (show k < q.Broken.length by omega), Option.bind_some, this, Bool.not_false]
 simp only [e3, e4, Bool.not_true, Bool.false_eq_true, if_false, Option.bind_some, l1]
 by_cases g5 : p.Sources = q.Sources
 case neg =>
  have : ∃ k, k < p.Sources.length ∧ gt p.Sources k ≠ gt q.Sources k := by
   apply Classical.byContradiction
   intro hn
   exact g5 (ext_gt g3 fun k hk => Classical.byContradiction fun h => hn ⟨k, hk, h⟩)
  rw [if_pos this, dF (c := p = q) (fun h => g5 (h ▸ rfl))]; rfl
 rw [if_neg (by rintro ⟨k, _, h⟩; exact h (by rw [g5])), Sum.elim_inl, l2, Option.bind_some]
 by_cases g6 : p.Broken = q.Broken
 case neg =>
  have : ∃ k, k < p.Broken.length ∧ gt p.Broken k ≠ gt q.Broken k := by
   apply Classical.byContradiction
   intro hn
   exact g6 (ext_gt g4 fun k hk => Classical.byContradiction fun h => hn ⟨k, hk, h⟩)
  rw [if_pos this, dF (c := p = q) (fun h => g6 (h ▸ rfl))]; rfl
 rw [if_neg (by rintro ⟨k, _, h⟩; exact h (by rw [g6]))]
 have : p = q := by
  obtain ⟨a, b, c, d⟩ := p
  obtain ⟨a', b', c', d'⟩ := q
  simp only at g1 g2 g5 g6
  rw [g1, g2, g5, g6]
 rw [dT this]
 rfl
theorem same_refl {p : Power} (hp : SmP p) : dynposref15_Same p p = some true := by rw [same_eq hp, dT rfl]
section
variable {b : Board} {p : Power}
end
theorem sm_fol {b : Board} {p : Power} (h : SmP p) : SmP (folP b p) := ⟨h.1, by show Sm (folL b p); unfold Sm; rw [folL_len]; exact h.2.1, h.2.2.1, h.2.2.2⟩
end Rx
namespace Rx
def swapAt (d : List Int) (j : Nat) : List Int := (d.set (j + 1) (d.getD j 0)).set j (d.getD (j + 1) 0)
def inner (lt : Int → Int → Bool) : Nat → List Int → List Int
 | 0, d => d
 | j + 1, d => if lt (d.getD (j + 1) 0) (d.getD j 0) = true then inner lt j (swapAt d j) else d
def outer (lt : Int → Int → Bool) : Nat → Nat → List Int → List Int
 | 0, _, d => d
 | m + 1, i, d => outer lt m (i + 1) (inner lt i d)
def Ok (n : Nat) (p : Int → Prop) (d : List Int) : Prop := d.length = n ∧ ∀ x ∈ d, p x
theorem ok_getD {n : Nat} {p : Int → Prop} {d : List Int} (h : Ok n p d) {j : Nat} (hj : j < n) : p (d.getD j 0) := by
 have hl := h.1
 have : d.getD j 0 = d[j] := by simp [List.getD, hl, hj]
 rw [this]
 exact h.2 _ (List.getElem_mem _)
theorem ok_swap {n : Nat} {p : Int → Prop} {d : List Int} (h : Ok n p d) {j : Nat} (hj : j + 1 < n) : Ok n p (swapAt d j) := by
 refine ⟨by simp [swapAt, h.1], fun x hx => ?_⟩
 unfold swapAt at hx
 rcases List.mem_or_eq_of_mem_set hx with hx | rfl
 ·rcases List.mem_or_eq_of_mem_set hx with hx | rfl
  ·exact h.2 x hx
  ·exact ok_getD h (by omega)
 ·exact ok_getD h hj
def sumL (r : List Int) : Int := r.foldr (· + ·) 0
def rest (total : Int) (r : List Int) (s : Int) (i : Int) : Int := (total * r.getD i.toNat 0) % s
def firsts (n : Nat) : List Int := (List.range n).map Int.ofNat
theorem firsts_len (n : Nat) : (firsts n).length = n := by simp [firsts]
theorem sum_bd {l : List Int} {B : Int} (h : ∀ x ∈ l, 0 ≤ x ∧ x ≤ B) : 0 ≤ sumL l ∧ sumL l ≤ B * l.length := by
 induction l with
 | nil => simp [sumL]
 | cons x l ih =>
  have h1 := ih fun y hy => h y (List.mem_cons_of_mem _ hy)
  have h2 := h x List.mem_cons_self
  have : sumL (x :: l) = x + sumL l := rfl
  rw [this]
  have e : B * ((x :: l).length : Int) = B * l.length + B := by simp [Int.mul_add]
  rw [e]
  omega
theorem firsts_ok (n : Nat) : Ok n (fun x => 0 ≤ x ∧ x < n) (firsts n) := by
 refine ⟨firsts_len n, fun x hx => ?_⟩
 obtain ⟨k, hk, rfl⟩ := List.mem_map.1 hx
 have := List.mem_range.1 hk
 exact ⟨Int.natCast_nonneg k, by simpa using this⟩
section
variable {r : List Int} {total s : Int}
theorem idx_getD {d : List Int} {j : Nat} (h : j < d.length) : idx d (j : Int) = some (d.getD j 0) := idx_gt h
end
def insR (lt : Int → Int → Bool) (x : Int) : List Int → List Int
 | [] => [x]
 | y :: l => if lt x y = true then y :: insR lt x l else x :: y :: l
theorem insR_len (lt : Int → Int → Bool) (x : Int) : ∀ l : List Int, (insR lt x l).length = l.length + 1
 | [] => rfl
 | y :: l => by
  unfold insR
  split
  ·simp [insR_len lt x l]
  ·rfl
theorem insR_perm (lt : Int → Int → Bool) (x : Int) : ∀ l : List Int, (insR lt x l).Perm (x :: l)
 | [] => List.Perm.refl _
 | y :: l => by
  unfold insR
  split
  ·exact ((insR_perm lt x l).cons y).trans (List.Perm.swap x y l)
  ·exact List.Perm.refl _
theorem getD_app (l m : List Int) (a : Int) : (l ++ a :: m).getD l.length 0 = a := by simp [List.getD]
theorem inner_eq (lt : Int → Int → Bool) (x : Int) : ∀ (l post : List Int), inner lt l.length (l.reverse ++ x :: post) = (insR lt x l).reverse ++ post
 | [], post => rfl
 | y :: l, post => by
  have hl : l.reverse.length = l.length := List.length_reverse
  have e0 : (y :: l).reverse ++ x :: post = l.reverse ++ y :: x :: post := by simp
  have e1 : (l.reverse ++ y :: x :: post).getD l.length 0 = y := by rw [← hl]; exact getD_app _ _ _
  have e2 : (l.reverse ++ y :: x :: post).getD (l.length + 1) 0 = x := by
   simp
  rw [e0]
  show inner lt (l.length + 1) _ = _
  rw [inner, e1, e2, insR]
  split
  ·rename_i h
   have e3 : swapAt (l.reverse ++ y :: x :: post) l.length = l.reverse ++ x :: y :: post := by
    unfold swapAt
    rw [e1, e2, List.set_append_right _ _ (by omega), hl]
    have : l.length + 1 - l.length = 1 := by omega
    rw [this, List.set_append_right _ _ (by omega), hl, Nat.sub_self]
    rfl
   rw [e3, inner_eq lt x l (y :: post)]
   simp
  ·simp
theorem outer_eq (lt : Int → Int → Bool) : ∀ (xs l : List Int), outer lt xs.length l.length (l.reverse ++ xs) = (xs.foldl (fun a x => insR lt x a) l).reverse
 | [], l => by simp [outer]
 | x :: xs, l => by
  show outer lt (xs.length + 1) l.length _ = _
  rw [outer, inner_eq lt x l xs]
  have := outer_eq lt xs (insR lt x l)
  rw [insR_len] at this
  rw [this]
  rfl
def Behind (f : Int → Int) (a b : Int) : Prop := f a < f b ∨ (f a = f b ∧ b < a)
theorem insR_sorted {lt : Int → Int → Bool} {f : Int → Int} (hlt : ∀ x y, lt x y = true ↔ f y < f x) {x : Int} : ∀ {l : List Int}, (∀ y ∈ l, y < x) → l.Pairwise (Behind f) → (insR lt x l).Pairwise (Behind f)
 | [], _, _ => by simp [insR]
 | y :: l, hx, h => by
  have h' := List.pairwise_cons.1 h
  unfold insR
  split
  ·rename_i hh
   have hf := (hlt x y).1 hh
   refine List.pairwise_cons.2 ⟨fun z hz => ?_, insR_sorted hlt (fun z hz => hx z (List.mem_cons_of_mem _ hz)) h'.2⟩
   have hz' := (insR_perm lt x l).mem_iff.1 hz
   rcases List.mem_cons.1 hz' with rfl | hz'
   ·exact .inl hf
   ·exact h'.1 z hz'
  ·rename_i hh
   have hf : f x ≤ f y := by
    apply Int.not_lt.1
    intro h2
    exact hh ((hlt x y).2 h2)
   refine List.pairwise_cons.2 ⟨fun z hz => ?_, h⟩
   have hzx := hx z hz
   have hzy : f y ≤ f z := by
    rcases List.mem_cons.1 hz with rfl | hz
    ·exact Int.le_refl _
    ·rcases h'.1 z hz with h3 | h3 <;> omega
   rcases Int.lt_or_le (f x) (f z) with h4 | h4
   ·exact .inl h4
   ·exact .inr ⟨by omega, hzx⟩
theorem fold_sorted {lt : Int → Int → Bool} {f : Int → Int} (hlt : ∀ x y, lt x y = true ↔ f y < f x) : ∀ (xs l : List Int), xs.Pairwise (· < ·) → (∀ y ∈ l, ∀ x ∈ xs, y < x) → l.Pairwise (Behind f) →
  (xs.foldl (fun a x => insR lt x a) l).Pairwise (Behind f) ∧ (xs.foldl (fun a x => insR lt x a) l).Perm (xs ++ l)
 | [], l, _, _, h => ⟨h, List.Perm.refl _⟩
 | x :: xs, l, hp, hl, h => by
  have hp' := List.pairwise_cons.1 hp
  have h1 := insR_sorted hlt (x := x) (l := l) (fun y hy => hl y hy x List.mem_cons_self) h
  have ih := fold_sorted hlt xs (insR lt x l) hp'.2 (fun y hy z hz => by
   have hy' := (insR_perm lt x l).mem_iff.1 hy
   rcases List.mem_cons.1 hy' with rfl | hy'
   ·exact hp'.1 z hz
   ·exact hl y hy' z (List.mem_cons_of_mem _ hz)) h1
  refine ⟨ih.1, ih.2.trans ?_⟩
  exact ((insR_perm lt x l).append_left xs).trans List.perm_middle
theorem firsts_sorted (n : Nat) : (firsts n).Pairwise (· < ·) := by
 unfold firsts
 rw [List.pairwise_map]
 exact List.pairwise_lt_range.imp fun h => by simpa using h
theorem sumL_append (a b : List Int) : sumL (a ++ b) = sumL a + sumL b := by
 induction a with
 | nil => simp [sumL]
 | cons x a ih => show x + sumL (a ++ b) = x + sumL a + sumL b; rw [ih]; omega
section
variable {r : List Int} {total : Int}
end
end Rx
namespace Rx
section
variable {b : Board} {p : Power}
def sumF (f : Nat → Int) (l : List Int) : Int := sumL (l.map fun k => f k.toNat)
theorem sumF_snoc (f : Nat → Int) (l : List Int) (k : Int) : sumF f (l ++ [k]) = sumF f l + f k.toNat := by
 unfold sumF
 rw [List.map_append, sumL_append]
 simp [sumL]
theorem sumF_bd {f : Nat → Int} {l : List Int} {B : Int} (h : ∀ k ∈ l, 0 ≤ f k.toNat ∧ f k.toNat ≤ B) : 0 ≤ sumF f l ∧ sumF f l ≤ B * l.length := by
 have := sum_bd (l := l.map fun k => f k.toNat) (B := B) (fun x hx => by
  obtain ⟨k, hk, rfl⟩ := List.mem_map.1 hx
  exact h k hk)
 simpa [sumF] using this
def loadI (p : Power) (x : Island) : Int := if x.Sources = [] then 0 else sumF (gt p.Limits) x.Consumers
def rateI (b : Board) (x : Island) : Int := sumF (fun k => (gt b.Sources k).Rating) x.Sources
theorem ofB_parts (hg : BrkOk b) (k : Int) : (∀ c ∈ (ofB b p k).1.Consumers, 0 ≤ c ∧ c < b.Consumers.length) ∧ (∀ c ∈ (ofB b p k).1.Sources, 0 ≤ c ∧ c < b.Sources.length) ∧ (ofB b p k).1.Consumers.length ≤ b.Consumers.length ∧ (ofB b p k).1.Sources.length ≤ b.Sources.length := by
 unfold ofB
 split
 ·have h := isle_len (b := b) (p := p) (gt (grp b p) k.toNat).toNat
  refine ⟨fun c hc => ?_, fun c hc => ?_, h.2.2, h.2.1⟩
  ·obtain ⟨j, hj, _, _, e⟩ := mem_con.1 hc
   omega
  ·obtain ⟨j, hj, _, _, e⟩ := mem_src.1 hc
   omega
 ·exact ⟨fun c hc => (by cases hc), fun c hc => (by cases hc), Nat.zero_le _, Nat.zero_le _⟩
theorem lim_bd (h : stt b p = 0) {k : Nat} (hk : k < b.Consumers.length) : 0 ≤ gt p.Limits k ∧ gt p.Limits k ≤ 50000 := by
 obtain ⟨⟨hl, hg⟩, ⟨s1, s2, s3⟩, g1, g2, g3⟩ := stt_zero.1 h
 have h1 := (g3 k (by omega)).1
 have h2 := (hg.2.2.2.2 k hk).2.1
 omega
theorem rat_bd (h : stt b p = 0) {k : Nat} (hk : k < b.Sources.length) : 1 ≤ (gt b.Sources k).Rating ∧ (gt b.Sources k).Rating ≤ 50000 := by
 obtain ⟨⟨hl, hg⟩, _⟩ := stt_zero.1 h
 exact (hg.2.2.2.1 k hk).1
theorem ofB_zero (h : stt b p ≠ 0) (k : Int) : (ofB b p k).1 = ⟨[], [], []⟩ := by unfold ofB; rw [if_neg (fun hn => h hn.1)]
theorem load_eq (hb : SmB b) (hp : SmP p) (k : Int) : balance_Load b p k = some (loadI p (ofB b p k).1) := by
 by_cases h : stt b p = 0
 case neg =>
  unfold balance_Load
  rw [of_eq hb hp]
  have e : ofT b p k = ([], [], [], (ofB b p k).2) := by unfold ofT; rw [ofB_zero h]
  rw [e, ofB_zero h]
  rfl
 obtain ⟨⟨hl, hg⟩, ⟨s1, s2, s3⟩, _⟩ := stt_zero.1 h
 obtain ⟨h1, h2, h3, h4⟩ := ofB_parts (p := p) hg.1 k
 have h8 := hl.con
 generalize hx : (ofB b p k).1 = x at *
 have hlp := loop_run (step := balance_Load_L1 p (ofT b p k)) (fun i => (if x.Sources = [] then 0 else sumF (gt p.Limits) (x.Consumers.take i), (i : Int))) x.Consumers.length (r := loadI p x) (fun i hi => by
  obtain ⟨c0, c1⟩ := h1 _ (gt_mem hi)
  obtain ⟨c, ec⟩ := Int.eq_ofNat_of_zero_le c0
  have ec : gt x.Consumers i = (c : Int) := ec
  have hc : c < p.Limits.length := by omega
  have e1 : (ofT b p k).2.2.1 = x.Consumers := by rw [← hx]; rfl
  have e2 : (ofT b p k).2.1 = x.Sources := by rw [← hx]; rfl
  have hbd := sumF_bd (f := gt p.Limits) (l := x.Consumers.take i) (B := 50000) (fun c hc => by
   have := h1 c (List.mem_of_mem_take hc)
   exact lim_bd h (by omega))
  have hlen : (x.Consumers.take i).length ≤ 16 := by simp; omega
  have hcb := lim_bd h (k := c) (by omega)
  by_cases hs : x.Sources = []
  ·simp only [balance_Load_L1, e1, e2, hs, lt_len hi, if_true, idx_gt hi, ec, Option.bind_some, dF (show ¬ len ([] : List Int) > 0 by decide), Bool.false_eq_true, if_false, W_succ (show i < 1000000000000000000 by omega)]
  ·have hpos : len x.Sources > 0 := by have := List.length_pos_iff.2 hs; unfold len; omega
   simp only [balance_Load_L1, e1, e2, if_neg hs, lt_len hi, if_true, idx_gt hi, ec, Option.bind_some, dT hpos, idx_gt hc, W_succ (show i < 1000000000000000000 by omega), take_gt hi, sumF_snoc, Int.toNat_natCast]
   rw [W_sm (by omega) (by omega)]) (by
  have e1 : (ofT b p k).2.2.1 = x.Consumers := by rw [← hx]; rfl
  simp only [balance_Load_L1, e1, nlt_len, Bool.false_eq_true, if_false, List.take_length]
  rfl)
 unfold balance_Load
 have e0 : (if x.Sources = [] then (0 : Int) else sumF (gt p.Limits) (x.Consumers.take 0), ((0 : Nat) : Int)) = (0, 0) := by simp [sumF, sumL]
 have hlp' : loopO (balance_Load_L1 p (ofT b p k)) (if x.Sources = [] then (0 : Int) else sumF (gt p.Limits) (x.Consumers.take 0), ((0 : Nat) : Int)) = _ := hlp
 rw [e0] at hlp'
 simp only [of_eq hb hp, Option.bind_some, hlp']
theorem rating_eq (hb : SmB b) (hp : SmP p) (k : Int) : balance_Rating b p k = some (rateI b (ofB b p k).1) := by
 by_cases h : stt b p = 0
 case neg =>
  unfold balance_Rating
  rw [of_eq hb hp]
  have e : ofT b p k = ([], [], [], (ofB b p k).2) := by unfold ofT; rw [ofB_zero h]
  rw [e, ofB_zero h]
  rfl
 obtain ⟨⟨hl, hg⟩, ⟨s1, s2, s3⟩, _⟩ := stt_zero.1 h
 obtain ⟨h1, h2, h3, h4⟩ := ofB_parts (p := p) hg.1 k
 have h8 := hl.src
 generalize hx : (ofB b p k).1 = x at *
 have e2 : (ofT b p k).2.1 = x.Sources := by rw [← hx]; rfl
 have hlp := loop_run (step := balance_Rating_L1 b (ofT b p k)) (fun i => (sumF (fun k => (gt b.Sources k).Rating) (x.Sources.take i), (i : Int))) x.Sources.length (r := rateI b x) (fun i hi => by
  obtain ⟨c0, c1⟩ := h2 _ (gt_mem hi)
  obtain ⟨c, ec⟩ := Int.eq_ofNat_of_zero_le c0
  have ec : gt x.Sources i = (c : Int) := ec
  have hc : c < b.Sources.length := by omega
  have hbd := sumF_bd (f := fun k => (gt b.Sources k).Rating) (l := x.Sources.take i) (B := 50000) (fun c hc => by
   have := h2 c (List.mem_of_mem_take hc)
   have := rat_bd h (k := c.toNat) (by omega)
   exact ⟨by omega, this.2⟩)
  have hlen : (x.Sources.take i).length ≤ 8 := by simp; omega
  have hcb := rat_bd h (k := c) (by omega)
  simp only [balance_Rating_L1, e2, lt_len hi, if_true, idx_gt hi, ec, Option.bind_some, idx_gt hc, W_succ (show i < 1000000000000000000 by omega), take_gt hi, sumF_snoc, Int.toNat_natCast]
  rw [W_sm (by omega) (by omega)]) (by
  simp only [balance_Rating_L1, e2, nlt_len, Bool.false_eq_true, if_false, List.take_length]
  rfl)
 unfold balance_Rating
 have hlp' : loopO (balance_Rating_L1 b (ofT b p k)) (0, 0) = _ := hlp
 simp only [of_eq hb hp, Option.bind_some, hlp']
theorem over_eq (hb : SmB b) (hp : SmP p) (k : Int) : balance_Overloaded b p k = some (decide (rateI b (ofB b p k).1 < loadI p (ofB b p k).1)) := by
 unfold balance_Overloaded
 simp only [load_eq hb hp, rating_eq hb hp, Option.bind_some]
theorem isl_parts (hg : BrkOk b) {x : Island} (hx : x ∈ isl b p) : (∀ c ∈ x.Consumers, 0 ≤ c ∧ c < b.Consumers.length) ∧ (∀ c ∈ x.Sources, 0 ≤ c ∧ c < b.Sources.length) ∧ x.Consumers.length ≤ b.Consumers.length ∧ x.Sources.length ≤ b.Sources.length ∧ 0 < x.Buses.length := by
 obtain ⟨f, hf, e, hne⟩ := mem_isl.1 hx
 have h := isle_len (b := b) (p := p) f
 rw [e]
 refine ⟨fun c hc => ?_, fun c hc => ?_, h.2.2, h.2.1, List.length_pos_iff.2 hne⟩
 ·obtain ⟨j, hj, _, _, e⟩ := mem_con.1 hc
  omega
 ·obtain ⟨j, hj, _, _, e⟩ := mem_src.1 hc
  omega
theorem isl_of (h : stt b p = 0) {x : Island} (hx : x ∈ isl b p) : (ofB b p (gt x.Buses 0)).1 = x := by
 obtain ⟨⟨hl, hg⟩, _⟩ := stt_zero.1 h
 have hb0 := (isl_parts hg.1 hx).2.2.2.2
 obtain ⟨h1, h2, h3⟩ := isleOf_uniq hx (gt_mem hb0)
 unfold ofB
 rw [if_pos ⟨h, h1, by omega⟩]
 exact h3.symm
theorem load_bd (h : stt b p = 0) {x : Island} (hx : x ∈ isl b p) : 0 ≤ loadI p x ∧ loadI p x ≤ 800000 ∧ (x.Sources = [] → loadI p x = 0) := by
 obtain ⟨⟨hl, hg⟩, _⟩ := stt_zero.1 h
 obtain ⟨h1, h2, h3, h4, _⟩ := isl_parts hg.1 hx
 have h8 := hl.con
 have hbd := sumF_bd (f := gt p.Limits) (l := x.Consumers) (B := 50000) (fun c hc => by
  have := h1 c hc
  exact lim_bd h (by omega))
 unfold loadI
 refine ⟨?_, ?_, fun e => if_pos e⟩
 ·split <;> omega
 ·split <;> omega
end
end Rx
namespace Rx
theorem part_ext {p q : Part} (h1 : p.Kind = q.Kind) (h2 : p.Number = q.Number) : p = q := by
 cases p; cases q; simp at h1 h2; rw [h1, h2]
section
variable {b : Board} {p : Power}
noncomputable def brk (p : Power) (k n : Int) : Bool := dB ((⟨k, n⟩ : Part) ∈ p.Broken)
theorem refbrk_has (hp : SmP p) (k n : Int) : dynposref15_Broken p k n = some (brk p k n) := by
 have hl := hp.2.2.2
 have h := loop_anyB (step := dynposref15_Broken_L1 p k n) (fun i => (i : Int)) p.Broken.length (fun i => gt p.Broken i = (⟨k, n⟩ : Part)) (r := .inr true) (e := .inl ()) (fun i hi hne => by
  unfold dynposref15_Broken_L1
  simp only [lt_len hi, if_true, idx_gt hi, Option.bind_some]
  have : (if ((gt p.Broken i).Kind == k) = true then some ((gt p.Broken i).Number == n) else some false) = some false := by
   by_cases h1 : (gt p.Broken i).Kind = k
   ·by_cases h2 : (gt p.Broken i).Number = n
    ·exact (hne (part_ext h1 h2)).elim
    ·simp [h1, h2]
   ·simp [h1]
  simp only [this, Option.bind_some, Bool.false_eq_true, if_false]
  rw [W_succ (sm_lt hl hi)]) (fun i hi he => by
  unfold dynposref15_Broken_L1
  simp only [lt_len hi, if_true, idx_gt hi, Option.bind_some, he, beq_self_eq_true]) (by
  unfold dynposref15_Broken_L1
  simp only [nlt_len, Bool.false_eq_true, if_false])
 have h' : loopO (dynposref15_Broken_L1 p k n) 0 = _ := h
 have hm : dB (∃ i, i < p.Broken.length ∧ gt p.Broken i = (⟨k, n⟩ : Part)) = brk p k n := dB_congr mem_iff_gt.symm
 unfold dynposref15_Broken
 rw [h', hm]
 cases brk p k n <;> rfl
theorem brk_has (hp : SmP p) (k n : Int) : board_Broken p k n = some (brk p k n) := by
 have hl := hp.2.2.2
 unfold board_Broken slices_Contains_Part_Part slices_Index_Part_Part
 have e1 : ∀ i, ((k == (gt p.Broken i).Kind && n == (gt p.Broken i).Number) = true ↔ gt p.Broken i = (⟨k, n⟩ : Part)) := fun i => by
  simp only [Bool.and_eq_true, beq_iff_eq]
  exact ⟨fun ⟨h1, h2⟩ => part_ext h1.symm h2.symm, fun h => by rw [h]; exact ⟨rfl, rfl⟩⟩
 by_cases hm : (⟨k, n⟩ : Part) ∈ p.Broken
 ·have hw : Wp (loopO (slices_Index_Part_Part_L1 p.Broken ⟨k, n⟩) 0) fun r => ∃ q : Nat, r = .inr (q : Int) := by
   obtain ⟨j, hj, he⟩ := mem_gt hm
   refine wp_upto p.Broken.length (fun k s => s = (k : Int) ∧ k ≤ j) ⟨rfl, by omega⟩ (fun i s hi hv => ?_) (fun s hv => by omega) (sm_le hl)
   obtain ⟨rfl, hv⟩ := hv
   unfold slices_Index_Part_Part_L1
   simp only [lt_len hi, if_true, idx_gt hi, Option.bind_some]
   cases hb : (k == (gt p.Broken i).Kind && n == (gt p.Broken i).Number) with
   | true => simp only [if_true]; exact wp_some.2 ⟨i, rfl⟩
   | false =>
    simp only [Bool.false_eq_true, if_false]
    refine wp_some.2 ⟨W_succ (sm_lt hl hi), ?_⟩
    by_cases e : i = j
    ·subst e
     rw [(e1 i).2 he] at hb
     cases hb
    ·omega
  obtain ⟨r, e, q, rfl⟩ := hw
  rw [e]
  unfold brk
  rw [dB_T hm]
  simp only [Option.bind_some, Sum.elim_inr]
  rw [dT (by omega)]
 ·have e : loopO (slices_Index_Part_Part_L1 p.Broken ⟨k, n⟩) 0 = some (.inl ()) := loop_run (r := Sum.inl ()) (fun k => (k : Int)) p.Broken.length (fun i hi => by
   unfold slices_Index_Part_Part_L1
   simp only [lt_len hi, if_true, idx_gt hi, Option.bind_some]
   cases hb : (k == (gt p.Broken i).Kind && n == (gt p.Broken i).Number) with
   | true => exact (hm ((e1 i).1 hb ▸ gt_mem hi)).elim
   | false =>
    simp only [Bool.false_eq_true, if_false]
    rw [W_succ (sm_lt hl hi)]) (by
   unfold slices_Index_Part_Part_L1
   simp only [nlt_len, Bool.false_eq_true, if_false]) (sm_le hl)
  rw [e]
  unfold brk
  rw [dB_F hm]
  simp only [Option.bind_some, Sum.elim_inl]
  rw [dF (by omega)]
noncomputable def liv (b : Board) (p : Power) (k : Int) : Bool := decide (0 < (ofB b p k).1.Sources.length)
theorem liv_eq (hb : SmB b) (hp : SmP p) (k : Int) : board_Live b p k = some (liv b p k) := live_eq hb hp k
theorem refliv_eq (hb : SmB b) (hp : SmP p) (k : Int) : dynposref15_Live b p k = some (liv b p k) := by
 unfold dynposref15_Live liv
 rw [refof_isle hb hp]
 simp only [ofR, Option.bind_some]
 by_cases h : stt b p = 0 ∧ 0 ≤ k ∧ k < b.Buses
 ·have e : (ofB b p k).2 = true := by unfold ofB; rw [if_pos h]
  rw [e]
  simp only [if_true, Option.bind_some]
  congr 1
  rw [decide_eq_decide]
  unfold len
  omega
 ·have e : (ofB b p k).2 = false := by unfold ofB; rw [if_neg h]
  have e' : (ofB b p k).1.Sources.length = 0 := by unfold ofB; rw [if_neg h]; rfl
  rw [e, e']
  rfl
noncomputable def dng (p : Power) (x : Breaker) : Bool := brk p 3 x.A || (if x.Kind = 1 then brk p 3 x.B else if x.Kind = 2 then brk p 1 x.B || ((gt p.Sources x.B.toNat).State != 2) else brk p 4 x.B)
theorem dng_eq (hp : SmP p) {x : Breaker} (hx : x.Kind = 2 → 0 ≤ x.B ∧ x.B < p.Sources.length) (a : List Act) : relief_dangerous ⟨b, p, a⟩ x = some (dng p x) := by
 unfold relief_dangerous shed_relief__dangerous_1 dng
 simp only [brk_has hp, Option.bind_some]
 cases brk p 3 x.A with
 | true => simp only [if_true, Bool.true_or]
 | false =>
  simp only [Bool.false_eq_true, if_false, Bool.false_or]
  by_cases h1 : x.Kind = 1
  ·rw [beqT h1, if_pos h1]
   simp only [if_true]
  ·rw [beqF h1, if_neg h1]
   simp only [Bool.false_eq_true, if_false]
   by_cases h2 : x.Kind = 2
   ·rw [beqT h2, if_pos h2]
    simp only [if_true]
    cases brk p 1 x.B with
    | true => simp only [if_true, Option.bind_some, Bool.true_or]
    | false =>
     have := hx h2
     simp only [Bool.false_eq_true, if_false, idx_gtZ this.1 this.2, Option.bind_some, Bool.false_or]
   ·rw [beqF h2, if_neg h2]
    simp only [Bool.false_eq_true, if_false]
def opn (C : List Bool) (P : Nat → Bool) : List Bool := (List.range C.length).map fun i => gt C i && !P i
theorem opn_len (C : List Bool) (P : Nat → Bool) : (opn C P).length = C.length := by simp [opn]
theorem opn_gt {C : List Bool} {P : Nat → Bool} {i : Nat} (h : i < C.length) : gt (opn C P) i = (gt C i && !P i) := gt_map_range _ h
def actO (i : Int) : Act := ⟨2, i, 0⟩
def fnd (C : List Bool) (P : Nat → Bool) : List Int := rangeF (fun i => gt C i && P i) C.length
def tup (b : Board) (p : Power) (a : List Act) : Int × List Breaker × List Source × List Consumer × Int × Int × List Bool × List Running × List Int × List Part × List Act := (b.Buses, b.Breakers, b.Sources, b.Consumers, b.Phase, b.Frequency, p.Closed, p.Sources, p.Limits, p.Broken, a)
theorem opnAll (C : List Bool) (l : List Int) (h : ∀ k ∈ l, 0 ≤ k ∧ k < (C.length : Int)) : ∀ i, gt (l.foldl (fun c k => c.set k.toNat false) C) i = (gt C i && !decide ((i : Int) ∈ l)) ∧ (l.foldl (fun c k => c.set k.toNat false) C).length = C.length := by
 induction l generalizing C with
 | nil => intro i; simp
 | cons k l ih =>
  intro i
  have hk := h k (by simp)
  have := ih (C.set k.toNat false) (fun j hj => by have := h j (by simp [hj]); simpa using this) i
  simp only [List.foldl_cons]
  rw [this.1, this.2]
  refine ⟨?_, by simp⟩
  rw [gt_set (by omega)]
  by_cases e : i = k.toNat
  ·have : (i : Int) = k := by omega
   rw [if_pos e, this]; simp
  ·have : (i : Int) ≠ k := by omega
   rw [if_neg e]
   simp [this]
theorem open_run {b : Board} {p : Power} {a : List Act} {l : List Int} (hC : p.Closed.length ≤ 1000) (hl : l.length ≤ 1000) (ha : a.length ≤ 10000000) (h : ∀ k ∈ l, 0 ≤ k ∧ k < (p.Closed.length : Int)) :
  loopO (relief_sweep_v5_L2 l) (0, tup b p a) = some (tup b { p with Closed := l.foldl (fun c k => c.set k.toNat false) p.Closed } (a ++ l.map actO)) := by
 have := loop_run (step := relief_sweep_v5_L2 l) (r := tup b { p with Closed := l.foldl (fun c k => c.set k.toNat false) p.Closed } (a ++ l.map actO)) (fun k => ((k : Int), tup b { p with Closed := (l.take k).foldl (fun c k => c.set k.toNat false) p.Closed } (a ++ (l.take k).map actO))) l.length (fun k hk => by
  have hg := h _ (gt_mem hk)
  have hln := (opnAll p.Closed (l.take k) (fun j hj => h j (List.mem_of_mem_take hj)) 0).2
  unfold relief_sweep_v5_L2 relief_open_v1
  simp only [tup, lt_len hk, if_true, idx_gt hk, Option.bind_some]
  rw [idx_gtZ (l := (l.take k).foldl (fun c k => c.set k.toNat false) p.Closed) hg.1 (by rw [hln]; exact hg.2), setO_gt hg.1 (by rw [hln]; exact hg.2), app_sm (by simp; omega), W_succ (by omega)]
  simp only [Option.bind_some, take_gt hk, List.foldl_append, List.foldl_cons, List.foldl_nil, List.map_append, List.map_cons, List.map_nil, List.append_assoc]
  rfl) (by
  unfold relief_sweep_v5_L2
  simp only [tup, nlt_len, Bool.false_eq_true, if_false, List.take_length]) (by omega)
 simpa using this
theorem fnd_mem {C : List Bool} {P : Nat → Bool} : ∀ k ∈ fnd C P, 0 ≤ k ∧ k < (C.length : Int) := fun k hk => by
 obtain ⟨i, hi, _, rfl⟩ := mem_rangeF.1 hk
 omega
theorem fnd_opn (C : List Bool) (P : Nat → Bool) : (fnd C P).foldl (fun c k => c.set k.toNat false) C = opn C P := by
 refine ext_gt (by rw [(opnAll C (fnd C P) fnd_mem 0).2, opn_len]) fun i hi => ?_
 rw [(opnAll C (fnd C P) fnd_mem 0).2] at hi
 rw [(opnAll C (fnd C P) fnd_mem i).1, opn_gt hi]
 cases hc : gt C i with
 | false => simp
 | true =>
  simp only [Bool.true_and]
  congr 1
  cases hP : P i with
  | true => exact decide_eq_true (mem_rangeF.2 ⟨i, hi, by simp [hc, hP], rfl⟩)
  | false =>
   refine decide_eq_false fun hm => ?_
   obtain ⟨j, _, hj, e⟩ := mem_rangeF.1 hm
   have : i = j := by omega
   subst this
   rw [hP] at hj
   simp at hj
theorem fnd_len (C : List Bool) (P : Nat → Bool) : (fnd C P).length ≤ C.length := rangeF_len _ _
noncomputable def clr1 (b : Board) (p : Power) : Power := { p with Closed := opn p.Closed fun i => dng p (gt b.Breakers i) }
noncomputable def dead (b : Board) (p : Power) (x : Breaker) : Bool := x.Kind == 3 && !liv b p x.A
noncomputable def clr2 (b : Board) (p : Power) : Power := { clr1 b p with Closed := opn (clr1 b p).Closed fun i => dead b (clr1 b p) (gt b.Breakers i) }
noncomputable def clrA (b : Board) (p : Power) : List Act := (fnd p.Closed fun i => dng p (gt b.Breakers i)).map actO ++ (fnd (clr1 b p).Closed fun i => dead b (clr1 b p) (gt b.Breakers i)).map actO
noncomputable def clrP (b : Board) (p : Power) : Power := folP b (clr2 b p)
theorem clo_mono {q : Power} {j : Int} (h : ∀ k, gt q.Closed k = true → gt p.Closed k = true) : ∀ n, clo b q j n ≤ clo b p j n := by
 intro n
 induction n with
 | zero => exact Nat.le_refl _
 | succ n ih =>
  unfold clo
  by_cases hc : (gt b.Breakers n).Kind = 3 ∧ (gt b.Breakers n).B = j ∧ gt q.Closed n = true
  ·rw [if_pos hc, if_pos ⟨hc.1, hc.2.1, h n hc.2.2⟩]; omega
  ·rw [if_neg hc]; omega
theorem stt_less {q : Power} (h : stt b p = 0) (hl : q.Closed.length = p.Closed.length) (hs : q.Sources = p.Sources) (hm : q.Limits = p.Limits) (hb : q.Broken = p.Broken) (hc : ∀ k, gt q.Closed k = true → gt p.Closed k = true) : stt b q = 0 := by
 obtain ⟨h1, ⟨s1, s2, s3⟩, ⟨g1, g2⟩, g3, g4⟩ := stt_zero.1 h
 refine stt_zero.2 ⟨h1, ⟨by omega, by rw [hs]; exact s2, by rw [hm]; exact s3⟩, ⟨by rw [hb]; exact g1, by rw [hb]; exact g2⟩, by rw [hs]; exact g3, fun k hk => ?_⟩
 rw [hm] at hk
 obtain ⟨a, c⟩ := g4 k hk
 refine ⟨by rw [hm]; exact a, ?_⟩
 have := clo_mono (b := b) (j := (k : Int)) hc b.Breakers.length
 omega
theorem opn_le {C : List Bool} {P : Nat → Bool} {k : Nat} (h : gt (opn C P) k = true) : gt C k = true := by
 by_cases hk : k < C.length
 ·rw [opn_gt hk] at h
  cases hc : gt C k with
  | true => rfl
  | false => rw [hc] at h; cases h
 ·unfold gt at h
  rw [List.getD_eq_getElem?_getD, List.getElem?_eq_none (by rw [opn_len]; omega)] at h
  exact Bool.noConfusion h
theorem stt_clr1 (h : stt b p = 0) : stt b (clr1 b p) = 0 := stt_less h (opn_len _ _) rfl rfl rfl fun k hk => opn_le hk
theorem stt_clr2 (h : stt b p = 0) : stt b (clr2 b p) = 0 := stt_less (stt_clr1 h) (opn_len _ _) rfl rfl rfl fun k hk => opn_le hk
theorem sm_opn {q : Power} (hp : SmP p) (hl : q.Closed.length = p.Closed.length) (hs : q.Sources = p.Sources) (hm : q.Limits = p.Limits) (hb : q.Broken = p.Broken) : SmP q := by
 obtain ⟨h1, h2, h3, h4⟩ := hp
 refine ⟨?_, by rw [hs]; exact h2, by rw [hm]; exact h3, by rw [hb]; exact h4⟩
 unfold Sm at h1 ⊢; omega
theorem sm_clr1 (hp : SmP p) : SmP (clr1 b p) := sm_opn hp (opn_len _ _) rfl rfl rfl
theorem sm_clr2 (hp : SmP p) : SmP (clr2 b p) := sm_opn (sm_clr1 (b := b) hp) (opn_len _ _) rfl rfl rfl
theorem brk_lens (h : stt b p = 0) : p.Closed.length = b.Breakers.length ∧ p.Sources.length = b.Sources.length ∧ b.Breakers.length ≤ 24 ∧ b.Sources.length ≤ 8 ∧ b.Consumers.length ≤ 16 ∧ p.Limits.length = b.Consumers.length := by
 obtain ⟨⟨hl, _⟩, ⟨s1, s2, s3⟩, _⟩ := stt_zero.1 h
 exact ⟨s1, s2, hl.brk, hl.src, hl.con, s3⟩
theorem src_at (h : stt b p = 0) {k : Nat} (hk : k < b.Breakers.length) (h2 : (gt b.Breakers k).Kind = 2) : 0 ≤ (gt b.Breakers k).B ∧ (gt b.Breakers k).B < (p.Sources.length : Int) := by
 obtain ⟨s1, s2, _⟩ := brk_lens h
 have := (((stt_zero.1 h).1.2).1.1 k hk).2
 rcases this with c | c | c <;> omega
theorem sweep1_eq (hp : SmP p) (h : stt b p = 0) {a : List Act} (ha : a.length ≤ 1000000) : relief_sweep_v5 ⟨b, p, a⟩ = some (tup b (clr1 b p) (a ++ (fnd p.Closed fun i => dng p (gt b.Breakers i)).map actO)) := by
 obtain ⟨s1, s2, s3, _⟩ := brk_lens h
 unfold relief_sweep_v5
 have e1 : loopO (relief_sweep_v5_L1 ⟨b, p, a⟩) (0, []) = some (fnd p.Closed fun i => dng p (gt b.Breakers i)) := by
  have := loop_run (step := relief_sweep_v5_L1 ⟨b, p, a⟩) (r := fnd p.Closed fun i => dng p (gt b.Breakers i)) (fun k => ((k : Int), rangeF (fun i => gt p.Closed i && dng p (gt b.Breakers i)) k)) b.Breakers.length (fun k hk => by
   have hrl := rangeF_len (fun i => gt p.Closed i && dng p (gt b.Breakers i)) k
   unfold relief_sweep_v5_L1
   simp only [lt_len hk, if_true, idx_gt hk, Option.bind_some, idx_gt (l := p.Closed) (k := k) (by omega), dng_eq (b := b) hp (x := gt b.Breakers k) (src_at h hk) a]
   rw [W_succ (by omega), rangeF_succ]
   cases gt p.Closed k with
   | false => simp
   | true =>
    cases dng p (gt b.Breakers k) with
    | false => simp
    | true =>
     simp only [if_true, Option.bind_some, Bool.and_self]
     rw [app_sm (by simp; omega)]
     rfl) (by
   unfold relief_sweep_v5_L1
   simp only [nlt_len, Bool.false_eq_true, if_false]
   unfold fnd
   rw [s1]) (by omega)
  simpa [rangeF] using this
 rw [e1]
 have hfl : (fnd p.Closed fun i => dng p (gt b.Breakers i)).length ≤ 1000 := by
  have := fnd_len p.Closed fun i => dng p (gt b.Breakers i)
  omega
 have e2 := open_run (b := b) (p := p) (a := a) (l := fnd p.Closed fun i => dng p (gt b.Breakers i)) (by omega) hfl (by omega) fnd_mem
 simp only [Option.bind_some]
 rw [show loopO (relief_sweep_v5_L2 (fnd p.Closed fun i => dng p (gt b.Breakers i))) (0, b.Buses, b.Breakers, b.Sources, b.Consumers, b.Phase, b.Frequency, p.Closed, p.Sources, p.Limits, p.Broken, a) = _ from e2, fnd_opn]
 rfl
theorem sweep2_eq (hb : SmB b) (hp : SmP p) (h : stt b p = 0) {a : List Act} (ha : a.length ≤ 1000000) : relief_sweep_v6 ⟨b, p, a⟩ = some (tup b { p with Closed := opn p.Closed fun i => dead b p (gt b.Breakers i) } (a ++ (fnd p.Closed fun i => dead b p (gt b.Breakers i)).map actO)) := by
 obtain ⟨s1, s2, s3, _⟩ := brk_lens h
 unfold relief_sweep_v6
 have e1 : loopO (relief_sweep_v6_L1 ⟨b, p, a⟩) (0, [], tup b p a) = some (fnd p.Closed fun i => dead b p (gt b.Breakers i), tup b p a) := by
  have := loop_run (step := relief_sweep_v6_L1 ⟨b, p, a⟩) (r := (fnd p.Closed fun i => dead b p (gt b.Breakers i), tup b p a)) (fun k => ((k : Int), rangeF (fun i => gt p.Closed i && dead b p (gt b.Breakers i)) k, tup b p a)) b.Breakers.length (fun k hk => by
   have hrl := rangeF_len (fun i => gt p.Closed i && dead b p (gt b.Breakers i)) k
   have hbe : (⟨b.Buses, b.Breakers, b.Sources, b.Consumers, b.Phase, b.Frequency⟩ : Board) = b := rfl
   have hpe : (⟨p.Closed, p.Sources, p.Limits, p.Broken⟩ : Power) = p := rfl
   unfold relief_sweep_v6_L1 shed_relief__clear_1_v1
   simp only [tup, lt_len hk, if_true, idx_gt hk, Option.bind_some, idx_gt (l := p.Closed) (k := k) (by omega), hbe, hpe, liv_eq hb hp]
   rw [W_succ (by omega), rangeF_succ]
   generalize rangeF (fun i => gt p.Closed i && dead b p (gt b.Breakers i)) k = R at hrl ⊢
   unfold dead
   cases gt p.Closed k with
   | false => simp
   | true =>
    cases (gt b.Breakers k).Kind == 3 with
    | false => simp
    | true =>
     cases liv b p (gt b.Breakers k).A with
     | true => simp
     | false =>
      simp only [if_true, Option.bind_some, Bool.and_self, Bool.not_false]
      rw [app_sm (by simp; omega)]
      rfl) (by
   unfold relief_sweep_v6_L1
   simp only [tup, nlt_len, Bool.false_eq_true, if_false]
   unfold fnd
   rw [s1]) (by omega)
  simpa [rangeF] using this
 rw [show loopO (relief_sweep_v6_L1 ⟨b, p, a⟩) (0, [], b.Buses, b.Breakers, b.Sources, b.Consumers, b.Phase, b.Frequency, p.Closed, p.Sources, p.Limits, p.Broken, a) = _ from e1]
 have hfl : (fnd p.Closed fun i => dead b p (gt b.Breakers i)).length ≤ 1000 := by
  have := fnd_len p.Closed fun i => dead b p (gt b.Breakers i)
  omega
 have e2 := open_run (b := b) (p := p) (a := a) (l := fnd p.Closed fun i => dead b p (gt b.Breakers i)) (by omega) hfl (by omega) fnd_mem
 simp only [Option.bind_some]
 rw [show loopO (relief_sweep_v6_L2 (fnd p.Closed fun i => dead b p (gt b.Breakers i), tup b p a)) (0, (tup b p a).1, (tup b p a).2.1, (tup b p a).2.2.1, (tup b p a).2.2.2.1, (tup b p a).2.2.2.2.1, (tup b p a).2.2.2.2.2.1, (tup b p a).2.2.2.2.2.2.1, (tup b p a).2.2.2.2.2.2.2.1, (tup b p a).2.2.2.2.2.2.2.2.1, (tup b p a).2.2.2.2.2.2.2.2.2.1, (tup b p a).2.2.2.2.2.2.2.2.2.2) = _ from e2, fnd_opn]
 rfl
theorem clear_run (hb : SmB b) (hp : SmP p) (h : stt b p = 0) : relief_clear_v1 ⟨b, p, []⟩ = some (b.Buses, b.Breakers, b.Sources, b.Consumers, b.Phase, b.Frequency, (clr2 b p).Closed, (clr2 b p).Sources, (clr2 b p).Limits, (clr2 b p).Broken, (clrP b p).Closed, (clrP b p).Sources, (clrP b p).Limits, (clrP b p).Broken, clrA b p) := by
 obtain ⟨s1, s2, s3, _⟩ := brk_lens h
 have hfl := fnd_len p.Closed fun i => dng p (gt b.Breakers i)
 unfold relief_clear_v1
 rw [sweep1_eq hp h (by simp)]
 simp only [Option.bind_some, tup]
 have e2 := sweep2_eq (a := [] ++ (fnd p.Closed fun i => dng p (gt b.Breakers i)).map actO) hb (sm_clr1 (b := b) hp) (stt_clr1 h) (by simp only [List.nil_append, List.length_map]; omega)
 rw [show (⟨⟨b.Buses, b.Breakers, b.Sources, b.Consumers, b.Phase, b.Frequency⟩, ⟨(clr1 b p).Closed, (clr1 b p).Sources, (clr1 b p).Limits, (clr1 b p).Broken⟩, [] ++ (fnd p.Closed fun i => dng p (gt b.Breakers i)).map actO⟩ : relief) = ⟨b, clr1 b p, [] ++ (fnd p.Closed fun i => dng p (gt b.Breakers i)).map actO⟩ from rfl, e2]
 simp only [Option.bind_some, tup]
 have e3 := follow_eq hb (sm_clr2 (b := b) hp) (stt_clr2 h)
 rw [show sync_Follow ⟨b.Buses, b.Breakers, b.Sources, b.Consumers, b.Phase, b.Frequency⟩ ⟨opn (clr1 b p).Closed fun i => dead b (clr1 b p) (gt b.Breakers i), (clr1 b p).Sources, (clr1 b p).Limits, (clr1 b p).Broken⟩ = _ from e3]
 simp only [Option.bind_some, List.nil_append]
 rfl
theorem clear_eq (hb : SmB b) (hp : SmP p) (h : stt b p = 0) : shed_Clear b p = some (0, (clrP b p).Closed, (clrP b p).Sources, (clrP b p).Limits, (clrP b p).Broken, clrA b p) := by
 unfold shed_Clear shed_relieve
 rw [state_eq hb hp, h]
 simp only [Option.bind_some, bne_self_eq_false, Bool.false_eq_true, if_false, clone_eq hp]
 rw [show (⟨b, ⟨p.Closed, p.Sources, p.Limits, p.Broken⟩, []⟩ : relief) = ⟨b, p, []⟩ from rfl, clear_run hb hp h]
 simp only [Option.bind_some]
theorem clear_bad (hb : SmB b) (hp : SmP p) (h : stt b p ≠ 0) : shed_Clear b p = some (stt b p, [], [], [], [], []) := by
 unfold shed_Clear shed_relieve
 have : (stt b p != 0) = true := by simpa using h
 rw [state_eq hb hp]
 simp only [Option.bind_some, this, if_true]
theorem tieRun_ties {q : Power} (hc : ∀ k, k < b.Breakers.length → (gt b.Breakers k).Kind = 1 → gt q.Closed k = gt p.Closed k) (k : Nat) (hk : k ≤ b.Breakers.length) (f : List Int) : tieRun b q k f = tieRun b p k f := by
 induction k with
 | zero => rfl
 | succ k ih =>
  unfold tieRun
  rw [ih (by omega)]
  unfold tieStep
  by_cases h1 : (gt b.Breakers k).Kind = 1
  ·rw [hc k (by omega) h1]
  ·rw [if_neg fun h => h1 h.1, if_neg fun h => h1 h.1]
theorem grp_ties {q : Power} (hc : ∀ k, k < b.Breakers.length → (gt b.Breakers k).Kind = 1 → gt q.Closed k = gt p.Closed k) : grp b q = grp b p := by
 unfold grp
 have : ∀ r f, rounds b q r f = rounds b p r f := by
  intro r f
  induction r with
  | zero => rfl
  | succ r ih => unfold rounds; rw [ih, tieRun_ties hc _ (Nat.le_refl _)]
 exact this _ _
theorem find_congr {n : Nat} {P Q : Nat → Bool} (h : ∀ k, k < n → P k = Q k) : (List.range n).find? P = (List.range n).find? Q := by
 induction n with
 | zero => rfl
 | succ n ih => rw [List.range_succ, List.find?_append, List.find?_append, ih fun k hk => h k (by omega)]; simp [List.find?_cons, h n (by omega)]
theorem led_kind {q : Power} {kind j : Int} (hc : ∀ k, k < b.Breakers.length → (gt b.Breakers k).Kind = kind → (gt b.Breakers k).B = j → gt q.Closed k = gt p.Closed k) : led b q kind j = led b p kind j := by
 unfold led
 rw [find_congr (P := ledAt b q kind j) (Q := ledAt b p kind j) fun k hk => by
  unfold ledAt
  cases h1 : (gt b.Breakers k).Kind == kind with
  | false => rfl
  | true =>
   cases h2 : (gt b.Breakers k).B == j with
   | false => rfl
   | true => rw [hc k hk (by simpa using h1) (by simpa using h2)]]
theorem conn_src {q : Power} (hl : q.Sources.length = p.Sources.length) (hs : ∀ j, j < p.Sources.length → (gt q.Sources j).State = (gt p.Sources j).State) (hc : ∀ k, k < b.Breakers.length → (gt b.Breakers k).Kind = 2 → gt q.Closed k = gt p.Closed k) (j : Int) : conn b q j = conn b p j := by
 unfold conn
 rw [hl]
 by_cases h : 0 ≤ j ∧ j ≤ (p.Sources.length : Int) - 1
 ·rw [if_pos h, if_pos h, hs j.toNat (by omega), led_kind fun k hk h2 _ => hc k hk h2]
 ·rw [if_neg h, if_neg h]
structure SameT (b : Board) (p q : Power) : Prop where
 len : q.Sources.length = p.Sources.length
 st : ∀ j, j < p.Sources.length → (gt q.Sources j).State = (gt p.Sources j).State
 cl : ∀ k, k < b.Breakers.length → (gt b.Breakers k).Kind ≠ 3 → gt q.Closed k = gt p.Closed k
theorem SameT.grp {q : Power} (h : SameT b p q) : grp b q = grp b p := grp_ties fun k hk h1 => h.cl k hk (by omega)
theorem SameT.conn {q : Power} (h : SameT b p q) (j : Int) : conn b q j = conn b p j := conn_src h.len h.st (fun k hk h2 => h.cl k hk (by omega)) j
theorem SameT.srcs {q : Power} (h : SameT b p q) (f : Nat) : (isle b q f).Sources = (isle b p f).Sources ∧ (isle b q f).Buses = (isle b p f).Buses := by
 unfold isle
 refine ⟨?_, ?_⟩
 ·show rangeF (srcP b q f) _ = rangeF (srcP b p f) _
  congr 1
  funext j
  unfold srcP
  rw [h.grp, h.conn]
 ·show rangeF (busP b q f) _ = rangeF (busP b p f) _
  congr 1
  funext j
  unfold busP
  rw [h.grp]
theorem SameT.ofS {q : Power} (h : SameT b p q) (hp : stt b p = 0) (hq : stt b q = 0) (k : Int) : (ofB b q k).1.Sources = (ofB b p k).1.Sources := by
 unfold ofB
 by_cases c : 0 ≤ k ∧ k < b.Buses
 ·rw [if_pos ⟨hq, c⟩, if_pos ⟨hp, c⟩]
  show (isleOf b q k).Sources = (isleOf b p k).Sources
  unfold isleOf
  rw [h.grp]
  exact (h.srcs _).1
 ·rw [if_neg fun x => c x.2, if_neg fun x => c x.2]
theorem SameT.liv {q : Power} (h : SameT b p q) (hp : stt b p = 0) (hq : stt b q = 0) (k : Int) : liv b q k = liv b p k := by
 unfold Rx.liv
 rw [h.ofS hp hq]
theorem SameT.trans {q r : Power} (h : SameT b p q) (h' : SameT b q r) : SameT b p r := ⟨by rw [h'.len, h.len], fun j hj => by rw [h'.st j (by rw [h.len]; exact hj), h.st j hj], fun k hk h3 => by rw [h'.cl k hk h3, h.cl k hk h3]⟩
end
theorem wpWorld {l : List Int} {a : Int} (hs : Sr l a) : Wp (dynposlaw18_world ⟨l, a⟩) fun r => ∃ (b : Board) (p : Power) (l : List Int) (a : Int), r = (b.Buses, b.Phase, b.Frequency, l, a, b.Breakers, b.Sources, b.Consumers, p.Closed, p.Sources, p.Limits, p.Broken) ∧ Gen b ∧ GenP b p ∧ Sr l a ∧ SmB b ∧ SmP p ∧ stt b p = 0 := by
 unfold dynposlaw18_world
 refine (wpBoard hs).bind fun r hr => ?_
 obtain ⟨nb, ph, fr, l1, a1, br, S, C⟩ := r
 obtain ⟨h1, hg⟩ := hr
 simp only at h1 hg ⊢
 refine (wpPower h1 hg).bind fun r hr => ?_
 obtain ⟨l2, a2, cl, run, lim, brkn, rfl, h2, hp⟩ := hr
 exact wp_some.2 ⟨⟨nb, br, S, C, ph, fr⟩, ⟨cl, run, lim, brkn⟩, l2, a2, rfl, hg, hp, h2, hg.sm, hp.sm hg, hp.stt hg⟩
theorem sane_T : dynposlaw18_sane = some true := by kernel_rfl
end Rx
namespace Rx
def prf (b : Board) (c : Int) : Int := (gt b.Consumers c.toNat).Preference
def ltP (b : Board) (x y : Int) : Bool := decide (prf b x < prf b y)
theorem ordc_eq {b : Board} {x y : Int} (hx : 0 ≤ x ∧ x < (b.Consumers.length : Int)) (hy : 0 ≤ y ∧ y < (b.Consumers.length : Int)) : ∃ c, shed_Order_1 x y b = some c ∧ decide (c < 0) = ltP b x y := by
 unfold shed_Order_1
 rw [idx_gtZ hx.1 hx.2, idx_gtZ hy.1 hy.2]
 simp only [Option.bind_some, compare_eq]
 refine ⟨_, rfl, ?_⟩
 unfold ltP prf
 by_cases h1 : (gt b.Consumers x.toNat).Preference < (gt b.Consumers y.toNat).Preference
 ·rw [if_pos h1, dT h1]; rfl
 ·rw [if_neg h1, dF h1]
  split <;> rfl
theorem inr_run {b : Board} {n : Nat} (hn : n = b.Consumers.length) (h1000 : n ≤ 1000) :
  ∀ (j : Nat) (d : List Int), j < n → Ok n (fun x => 0 ≤ x ∧ x < (n : Int)) d → (∃ k, k ≤ j ∧ Runs (slices_insertionSortCmpFunc_int_L2 0 b) k ((j : Int), d) (inner (ltP b) j d)) ∧ Ok n (fun x => 0 ≤ x ∧ x < (n : Int)) (inner (ltP b) j d)
 | 0, d, hj, h => by
  refine ⟨⟨0, Nat.le_refl _, .done ?_⟩, h⟩
  simp [slices_insertionSortCmpFunc_int_L2, inner]
 | j + 1, d, hj, h => by
  obtain ⟨c, hc, hl⟩ := ordc_eq (b := b) (by rw [← hn]; exact ok_getD h hj) (by rw [← hn]; exact ok_getD h (j := j) (by omega))
  have hlen := h.1
  have e1 : W (((j + 1 : Nat) : Int) - 1) = (j : Int) := by rw [W_sm (by omega) (by omega)]; omega
  have i1 : idx d ((j + 1 : Nat) : Int) = some (d.getD (j + 1) 0) := idx_getD (by omega)
  have i2 : idx d (j : Int) = some (d.getD j 0) := idx_getD (by omega)
  have s1 : setO d ((j + 1 : Nat) : Int) (d.getD j 0) = some (d.set (j + 1) (d.getD j 0)) := setO_nat (by omega) _
  have i3 : idx (d.set (j + 1) (d.getD j 0)) (j : Int) = some ((d.set (j + 1) (d.getD j 0)).getD j 0) := idx_getD (by simp; omega)
  have s2 : setO (d.set (j + 1) (d.getD j 0)) (j : Int) (d.getD (j + 1) 0) = some (swapAt d j) := setO_nat (by simp; omega) _
  have hpos : decide (((j + 1 : Nat) : Int) > 0) = true := decide_eq_true (by omega)
  cases hlt : ltP b (d.getD (j + 1) 0) (d.getD j 0) with
  | true =>
   obtain ⟨⟨k, hk, hr⟩, ho⟩ := inr_run hn h1000 j (swapAt d j) (by omega) (ok_swap h hj)
   rw [inner, if_pos hlt]
   refine ⟨⟨k + 1, by omega, .more ?_ hr⟩, ho⟩
   rw [hlt] at hl
   simp only [slices_insertionSortCmpFunc_int_L2, hpos, if_true, i1, e1, i2, Option.bind_some, hc, hl, s1, i3, s2]
  | false =>
   have hne : ¬ (ltP b (d.getD (j + 1) 0) (d.getD j 0) = true) := by rw [hlt]; simp
   rw [inner, if_neg hne]
   refine ⟨⟨0, by omega, .done ?_⟩, h⟩
   rw [hlt] at hl
   simp only [slices_insertionSortCmpFunc_int_L2, hpos, if_true, i1, e1, i2, Option.bind_some, hc, hl]
   rfl
theorem otr_run {b : Board} {n : Nat} (hn : n = b.Consumers.length) (h1000 : n ≤ 1000) :
  ∀ (m i : Nat) (d : List Int), m + i = n → Ok n (fun x => 0 ≤ x ∧ x < (n : Int)) d → Runs (slices_insertionSortCmpFunc_int_L1 0 (n : Int) b) m ((i : Int), d) (outer (ltP b) m i d) ∧ Ok n (fun x => 0 ≤ x ∧ x < (n : Int)) (outer (ltP b) m i d)
 | 0, i, d, hi, h => by
  refine ⟨.done ?_, h⟩
  have : decide ((i : Int) < (n : Int)) = false := decide_eq_false (by omega)
  simp only [slices_insertionSortCmpFunc_int_L1, outer, this, Bool.false_eq_true, if_false]
 | m + 1, i, d, hi, h => by
  obtain ⟨⟨k, hk, hr⟩, ho⟩ := inr_run hn h1000 i d (by omega) h
  obtain ⟨h1, h2⟩ := otr_run hn h1000 m (i + 1) (inner (ltP b) i d) (by omega) ho
  have hd : decide ((i : Int) < (n : Int)) = true := decide_eq_true (by omega)
  rw [outer]
  refine ⟨.more ?_ h1, h2⟩
  simp only [slices_insertionSortCmpFunc_int_L1, hd, if_true, loopO_of hr (by omega), Option.bind_some, W_succ (show i < 1000000000000000000 by omega)]
def ordL (b : Board) : List Int := outer (ltP b) (b.Consumers.length - 1) 1 (firsts b.Consumers.length)
theorem srt_run {b : Board} (hn : b.Consumers.length < 20) : slices_SortStableFunc_int_int (firsts b.Consumers.length) b = some (ordL b) := by
 have hl : len (firsts b.Consumers.length) = (b.Consumers.length : Int) := by unfold len; rw [firsts_len]
 have hs1 : ∀ d, slices_stableCmpFunc_int_L1 (b.Consumers.length : Int) b (0, 20, d) = some (.inr (0, d)) := fun d => by
  simp only [slices_stableCmpFunc_int_L1, dF (show ¬ (20 : Int) ≤ (b.Consumers.length : Int) by omega), Bool.false_eq_true, if_false]
 have hs2 : slices_stableCmpFunc_int_L2 (b.Consumers.length : Int) 20 = some (.inr ()) := by
  simp only [slices_stableCmpFunc_int_L2, dF (show ¬ (20 : Int) < (b.Consumers.length : Int) by omega), Bool.false_eq_true, if_false]
 have hw : W (0 + 1) = ((1 : Nat) : Int) := by rw [W_sm (by omega) (by omega)]; rfl
 have hin : loopO (slices_insertionSortCmpFunc_int_L1 0 (b.Consumers.length : Int) b) (((1 : Nat) : Int), firsts b.Consumers.length) = some (ordL b) := by
  by_cases h1 : 1 ≤ b.Consumers.length
  ·obtain ⟨h2, h3⟩ := otr_run (b := b) rfl (by omega) (b.Consumers.length - 1) 1 (firsts b.Consumers.length) (by omega) (firsts_ok _)
   exact loopO_of h2 (by omega)
  ·have h0 : b.Consumers.length = 0 := by omega
   have : ordL b = firsts b.Consumers.length := by unfold ordL; rw [h0]; rfl
   rw [this]
   refine loopO_of (.done ?_) (Nat.zero_le _)
   simp only [slices_insertionSortCmpFunc_int_L1, dF (show ¬ ((1 : Nat) : Int) < (b.Consumers.length : Int) by omega), Bool.false_eq_true, if_false]
 simp only [slices_SortStableFunc_int_int, slices_stableCmpFunc_int, hl, loopO_of (.done (hs1 _)) (Nat.zero_le _), Option.bind_some, slices_insertionSortCmpFunc_int, hw, hin, loopO_of (.done hs2) (Nat.zero_le _)]
theorem ordL_spec (b : Board) : (ordL b).Pairwise (fun x y => prf b x < prf b y ∨ prf b x = prf b y ∧ x < y) ∧ (ordL b).Perm (firsts b.Consumers.length) := by
 by_cases h1 : 1 ≤ b.Consumers.length
 case neg =>
  have h0 : b.Consumers.length = 0 := by omega
  have e : ordL b = [] := by unfold ordL; rw [h0]; rfl
  rw [e, h0]
  exact ⟨.nil, .refl _⟩
 have hlt : ∀ x y, ltP b x y = true ↔ (fun c => - prf b c) y < (fun c => - prf b c) x := fun x y => by
  unfold ltP
  rw [decide_eq_true_iff]
  simp only
  omega
 have e : ordL b = ((firsts b.Consumers.length).foldl (fun a x => insR (ltP b) x a) []).reverse := by
  unfold ordL
  obtain ⟨x, xs, hx⟩ : ∃ x xs, firsts b.Consumers.length = x :: xs := by
   cases hf : firsts b.Consumers.length with
   | nil => have := firsts_len b.Consumers.length; rw [hf] at this; simp at this; omega
   | cons x xs => exact ⟨x, xs, rfl⟩
  have hl : xs.length = b.Consumers.length - 1 := by
   have := firsts_len b.Consumers.length
   rw [hx] at this
   simp at this
   omega
  have := outer_eq (ltP b) xs [x]
  rw [hx, ← hl]
  exact this
 have h := fold_sorted hlt (firsts b.Consumers.length) [] (firsts_sorted _) (by simp) (by simp)
 rw [e]
 refine ⟨(List.pairwise_reverse.2 h.1).imp fun hb => ?_, (List.reverse_perm _).trans (by simpa using h.2)⟩
 unfold Behind at hb
 simp only at hb
 omega
theorem ord_mem {b : Board} {c : Int} : c ∈ ordL b ↔ 0 ≤ c ∧ c < (b.Consumers.length : Int) := by
 rw [(ordL_spec b).2.mem_iff]
 unfold firsts
 rw [List.mem_map]
 constructor
 ·rintro ⟨k, hk, rfl⟩
  have := List.mem_range.1 hk
  simp; omega
 ·rintro ⟨h0, h1⟩
  exact ⟨c.toNat, List.mem_range.2 (by omega), by simp; omega⟩
theorem ord_nodup (b : Board) : (ordL b).Nodup := by
 rw [(ordL_spec b).2.nodup_iff]
 exact (firsts_sorted _).imp fun h => by omega
theorem ord_len (b : Board) : (ordL b).length = b.Consumers.length := by rw [(ordL_spec b).2.length_eq, firsts_len]
theorem order_eq {b : Board} (hb : SmB b) (h : chk b = 0) : shed_Order b = some (ordL b) := by
 have hl := (chk_zero.1 h).1.con
 unfold shed_Order
 rw [check_eq hb, h]
 simp only [Option.bind_some, bne_self_eq_false, Bool.false_eq_true, if_false]
 have e : loopO (shed_Order_L1 b) (0, []) = some (firsts b.Consumers.length) := by
  have := loop_run (step := shed_Order_L1 b) (r := firsts b.Consumers.length) (fun k => ((k : Int), firsts k)) b.Consumers.length (fun k hk => by
   unfold shed_Order_L1
   rw [dT (c := (k : Int) < len b.Consumers) (by unfold len; omega), app_sm (by simp [firsts_len]; omega), W_succ (by omega)]
   simp only [if_true, Option.bind_some]
   unfold firsts
   rw [List.range_succ, List.map_append]
   rfl) (by
   unfold shed_Order_L1
   simp only [nlt_len, Bool.false_eq_true, if_false]) (by omega)
  simpa [firsts] using this
 rw [e]
 simp only [Option.bind_some, srt_run (b := b) (by omega)]
theorem order_bad {b : Board} (hb : SmB b) (h : chk b ≠ 0) : shed_Order b = some [] := by
 unfold shed_Order
 have : (chk b != 0) = true := by simpa using h
 rw [check_eq hb]
 simp only [Option.bind_some, this, if_true]
def ownL (b : Board) (x : Island) : List Int := (ordL b).filter fun c => decide (c ∈ x.Consumers)
theorem own_mem {b : Board} {x : Island} (hx : ∀ c ∈ x.Consumers, 0 ≤ c ∧ c < (b.Consumers.length : Int)) {c : Int} : c ∈ ownL b x ↔ c ∈ x.Consumers := by
 unfold ownL
 rw [List.mem_filter, ord_mem, decide_eq_true_iff]
 exact ⟨fun h => h.2, fun h => ⟨hx c h, h⟩⟩
theorem own_nodup (b : Board) (x : Island) : (ownL b x).Nodup := (ord_nodup b).sublist List.filter_sublist
theorem own_len (b : Board) (x : Island) : (ownL b x).length ≤ b.Consumers.length := by
 have := List.length_filter_le (fun c => decide (c ∈ x.Consumers)) (ordL b)
 rw [ord_len] at this
 exact this
theorem keep_eq {x : Island} {c : Int} (hx : Sm x.Consumers) : shed_relief__shed_1 c x = some (!decide (c ∈ x.Consumers)) := by
 unfold shed_relief__shed_1
 rw [contains_eq hx]
 rfl
theorem take_set_snoc {l : List Int} {i : Nat} {x : Int} (h : i < l.length) : (l.set i x).take (i + 1) = l.take i ++ [x] := by
 rw [take_gt (by simpa using h), gt_set h, if_pos rfl]
 congr 1
 refine ext_gt (by simp) fun k hk => ?_
 have hk' : k < i := by simp at hk; omega
 rw [gt_get (by simp; omega), gt_get (by simp; omega)]
 simp [List.getElem_set]
 omega
theorem delete_own {x : Island} (hx : Sm x.Consumers) {l : List Int} (hl : l.length ≤ 1000) : slices_DeleteFunc_int_int l x = some (l.filter fun c => decide (c ∈ x.Consumers)) := by
 unfold slices_DeleteFunc_int_int slices_IndexFunc_int_int_flat
 have h1 := loop_find (step := slices_IndexFunc_int_int_flat_L1 l x) (fun k => (k : Int)) l.length (fun k => !decide (gt l k ∈ x.Consumers)) (R := fun k => .inr (k : Int)) (e := .inl ()) (fun k hk hp => by
  unfold slices_IndexFunc_int_int_flat_L1
  simp only [lt_len hk, if_true, idx_gt hk, Option.bind_some, keep_eq hx, hp, Bool.false_eq_true, if_false]
  rw [W_succ (by omega)]) (fun k hk hp => by
  unfold slices_IndexFunc_int_int_flat_L1
  simp only [lt_len hk, if_true, idx_gt hk, Option.bind_some, keep_eq hx, hp]) (by
  unfold slices_IndexFunc_int_int_flat_L1
  simp only [nlt_len, Bool.false_eq_true, if_false]) (by omega)
 simp only [show ((0 : Nat) : Int) = 0 from rfl] at h1
 rw [h1]
 cases hf : (List.range l.length).find? (fun k => !decide (gt l k ∈ x.Consumers)) with
 | none =>
  have hall : ∀ c ∈ l, decide (c ∈ x.Consumers) = true := fun c hc => by
   obtain ⟨k, hk, rfl⟩ := mem_gt hc
   have := List.find?_eq_none.1 hf k (List.mem_range.2 hk)
   simpa using this
  simp only [Option.bind_some, Sum.elim_inl]
  rw [List.filter_eq_self.2 hall]
  rfl
 | some s =>
  have hs := List.mem_range.1 (List.mem_of_find?_eq_some hf)
  simp only [Option.bind_some, Sum.elim_inr]
  rw [beqF (by omega), W_succ (by omega)]
  simp only [Bool.false_eq_true, if_false]
  have hpre : ∀ k, k < s → decide (gt l k ∈ x.Consumers) = true := fun k hk => by
   obtain ⟨_, as1, bs, h2, h3⟩ := List.find?_eq_some_iff_append.1 hf
   have hln : as1.length = s := by
    have h4 : (List.range l.length)[as1.length]? = some s := by rw [h2]; simp
    rw [List.getElem?_range (by
     have := congrArg List.length h2
     simp at this
     omega)] at h4
    exact Option.some.inj h4
   have hmem : k ∈ as1 := by
    have h4 : (List.range l.length)[k]? = some k := List.getElem?_range (by omega)
    rw [h2, List.getElem?_append_left (by omega)] at h4
    exact List.mem_of_getElem? h4
   have := h3 k hmem
   simpa using this
  have hs0 : decide (gt l s ∈ x.Consumers) = false := by
   have := (List.find?_eq_some_iff_append.1 hf).1
   simpa using this
  have hloop : Wp (loopO (slices_DeleteFunc_int_int_L1 x) ((s : Int), ((s + 1 : Nat) : Int), l)) fun r => ∃ n : Nat, r.1 = (n : Int) ∧ n ≤ r.2.length ∧ r.2.length = l.length ∧ r.2.take n = l.filter fun c => decide (c ∈ x.Consumers) := by
   refine wp_upto (l.length - (s + 1)) (fun t st => ∃ n : Nat, st.1 = (n : Int) ∧ st.2.1 = ((s + 1 + t : Nat) : Int) ∧ n < s + 1 + t ∧ st.2.2.length = l.length ∧ st.2.2.take n = (l.take (s + 1 + t)).filter (fun c => decide (c ∈ x.Consumers)) ∧ ∀ k, s + 1 + t ≤ k → k < l.length → gt st.2.2 k = gt l k) ⟨s, rfl, rfl, by omega, rfl, ?_, fun _ _ _ => rfl⟩ (fun t st ht hv => ?_) (fun st hv => ?_) (by omega)
   ·simp only [Nat.add_zero]
    rw [take_gt hs, List.filter_append]
    have : (l.take s).filter (fun c => decide (c ∈ x.Consumers)) = l.take s := List.filter_eq_self.2 fun c hc => by
     obtain ⟨k, hk, rfl⟩ := mem_gt hc
     rw [List.length_take] at hk
     have : gt (l.take s) k = gt l k := by
      rw [gt_get (by rw [List.length_take]; exact hk), gt_get (by omega)]; simp
     rw [this]
     exact hpre k (by omega)
    rw [this]
    simp [hs0]
   ·obtain ⟨m, z, c⟩ := st
    obtain ⟨n, rfl, rfl, hn, hlc, htk, hrest⟩ := hv
    simp only at hlc htk hrest
    have hk : s + 1 + t < l.length := by omega
    have hgk := hrest (s + 1 + t) (Nat.le_refl _) hk
    unfold slices_DeleteFunc_int_int_L1
    simp only [lt_len (l := c) (k := s + 1 + t) (by omega), if_true, idx_gt (l := c) (k := s + 1 + t) (by omega), hgk, Option.bind_some, keep_eq hx, Bool.not_not]
    rw [W_succ (k := s + 1 + t) (by omega)]
    cases hp : decide (gt l (s + 1 + t) ∈ x.Consumers) with
    | true =>
     simp only [if_true, idx_gt (l := c) (k := n) (by omega), Option.bind_some, setO_nat (xs := c) (j := n) (by omega)]
     rw [W_succ (by omega)]
     refine wp_some.2 ⟨n + 1, rfl, rfl, by omega, by simp [hlc], ?_, fun k h1 h2 => ?_⟩
     ·simp only
      rw [take_set_snoc (by omega), htk, show s + 1 + (t + 1) = (s + 1 + t) + 1 by omega, take_gt hk, List.filter_append]
      simp [hp]
     ·simp only
      rw [gt_set (by omega), if_neg (by omega)]
      exact hrest k (by omega) h2
    | false =>
     simp only [Bool.false_eq_true, if_false, Option.bind_some]
     refine wp_some.2 ⟨n, rfl, rfl, by omega, hlc, ?_, fun k h1 h2 => hrest k (by omega) h2⟩
     simp only
     rw [htk, show s + 1 + (t + 1) = (s + 1 + t) + 1 by omega, take_gt hk, List.filter_append]
     simp [hp]
   ·obtain ⟨m, z, c⟩ := st
    obtain ⟨n, rfl, rfl, hn, hlc, htk, hrest⟩ := hv
    simp only at hlc htk
    unfold slices_DeleteFunc_int_int_L1
    rw [show s + 1 + (l.length - (s + 1)) = c.length by omega]
    simp only [nlt_len, Bool.false_eq_true, if_false]
    refine wp_some.2 ⟨n, rfl, (by show n ≤ c.length; omega), hlc, ?_⟩
    simp only
    rw [htk, show s + 1 + (l.length - (s + 1)) = l.length by omega, List.take_length]
  obtain ⟨⟨m, c⟩, e, n, rfl, hn, hlc, htk⟩ := hloop
  simp only at hn hlc htk
  rw [e]
  have e1 : slc c (n : Int) (len c) = some (c.drop n) := slc_drop hn
  have hcl : (clrT 0 c (n : Int)).length = c.length := by unfold clrT; simp; omega
  have e2 : slc (clrT 0 c (n : Int)) 0 (n : Int) = some ((clrT 0 c (n : Int)).take n) := slc_take (by omega)
  have e3 : (clrT 0 c (n : Int)).take n = c.take n := by
   unfold clrT
   rw [List.take_append_of_le_length (by simp; omega), List.take_take, Int.toNat_natCast, Nat.min_self]
  simp only [Option.bind_some, e1, e2, e3, htk]
end Rx
end Go.Proofs.YtfnphdhcgkondaaGreat
