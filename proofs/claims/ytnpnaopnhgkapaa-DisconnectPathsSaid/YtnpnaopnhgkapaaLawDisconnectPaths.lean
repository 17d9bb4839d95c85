/- DisconnectPaths: for every list of numbers the statement answers true: the path proves the length, and no chain of needs is longer. No condition. -/
import Derived.Test.YtnpnaopnhgkapaaD5
set_option linter.unusedVariables false
set_option linter.unusedSimpArgs false
namespace Go.Proofs.Ytnpnaopnhgkapaa
open Go Go.RowKit Dp
namespace Rx

/-- a chain of needs, from its first stage on -/
def chn (xs : List Stage) : List Int → Prop
  | [] => True
  | [a] => 0 ≤ a ∧ a < (xs.length : Int)
  | a :: b :: t => (0 ≤ a ∧ a < (xs.length : Int)) ∧ a ∈ (gt xs b.toNat).Needs ∧ chn xs (b :: t)
/-- its time -/
def tsum (xs : List Stage) : List Int → Int
  | [] => 0
  | a :: t => (gt xs a.toNat).Ticks + tsum xs t
theorem tsum_snoc (xs : List Stage) (l : List Int) (a : Int) : tsum xs (l ++ [a]) = tsum xs l + (gt xs a.toNat).Ticks := by
  induction l with
  | nil => simp [tsum]
  | cons b l ih => simp only [List.cons_append, tsum, ih]; omega
theorem chn_ix {xs : List Stage} : ∀ {l : List Int}, chn xs l → ∀ k, k < l.length → (0 ≤ gt l k ∧ gt l k < (xs.length : Int)) ∧ (0 < k → gt l (k - 1) ∈ (gt xs (gt l k).toNat).Needs) := by
  intro l
  induction l with
  | nil => intro _ k hk; simp at hk
  | cons a t ih =>
    intro h k hk
    cases t with
    | nil =>
      have : k = 0 := by simp at hk; omega
      subst this
      exact ⟨h, fun h0 => by omega⟩
    | cons b t =>
      obtain ⟨h1, h2, h3⟩ := h
      cases k with
      | zero => exact ⟨h1, fun h0 => by omega⟩
      | succ k =>
        have e : ∀ j, gt (a :: b :: t) (j + 1) = gt (b :: t) j := fun j => by simp [gt]
        have := ih h3 k (by simpa using hk)
        rw [e]
        refine ⟨this.1, fun _ => ?_⟩
        cases k with
        | zero => exact h2
        | succ k =>
          rw [show k + 1 + 1 - 1 = k + 1 by omega, e]
          exact this.2 (by omega)
/-- a path that proves a length -/
structure GP (xs : List Stage) (L : Int) (l : List Int) : Prop where
  ne : 0 < l.length
  ln : l.length ≤ 12
  st : (gt xs (gt l 0).toNat).Needs = []
  ch : chn xs l
  sm : tsum xs l = L
/-- ends of a sequence that has just begun -/
theorem es_new {xs : List Stage} (hs : VS xs) {es : List Int} (he : EN xs (new0 xs 0) 0 es) {i : Nat} (hi : i < xs.length) : gt es i = mx (gt xs i).Needs es + (gt xs i).Ticks := by
  rw [he.eq i hi]
  rcases new0_gt (T := 0) hi with ⟨a, b⟩ | ⟨a, b⟩ <;> rw [b]
  · rw [ef1 rfl, a]
    simp [mx]
  · rw [ef0 rfl]
theorem es_pos {xs : List Stage} (hs : VS xs) {es : List Int} (he : EN xs (new0 xs 0) 0 es) {i : Nat} (hi : i < xs.length) : 1 ≤ gt es i ∧ gt es i ≤ 120000 := by
  rw [es_new hs he hi]
  have a := mx_nn (gt xs i).Needs es
  have b := hs.tk i hi
  refine ⟨by omega, ?_⟩
  rw [← es_new hs he hi]
  have c := en_bd (K := 600) he (by omega) (by omega) hs.nd (fun i hi => (hs.tk i hi).2) (fun i hi h1 => by
    have tk := hs.tk i hi
    rcases new0_gt (T := 0) hi with ⟨_, c⟩ | ⟨_, c⟩ <;> rw [c] at h1 ⊢
    · simp only; omega
    · simp at h1) i hi
  have := hs.n2
  omega
theorem cmp_wp (a b : Int) : Wp (cmp_Compare_int a b) fun _ => True := by
  unfold cmp_Compare_int cmp_isNaN_int
  simp only [Option.bind_some]
  refine Wp.ite (fun _ => Wp.ite (fun _ => wp_some.2 trivial) fun _ => wp_some.2 trivial) fun _ => Wp.ite (fun _ => wp_some.2 trivial) fun _ => Wp.ite (fun _ => wp_some.2 trivial) fun _ => Wp.ite (fun _ => wp_some.2 trivial) fun _ => wp_some.2 trivial
theorem compare_wp (a b : List Int) (ha : a.length ≤ 1000) : Wp (slices_Compare_int_int a b) fun _ => True := by
  unfold slices_Compare_int_int
  have : Wp (loopO (slices_Compare_int_int_L1 a b) 0) fun _ => True := by
    refine wp_upto a.length (fun k s => s = (k : Int)) rfl (fun k s hk hv => ?_) (fun s hv => ?_) (by omega)
    · subst hv
      unfold slices_Compare_int_int_L1
      simp only [lt_len hk, if_true, idx_gt hk, Option.bind_some]
      refine Wp.ite (fun _ => wp_some.2 trivial) fun h => ?_
      have hb := of_decide_eq_false h
      unfold len at hb
      rw [idx_gt (l := b) (k := k) (by omega)]
      simp only [Option.bind_some]
      refine (cmp_wp _ _).bind fun r _ => Wp.ite (fun _ => wp_some.2 trivial) fun _ => wp_some.2 ?_
      exact W_succ (by omega)
    · subst hv
      unfold slices_Compare_int_int_L1
      simp only [nlt_len, Bool.false_eq_true, if_false]
      exact wp_some.2 trivial
  refine this.bind fun r _ => ?_
  cases r with
  | inl _ => exact Wp.ite (fun _ => wp_some.2 trivial) fun _ => wp_some.2 trivial
  | inr x => exact wp_some.2 trivial
/-- what the search keeps -/
def Bk (xs : List Stage) (L : Int) (b : List Int) (f : Bool) : Prop := f = false → GP xs L b
theorem back_wp {xs : List Stage} (hs : VS xs) {es : List Int} (he : EN xs (new0 xs 0) 0 es) (L : Int) : ∀ (n : Nat) (i : Nat) (p b : List Int) (f : Bool), i < n → i < xs.length → p.length + i < xs.length → chn xs ((i : Int) :: p) → gt es i + tsum xs p = L → Bk xs L b f →
    Wp (disconnect_Path_1_v1_R n (i : Int) p es xs b f) fun r => r.1 = p ∧ r.2.1 = es ∧ r.2.2.1 = xs ∧ GP xs L r.2.2.2.1 ∧ r.2.2.2.2 = false := by
  have n2 := hs.n2
  have hel := he.ln
  intro n
  induction n with
  | zero => intro i _ _ _ h; omega
  | succ n ih =>
    intro i p b f hin hi hp hch hsum hb
    have tk := hs.tk i hi
    have ep := es_pos hs he hi
    have hnew := es_new hs he hi
    show Wp (disconnect_Path_1_v1_S (disconnect_Path_1_v1_R n) (i : Int) p es xs b f) _
    unfold disconnect_Path_1_v1_S slices_Clone_int_int slices_Insert_int_int
    rw [app_nl (ys := p) (by omega)]
    have hins : insO p 0 [(i : Int)] = some ((i : Int) :: p) := by
      unfold insO
      rw [app_sm (by simp; omega)]
      rw [show (decide ((0 : Int) ≤ 0) && decide ((0 : Int) ≤ len p) && !([(i : Int)] : List Int).isEmpty) = true by
        rw [dT (c := (0 : Int) ≤ len p) (by unfold len; omega)]; rfl]
      simp
    simp only [Option.bind_some, hins, idx_gt (l := es) (k := i) (by omega), idx_gt (l := xs) (k := i) hi]
    rw [W_sm (x := gt es i - (gt xs i).Ticks) (by omega) (by omega)]
    by_cases hz : gt es i - (gt xs i).Ticks = 0
    · rw [beqT hz]
      simp only [if_true]
      have hnil : (gt xs i).Needs = [] := by
        cases hn : (gt xs i).Needs with
        | nil => rfl
        | cons y ys =>
          have h0 : 0 < (gt xs i).Needs.length := by rw [hn]; simp
          have a := mx_le (es := es) h0
          have b := (es_pos hs he (i := (gt (gt xs i).Needs 0).toNat) (by have := nd_lt hs hi h0; omega)).1
          omega
      have hgp : GP xs L ((i : Int) :: p) := ⟨by simp, by simp; omega, by simpa [gt] using hnil, hch, by simp only [tsum, Int.toNat_natCast]; omega⟩
      refine Wp.bind (Q := fun x => x = false → f = false) ?_ fun x hx => ?_
      · refine Wp.ite (fun _ => wp_some.2 fun h => by cases h) fun hf => ?_
        refine (compare_wp _ _ (by simp; omega)).bind fun r _ => wp_some.2 fun _ => hf
      · cases x with
        | true =>
          simp only [if_true]
          refine wp_some.2 ⟨rfl, rfl, rfl, hgp, rfl⟩
        | false =>
          simp only [Bool.false_eq_true, if_false, Option.bind_some]
          exact wp_some.2 ⟨rfl, rfl, rfl, hb (hx rfl), hx rfl⟩
    · rw [beqF hz]
      simp only [Bool.false_eq_true, if_false]
      have hM : ∃ j, j < (gt xs i).Needs.length ∧ gt es (gt (gt xs i).Needs j).toNat = gt es i - (gt xs i).Ticks := by
        rcases mx_at (gt xs i).Needs es with e | ⟨j, hj, e⟩
        · omega
        · exact ⟨j, hj, by omega⟩
      have hloop : Wp (loopO (disconnect_Path_1_v1_L1 (disconnect_Path_1_v1_R n) (gt es i) (gt xs i) (gt xs i)) (0, es, xs, b, f, (i : Int) :: p)) fun r => r.1 = es ∧ r.2.1 = xs ∧ GP xs L r.2.2.1 ∧ r.2.2.2.1 = false := by
        refine wp_upto (gt xs i).Needs.length (fun k s => s.1 = (k : Int) ∧ s.2.1 = es ∧ s.2.2.1 = xs ∧ s.2.2.2.2.2 = (i : Int) :: p ∧ Bk xs L s.2.2.2.1 s.2.2.2.2.1 ∧ ((∃ j, j < k ∧ gt es (gt (gt xs i).Needs j).toNat = gt es i - (gt xs i).Ticks) → s.2.2.2.2.1 = false)) ⟨rfl, rfl, rfl, rfl, hb, fun ⟨j, hj, _⟩ => by omega⟩ (fun k s hk hv => ?_) (fun s hv => ?_) (by have := hs.nlen hi; omega)
        · obtain ⟨z, es', xs', b', f', p'⟩ := s
          simp only at hv
          obtain ⟨rfl, rfl, rfl, rfl, h1, h2⟩ := hv
          have nd := hs.nd i hi k hk
          have nl := hs.nlen hi
          unfold disconnect_Path_1_v1_L1
          rw [W_sm (x := gt es' i - (gt xs' i).Ticks) (by omega) (by omega), W_succ (by omega)]
          simp only [lt_len hk, if_true, idx_gt hk, Option.bind_some, idx_gtZ (l := es') (j := gt (gt xs' i).Needs k) nd.1 (by omega)]
          by_cases hq : gt es' (gt (gt xs' i).Needs k).toNat = gt es' i - (gt xs' i).Ticks
          · rw [beqT hq]
            simp only [if_true]
            have hj : ((gt (gt xs' i).Needs k).toNat : Int) = gt (gt xs' i).Needs k := by omega
            have := ih (gt (gt xs' i).Needs k).toNat ((i : Int) :: p) b' f' (by omega) (by omega) (by simp; omega) ⟨by omega, by rw [hj, Int.toNat_natCast]; exact gt_mem hk, hch⟩ (by simp only [tsum, Int.toNat_natCast]; omega) h1
            rw [hj] at this
            rw [Option.bind_assoc]
            refine this.bind fun r hr => ?_
            obtain ⟨r1, r2, r3, r4, r5⟩ := r
            simp only at hr
            obtain ⟨rfl, rfl, rfl, g1, rfl⟩ := hr
            exact wp_some.2 ⟨rfl, rfl, rfl, rfl, fun _ => g1, fun _ => rfl⟩
          · rw [beqF hq]
            simp only [Bool.false_eq_true, if_false, Option.bind_some]
            refine wp_some.2 ⟨rfl, rfl, rfl, rfl, h1, fun ⟨j, hj, e⟩ => h2 ⟨j, ?_, e⟩⟩
            by_cases hjk : j = k
            · subst hjk; exact (hq e).elim
            · omega
        · obtain ⟨z, es', xs', b', f', p'⟩ := s
          simp only at hv
          obtain ⟨rfl, rfl, rfl, rfl, h1, h2⟩ := hv
          unfold disconnect_Path_1_v1_L1
          simp only [nlt_len, Bool.false_eq_true, if_false]
          obtain ⟨j, hj, e⟩ := hM
          have := h2 ⟨j, hj, e⟩
          exact wp_some.2 ⟨rfl, rfl, h1 this, this⟩
      refine hloop.bind fun r hr => ?_
      obtain ⟨r1, r2, r3, r4, r5⟩ := r
      simp only at hr
      obtain ⟨rfl, rfl, g1, rfl⟩ := hr
      exact wp_some.2 ⟨rfl, rfl, rfl, g1, rfl⟩
theorem path_wp {xs : List Stage} (hs : VS xs) (hc : disconnect_Check xs = some 0) : Wp (disconnect_Path xs) fun l => ∃ es L, EN xs (new0 xs 0) 0 es ∧ Top es L ∧ disconnect_Length xs = some L ∧ GP xs L l := by
  have n1 := hs.n1
  have n2 := hs.n2
  obtain ⟨es, hE, he⟩ := ends_eq (EH.of hs (VP_new hs (T := 0) (by omega) (by omega)))
  have hel := he.ln
  obtain ⟨L, hM, htop⟩ := max_eq (es := es) (by omega) (by omega)
  have hlen : disconnect_Length xs = some L := by
    unfold disconnect_Length
    simp only [new_eq hs hc (T := 0) (by omega) (by omega), Option.bind_some, show ((0 : Int) != 0) = false from rfl, Bool.false_eq_true, if_false, hE, hM]
  unfold disconnect_Path
  simp only [new_eq hs hc (T := 0) (by omega) (by omega), Option.bind_some, show ((0 : Int) != 0) = false from rfl, Bool.false_eq_true, if_false, hE, hM]
  have hloop : Wp (loopO (disconnect_Path_L1 es L) (0, xs, es, [], true)) fun r => GP xs L r.2.2.1 := by
    refine wp_upto es.length (fun k s => s.1 = (k : Int) ∧ s.2.1 = xs ∧ s.2.2.1 = es ∧ Bk xs L s.2.2.2.1 s.2.2.2.2 ∧ ((∃ j, j < k ∧ gt es j = L) → s.2.2.2.2 = false)) ⟨rfl, rfl, rfl, (show Bk xs L [] true from fun h => Bool.noConfusion h), fun ⟨j, hj, _⟩ => by omega⟩ (fun k s hk hv => ?_) (fun s hv => ?_) (by omega)
    · obtain ⟨z, xs', es', b', f'⟩ := s
      simp only at hv
      obtain ⟨rfl, rfl, rfl, h1, h2⟩ := hv
      unfold disconnect_Path_L1
      rw [W_succ (by omega)]
      simp only [lt_len hk, if_true, idx_gt hk, Option.bind_some]
      by_cases hq : gt es' k = L
      · rw [beqT hq]
        simp only [if_true]
        have := back_wp hs he L 64 k [] b' f' (by omega) (by omega) (by simp; omega) ⟨by omega, by omega⟩ (by simp only [tsum]; omega) h1
        rw [Option.bind_assoc]
        unfold disconnect_Path_1_v1
        refine this.bind fun r hr => ?_
        obtain ⟨r1, r2, r3, r4, r5⟩ := r
        simp only at hr
        obtain ⟨rfl, rfl, rfl, g1, rfl⟩ := hr
        exact wp_some.2 ⟨rfl, rfl, rfl, fun _ => g1, fun _ => rfl⟩
      · rw [beqF hq]
        simp only [Bool.false_eq_true, if_false, Option.bind_some]
        refine wp_some.2 ⟨rfl, rfl, rfl, h1, fun ⟨j, hj, e⟩ => h2 ⟨j, ?_, e⟩⟩
        by_cases hjk : j = k
        · subst hjk; exact (hq e).elim
        · omega
    · obtain ⟨z, xs', es', b', f'⟩ := s
      simp only at hv
      obtain ⟨rfl, rfl, rfl, h1, h2⟩ := hv
      unfold disconnect_Path_L1
      simp only [nlt_len, Bool.false_eq_true, if_false]
      obtain ⟨_, j, hj, e⟩ := htop
      exact wp_some.2 (h1 (h2 ⟨j, hj, e⟩))
  refine hloop.bind fun r hr => wp_some.2 ⟨es, L, he, htop, hlen, hr⟩
theorem proves_eq {xs : List Stage} (hs : VS xs) (hc : disconnect_Check xs = some 0) {L : Int} (hL : disconnect_Length xs = some L) {l : List Int} (hg : GP xs L l) : disconnect_Proves xs l = some true := by
  have n2 := hs.n2
  have ne := hg.ne
  have hln := hg.ln
  unfold disconnect_Proves
  simp only [hc, Option.bind_some, show ((0 : Int) != 0) = false from rfl, Bool.false_eq_true, if_false]
  rw [beqF (a := len l) (by unfold len; omega)]
  simp only [Bool.false_eq_true, if_false]
  have bd : ∀ m : List Int, (∀ x ∈ m, 0 ≤ x ∧ x < (xs.length : Int)) → 0 ≤ tsum xs m ∧ tsum xs m ≤ 600 * m.length := fun m => by
    induction m with
    | nil => intro _; simp [tsum]
    | cons a m ih =>
      intro h
      have a1 := h a (by simp)
      have a2 := ih fun x hx => h x (by simp [hx])
      have a3 := hs.tk a.toNat (by omega)
      simp only [tsum, List.length_cons]
      omega
  have hmem : ∀ x ∈ l, 0 ≤ x ∧ x < (xs.length : Int) := fun x hx => by
    obtain ⟨j, hj, rfl⟩ := mem_gt hx
    exact (chn_ix hg.ch j hj).1
  have e : loopO (disconnect_Proves_L1 xs l) (0, 0) = some (.inl (tsum xs l)) := by
    have := loop_run (step := disconnect_Proves_L1 xs l) (r := Sum.inl (tsum xs l)) (fun k => (tsum xs (l.take k), (k : Int))) l.length (fun k hk => by
      obtain ⟨c1, c2⟩ := chn_ix hg.ch k hk
      have hb := bd (l.take (k + 1)) fun x hx => hmem x (List.mem_of_mem_take hx)
      have hb0 := bd (l.take k) fun x hx => hmem x (List.mem_of_mem_take hx)
      have hts : tsum xs (l.take (k + 1)) = tsum xs (l.take k) + (gt xs (gt l k).toNat).Ticks := by rw [take_gt hk, tsum_snoc]
      have hl1 : (l.take (k + 1)).length ≤ 12 := by simp; omega
      unfold disconnect_Proves_L1
      simp only [lt_len hk, if_true, idx_gt hk, Option.bind_some, dF (c := gt l k < 0) (by omega), dF (c := gt l k ≥ len xs) (by unfold len; omega), Bool.false_eq_true, if_false, idx_gtZ (l := xs) (j := gt l k) c1.1 c1.2]
      rw [W_succ (by omega), W_sm (x := tsum xs (l.take k) + (gt xs (gt l k).toNat).Ticks) (by omega) (by omega), hts]
      by_cases h0 : k = 0
      · subst h0
        rw [hg.st]
        simp [len]
      · have h0' : 0 < k := by omega
        have c3 := c2 h0'
        have nl := hs.nlen (i := (gt l k).toNat) (by omega)
        rw [beqF (a := (k : Int)) (by omega), dT (c := (k : Int) > 0) (by omega), W_pred (by omega) h0']
        simp only [Bool.false_eq_true, if_false, if_true, idx_gt (l := l) (k := k - 1) (by omega), Option.bind_some, cont_eq _ _ (show (gt xs (gt l k).toNat).Needs.length ≤ 1000000000 by omega), dB_T c3, Bool.not_true]) (by
      unfold disconnect_Proves_L1
      simp only [nlt_len, Bool.false_eq_true, if_false, List.take_length]) (by omega)
    simpa [tsum] using this
  rw [e]
  simp only [Option.bind_some, Sum.elim_inl, hL, hg.sm]
  simp
theorem len_le {xs : List Stage} (hs : VS xs) {es es' : List Int} (he : EN xs (new0 xs 0) 0 es) (he' : EN (lng xs) (new0 xs 0) 0 es') : ∀ i, i < xs.length → gt es i ≤ gt es' i := by
  intro i
  induction i using Nat.strongRecOn with
  | _ i ih =>
    intro hi
    have tk := hs.tk i hi
    have tr := hs.tr i hi
    have b : (gt xs i).Ticks * 1 ≤ (gt xs i).Ticks * (gt xs i).Tries := Int.mul_le_mul_of_nonneg_left tr.1 (by omega)
    rw [he.eq i hi, he'.eq i (by rw [lng_len]; exact hi), lng_gt hi]
    rcases new0_gt (T := 0) hi with ⟨a, c⟩ | ⟨a, c⟩ <;> rw [c]
    · rw [ef1 rfl, ef1 rfl]
      simp only [lngS]
      omega
    · rw [ef0 rfl, ef0 rfl]
      simp only [lngS]
      have : mx (gt xs i).Needs es ≤ mx (gt xs i).Needs es' := by
        rcases mx_at (gt xs i).Needs es with e | ⟨j, hj, e⟩
        · rw [e]; exact mx_nn _ _
        · have hlt := nd_lt hs hi hj
          have a := ih _ hlt (by omega)
          have b := mx_le (es := es') hj
          omega
      omega
theorem law_DisconnectPaths (t : List Int) : dynposlaw31_DisconnectPaths t = some true := by
  unfold dynposlaw31_DisconnectPaths
  by_cases hlen : len t > 600
  · rw [if_pos (dT hlen)]
    simp only [sane_T, Option.bind_some]
  · rw [if_neg (by rw [dF hlen]; simp)]
    refine wp_eq.1 ((wpNew t).bind fun r hr => ?_)
    refine (wpSequence hr).bind fun x hx => ?_
    obtain ⟨sl, sa, xs⟩ := x
    simp only at hx
    obtain ⟨hsr, k, k1, k2, hq⟩ := hx
    obtain ⟨hs, hc⟩ := hq.vs k1 k2
    have n1 := hs.n1
    have n2 := hs.n2
    refine (path_wp hs hc).bind fun l hl => ?_
    obtain ⟨es, L, he, htop, hL, hg⟩ := hl
    have hel := he.ln
    obtain ⟨M, hMe, es', he', htop'⟩ := longest_eq hs hc
    simp only [proves_eq hs hc hL hg, Option.bind_some, Bool.not_true, Bool.false_eq_true, if_false, hL, hMe]
    refine (wpN hsr (n := len xs) (by unfold len; omega) (by unfold len; omega)).bind fun y hy => ?_
    obtain ⟨y, l1, a1⟩ := y
    simp only at hy ⊢
    unfold len at hy
    have hLb : L ≤ 120000 := by
      obtain ⟨_, i, hi, rfl⟩ := htop
      exact (es_pos hs he (i := i) (by omega)).2
    have hloop : Wp (loopO (dynposlaw31_DisconnectPaths_L1 (sl, sa, xs)) (y, 0, l1, a1)) fun r => r.1 ≤ L := by
      refine wp_while (fun s => s.1.toNat) (fun s => 0 ≤ s.1 ∧ s.1 < (xs.length : Int) ∧ 0 ≤ s.2.1 ∧ s.2.1 + gt es s.1.toNat ≤ L ∧ Sr s.2.2.1 s.2.2.2) (fun s hi => ?_) ⟨hy.1.1, hy.1.2, by simp, by
        have := htop.1 y.toNat (by omega)
        simp only
        omega, hy.2⟩ (by simp only; omega)
      obtain ⟨q, sm, l2, a2⟩ := s
      simp only at hi
      obtain ⟨q0, q1, s0, s1, h1⟩ := hi
      have ep := es_pos hs he (i := q.toNat) (by omega)
      have en := es_new hs he (i := q.toNat) (by omega)
      have tk := hs.tk q.toNat (by omega)
      have nl := hs.nlen (i := q.toNat) (by omega)
      unfold dynposlaw31_DisconnectPaths_L1
      have m0 := mx_nn (gt xs q.toNat).Needs es
      simp only [idx_gtZ (l := xs) (j := q) q0 q1, Option.bind_some]
      rw [W_sm (x := sm + (gt xs q.toNat).Ticks) (by omega) (by omega)]
      by_cases hn : (gt xs q.toNat).Needs.length = 0
      · rw [beqT (a := len (gt xs q.toNat).Needs) (by unfold len; omega)]
        simp only [if_true]
        exact wp_some.2 (by simp only; omega)
      · rw [beqF (a := len (gt xs q.toNat).Needs) (by unfold len; omega)]
        simp only [Bool.false_eq_true, if_false]
        refine (wpN h1 (n := len (gt xs q.toNat).Needs) (by unfold len; omega) (by unfold len; omega)).bind fun z hz => ?_
        obtain ⟨z, l3, a3⟩ := z
        simp only at hz ⊢
        unfold len at hz
        rw [idx_gtZ (l := (gt xs q.toNat).Needs) (j := z) hz.1.1 hz.1.2]
        simp only [Option.bind_some]
        have nd := hs.nd q.toNat (by omega) z.toNat (by omega)
        have ml := mx_le (es := es) (l := (gt xs q.toNat).Needs) (j := z.toNat) (by omega)
        exact wp_some.2 ⟨⟨nd.1, by simp only; omega, by simp only; omega, by simp only; omega, hz.2⟩, by simp only; omega⟩
    refine hloop.bind fun r hr => ?_
    have hLM : L ≤ M := by
      obtain ⟨_, i, hi, rfl⟩ := htop
      have a := len_le hs he he' i (by omega)
      have b := htop'.1 i (by have := he'.ln; rw [lng_len] at this; omega)
      omega
    rw [dT hr, dT hLM]
    simp only [if_true, sane_T, Option.bind_some]
    exact wp_some.2 rfl
end Rx
end Go.Proofs.Ytnpnaopnhgkapaa
