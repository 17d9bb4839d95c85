/- ShedEnough. -/
import Derived.Test.YtfnphdhcgkondaaGreatH7
set_option linter.unusedVariables false
set_option linter.unusedSimpArgs false
namespace Go.Proofs.YtfnphdhcgkondaaGreat
open Go Go.RowKit Dp
namespace Rx
section
variable {b : Board} {p : Power} {x : Island}
/-- what is too much -/
def eI (b : Board) (p : Power) (x : Island) : Int := loadI p x - rateI b x
def roomF (b : Board) (p : Power) (k : Nat) : Int := imax 0 (gt p.Limits k - (gt b.Consumers k).Least)
def cutF (p : Power) (L : List Int) (k : Nat) : Int := gt p.Limits k - gt L k
theorem sumF_le {f g : Nat → Int} : ∀ {l : List Int}, (∀ c ∈ l, f c.toNat ≤ g c.toNat) → sumF f l ≤ sumF g l
  | [], _ => Int.le_refl _
  | a :: l, h => by
    rw [sumF_cons, sumF_cons]
    have h1 := h a (by simp)
    have h2 := sumF_le (l := l) fun c hc => h c (by simp [hc])
    omega
theorem sumF_sub {f g h : Nat → Int} : ∀ {l : List Int}, (∀ c ∈ l, h c.toNat = f c.toNat - g c.toNat) → sumF h l = sumF f l - sumF g l
  | [], _ => rfl
  | a :: l, hh => by
    rw [sumF_cons, sumF_cons, sumF_cons, hh a (by simp), sumF_sub (l := l) fun c hc => hh c (by simp [hc])]
    omega
theorem room_nn (l : List Int) : 0 ≤ sumF (roomF b p) l := by
  have : sumF (fun _ => 0) l ≤ sumF (roomF b p) l := sumF_le fun c _ => by unfold roomF imax; split <;> omega
  have h0 : sumF (fun _ => (0 : Int)) l = 0 := sumF_zero fun _ _ => rfl
  omega
theorem eI_bd (h : stt b p = 0) (hx : x ∈ isl b p) : -400000 ≤ eI b p x ∧ eI b p x ≤ 800000 := by
  have h1 := load_bd h hx
  have h2 := rateI_bd h hx
  unfold eI
  omega
theorem enough_one (h : stt b p = 0) (hx : x ∈ isl b p) : sumF (cutF p (shAll b p).1) x.Consumers = imin (imax (eI b p x) 0) (sumF (roomF b p) x.Consumers) ∧ (eI b p x ≤ sumF (roomF b p) x.Consumers → ∀ c ∈ x.Consumers, c ∉ (shAll b p).2.1) := by
  have h1 := shAll_one h hx
  have hrn := room_nn (b := b) (p := p) x.Consumers
  generalize (shAll b p).1 = L at *
  generalize (shAll b p).2.1 = T at *
  by_cases hs : x.Sources = []
  · have hk := h1.1 hs
    have hc : sumF (cutF p L) x.Consumers = 0 := sumF_zero fun c hc => by unfold cutF; rw [(hk c hc).1]; omega
    have he : eI b p x = 0 := by unfold eI; rw [loadI_nil hs, rateI_nil hs]; rfl
    refine ⟨?_, fun _ c hc => (hk c hc).2⟩
    rw [hc, he]
    unfold imin imax
    split <;> omega
  · have hS := h1.2 hs
    have e1 : eI b p x = sumT x [] p.Limits - rateI b x := by unfold eI; rw [loadI_sum hs]
    have ec : sumF (cutF p L) x.Consumers = sumT x [] p.Limits - sumT x [] L := by
      unfold sumT
      rw [left_nil]
      exact sumF_sub fun c _ => rfl
    have hle : sumF (cutF p L) x.Consumers ≤ sumF (roomF b p) x.Consumers := sumF_le fun c hc => by
      have := hS.lo c hc
      unfold cutF roomF imax
      split <;> omega
    have hcn : 0 ≤ sumF (cutF p L) x.Consumers := by
      have h0 : sumF (fun _ => (0 : Int)) x.Consumers = 0 := sumF_zero fun _ _ => rfl
      rw [← h0]
      exact sumF_le fun c hc => by
        have := hS.lo c hc
        unfold cutF
        omega
    have hge : (∀ c ∈ x.Consumers, gt L c.toNat ≤ (gt b.Consumers c.toNat).Least) → sumF (roomF b p) x.Consumers ≤ sumF (cutF p L) x.Consumers := fun hh => sumF_le fun c hc => by
      have h1 := hS.lo c hc
      have h2 := hh c hc
      unfold cutF roomF imax
      split <;> omega
    have hz : (∀ c ∈ x.Consumers, gt L c.toNat = gt p.Limits c.toNat) → sumF (cutF p L) x.Consumers = 0 := fun hh => sumF_zero fun c hc => by unfold cutF; rw [hh c hc]; omega
    refine ⟨?_, fun he c hc => hS.tz ?_ c hc⟩
    · rw [e1]
      rcases hS.ge with g | g <;> rcases hS.le with k | k
      · unfold imin imax
        split <;> split <;> omega
      · have := hge k
        unfold imin imax
        split <;> split <;> omega
      · have := hz g
        unfold imin imax
        split <;> split <;> omega
      · have := hz g
        have := hge k
        unfold imin imax
        split <;> split <;> omega
    · rcases hS.le with k | k
      · exact k
      · have := hge k
        omega
theorem enough_loop (h : stt b p = 0) (hx : x ∈ isl b p) (l : List Int) (a : Int) (e : Int) (C : List Bool) (S : List Running) (B : List Part) (A : List Act) :
    loopO (dynposlaw18_ShedEnough_L2 (b.Buses, b.Phase, b.Frequency, l, a, b.Breakers, b.Sources, b.Consumers, p.Closed, p.Sources, p.Limits, p.Broken) (e, C, S, (shAll b p).1, B, A) x) (0, 0, 0) = some (sumF (roomF b p) x.Consumers, sumF (cutF p (shAll b p).1) x.Consumers) := by
  obtain ⟨⟨hl, hg⟩, _⟩ := stt_zero.1 h
  obtain ⟨h1, _, h3, _⟩ := isl_parts hg.1 hx
  obtain ⟨_, _, _, _, h5, h6⟩ := brk_lens h
  have hok := shAll_ok h
  have hlen := hok.len
  have bd1 : ∀ c ∈ x.Consumers, 0 ≤ roomF b p c.toNat ∧ roomF b p c.toNat ≤ 50000 := fun c hc => by
    have := h1 c hc
    have h7 := lim_bd h (k := c.toNat) (by omega)
    have h8 := least_bd h (k := c.toNat) (by omega)
    unfold roomF imax
    split <;> omega
  have bd2 : ∀ c ∈ x.Consumers, 0 ≤ cutF p (shAll b p).1 c.toNat ∧ cutF p (shAll b p).1 c.toNat ≤ 50000 := fun c hc => by
    have := h1 c hc
    have h7 := lim_bd h (k := c.toNat) (by omega)
    have h8 := hok.le c.toNat (by omega)
    unfold cutF
    omega
  refine loop_run (r := (sumF (roomF b p) x.Consumers, sumF (cutF p (shAll b p).1) x.Consumers)) (fun k => (sumF (roomF b p) (x.Consumers.take k), sumF (cutF p (shAll b p).1) (x.Consumers.take k), (k : Int))) x.Consumers.length (fun k hk => ?_) ?_ (by omega)
  · have hc := h1 _ (gt_mem hk)
    have hs1 := sumF_bd (f := roomF b p) (l := x.Consumers.take k) (B := 50000) fun c hc => bd1 c (List.mem_of_mem_take hc)
    have hs2 := sumF_bd (f := cutF p (shAll b p).1) (l := x.Consumers.take k) (B := 50000) fun c hc => bd2 c (List.mem_of_mem_take hc)
    have hlt : (x.Consumers.take k).length ≤ 16 := by simp; omega
    have b1 := bd1 _ (gt_mem hk)
    have b2 := bd2 _ (gt_mem hk)
    have h7 := lim_bd h (k := (gt x.Consumers k).toNat) (by omega)
    have h8 := least_bd h (k := (gt x.Consumers k).toNat) (by omega)
    unfold dynposlaw18_ShedEnough_L2
    simp only [lt_len hk, if_true, idx_gt hk, Option.bind_some]
    rw [idx_gtZ (l := p.Limits) hc.1 (by omega), idx_gtZ (l := b.Consumers) hc.1 (by omega), idx_gtZ (l := (shAll b p).1) hc.1 (by omega), take_gt hk, sumF_snoc, sumF_snoc]
    simp only [Option.bind_some]
    rw [W_succ (by omega), W_sm (x := gt p.Limits (gt x.Consumers k).toNat - (gt b.Consumers (gt x.Consumers k).toNat).Least) (by omega) (by omega)]
    have e1 : imax 0 (gt p.Limits (gt x.Consumers k).toNat - (gt b.Consumers (gt x.Consumers k).toNat).Least) = roomF b p (gt x.Consumers k).toNat := rfl
    have e2 : gt p.Limits (gt x.Consumers k).toNat - gt (shAll b p).1 (gt x.Consumers k).toNat = cutF p (shAll b p).1 (gt x.Consumers k).toNat := rfl
    rw [e1, e2, W_sm (x := cutF p (shAll b p).1 (gt x.Consumers k).toNat) (by omega) (by omega), W_sm (by omega) (by omega), W_sm (by omega) (by omega)]
  · unfold dynposlaw18_ShedEnough_L2
    simp only [nlt_len, Bool.false_eq_true, if_false, List.take_length]
/-- some island draws too much -/
def anyE (b : Board) (p : Power) (k : Nat) : Bool := (List.range k).any fun i => decide (0 < eI b p (gt (isl b p) i))
theorem anyE_succ (k : Nat) : anyE b p (k + 1) = (anyE b p k || decide (0 < eI b p (gt (isl b p) k))) := by
  unfold anyE
  rw [List.range_succ, List.any_append]
  simp
theorem enough_L1 (hb : SmB b) (hp : SmP p) (h : stt b p = 0) (l : List Int) (a : Int) (e : Int) (A : List Act) :
    loopO (dynposlaw18_ShedEnough_L1 (b.Buses, b.Phase, b.Frequency, l, a, b.Breakers, b.Sources, b.Consumers, p.Closed, p.Sources, p.Limits, p.Broken) (e, (shdP b p).Closed, (shdP b p).Sources, (shdP b p).Limits, (shdP b p).Broken, A) (isl b p)) (false, 0) = some (.inl (anyE b p (isl b p).length)) := by
  obtain ⟨⟨hl, hg⟩, _⟩ := stt_zero.1 h
  have hil := isl_len (b := b) (p := p)
  have hbus := hl.bus
  have hcon := hl.con
  have hbe : (⟨b.Buses, b.Breakers, b.Sources, b.Consumers, b.Phase, b.Frequency⟩ : Board) = b := rfl
  have hpe : (⟨p.Closed, p.Sources, p.Limits, p.Broken⟩ : Power) = p := rfl
  have hqe : (⟨(shdP b p).Closed, (shdP b p).Sources, (shdP b p).Limits, (shdP b p).Broken⟩ : Power) = shdP b p := rfl
  refine loop_run (r := Sum.inl (anyE b p (isl b p).length)) (fun k => (anyE b p k, (k : Int))) (isl b p).length (fun k hk => ?_) ?_ (by omega)
  · have hx := gt_mem hk
    obtain ⟨h1, h2, h3, h4, h5⟩ := isl_parts hg.1 hx
    obtain ⟨f1, f2⟩ := enough_one h hx
    have hlp := enough_loop h hx l a e (shdP b p).Closed (shdP b p).Sources (shdP b p).Broken A
    have heb := eI_bd h hx
    unfold dynposlaw18_ShedEnough_L1
    simp only [lt_len hk, if_true, idx_gt hk, Option.bind_some, show idx (gt (isl b p) k).Buses 0 = some (gt (gt (isl b p) k).Buses 0) from idx_gt h5, hbe, hpe, hqe, refload_eq hb hp, refrating_eq hb hp, isl_of h hx]
    rw [show (shdP b p).Limits = (shAll b p).1 from rfl, hlp]
    have ew : W (loadI p (gt (isl b p) k) - rateI b (gt (isl b p) k)) = eI b p (gt (isl b p) k) := W_sm (x := eI b p (gt (isl b p) k)) (by omega) (by omega)
    simp only [Option.bind_some, ew]
    rw [anyE_succ, W_succ (by omega)]
    have ea : (if anyE b p k = true then some true else some (decide (eI b p (gt (isl b p) k) > 0))) = some (anyE b p k || decide (0 < eI b p (gt (isl b p) k))) := by
      cases anyE b p k <;> rfl
    rw [ea, bneF f1]
    simp only [Option.bind_some, Bool.false_eq_true, if_false]
    by_cases hroom : eI b p (gt (isl b p) k) ≤ sumF (roomF b p) (gt (isl b p) k).Consumers
    · rw [dT hroom]
      have hqe' : (⟨(shdP b p).Closed, (shdP b p).Sources, (shAll b p).1, (shdP b p).Broken⟩ : Power) = shdP b p := rfl
      simp only [if_true, dynposlaw18_island, hqe', refof_isle hb (sm_shd hp h), Option.bind_some]
      have e3 : (ofR b (shdP b p) (gt (gt (isl b p) k).Buses 0)).2.2.2 = (gt (isl b p) k).Consumers := by
        show (ofB b (shdP b p) _).1.Consumers = _
        unfold shdP
        rw [ofB_q h (shAll_ok h), isl_of h hx]
        show left _ _ = _
        rw [left_congr (T' := []) fun c hc => by simp [f2 hroom c hc], left_nil]
      rw [e3, ints_eq (by unfold Sm; omega), dT rfl]
      simp only [Option.bind_some, Bool.not_true, Bool.false_eq_true, if_false]
    · rw [dF hroom]
      simp only [Bool.false_eq_true, if_false, Option.bind_some]
  · unfold dynposlaw18_ShedEnough_L1
    simp only [nlt_len, Bool.false_eq_true, if_false]
end
theorem law_ShedEnough (t : List Int) : dynposlaw18_ShedEnough t = some true := by
  unfold dynposlaw18_ShedEnough
  refine wp_eq.1 ((wpNew t).bind fun r hr => ?_)
  refine (wpWorld hr).bind fun w hw => ?_
  obtain ⟨b, p, l, a, rfl, hg, hgp, hs, hb, hp, h⟩ := hw
  simp only
  have hbe : (⟨b.Buses, b.Breakers, b.Sources, b.Consumers, b.Phase, b.Frequency⟩ : Board) = b := rfl
  have hpe : (⟨p.Closed, p.Sources, p.Limits, p.Broken⟩ : Power) = p := rfl
  have hqe : (⟨(shdP b p).Closed, (shdP b p).Sources, (shdP b p).Limits, (shdP b p).Broken⟩ : Power) = shdP b p := rfl
  have hl1 : (shdP b p).Limits.length = p.Limits.length := (shAll_ok h).len
  have hl2 : (shdP b p).Closed.length = p.Closed.length := opn_len _ _
  simp only [hbe, hpe, shed_eq hb hp h, Option.bind_some, hqe, show ((0 : Int) != 0) = false from rfl, Bool.false_eq_true, if_false]
  rw [bneF (a := len (shdP b p).Limits) (by unfold len; omega), bneF (a := len (shdP b p).Closed) (by unfold len; omega)]
  simp only [Bool.false_eq_true, if_false, Option.bind_some, refislands_eq hb hp h, enough_L1 hb hp h l a 0 (shAll b p).2.2, Sum.elim_inl]
  cases hany : anyE b p (isl b p).length with
  | true =>
    simp only [if_true, sane_T, Option.bind_some]
    exact wp_some.2 rfl
  | false =>
    have hq : shAll b p = (p.Limits, [], []) := quiet h fun x hx hs => by
      obtain ⟨i, hi, rfl⟩ := mem_gt hx
      unfold anyE at hany
      have := (List.any_eq_false.1 hany) i (List.mem_range.2 hi)
      have hn : ¬ 0 < eI b p (gt (isl b p) i) := by simpa using this
      unfold eI at hn
      rw [loadI_sum hs] at hn
      omega
    have e1 : shdP b p = p := by
      unfold shdP
      rw [hq]
      exact stq_nil p
    rw [hq, e1]
    simp only [Bool.false_eq_true, if_false, show (len ([] : List Act) == 0) = true from rfl, if_true, same_refl hp, sane_T, Option.bind_some]
    exact wp_some.2 rfl
end Rx
end Go.Proofs.YtfnphdhcgkondaaGreat
