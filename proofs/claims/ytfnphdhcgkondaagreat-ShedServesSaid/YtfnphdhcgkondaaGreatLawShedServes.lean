/- ShedServes. -/
import Derived.Test.YtfnphdhcgkondaaGreatH12
set_option linter.unusedVariables false
set_option linter.unusedSimpArgs false
namespace Go.Proofs.YtfnphdhcgkondaaGreat
open Go Go.RowKit Dp
namespace Rx
section
variable {b : Board} {p : Power} {l : List Int} {a e : Int} {A : List Act}
theorem serves_L2 (hb : SmB b) (hp : SmP p) (h : stt b p = 0) {c : Int} (hc : 0 ≤ c ∧ c < (b.Consumers.length : Int)) (hs : srv b p 64 c = true) :
    loopO (dynposlaw18_ShedServes_L2 (b.Buses, b.Phase, b.Frequency, l, a, b.Breakers, b.Sources, b.Consumers, p.Closed, p.Sources, p.Limits, p.Broken) (gt b.Consumers c.toNat)) 0 = some (.inl ()) := by
  obtain ⟨⟨hl, hg⟩, _⟩ := stt_zero.1 h
  have hcon := hl.con
  obtain ⟨n1, n2⟩ := needs_bd hg hc
  have hall : ∀ d ∈ (gt b.Consumers c.toNat).Needs, srv b p 64 d = true := fun d hd => by
    have hd' := n2 d hd
    unfold srv at hs
    rw [Bool.and_eq_true, List.all_eq_true] at hs
    rw [srv_stable hg 64 63 d hd'.1 (by omega) (by omega) (by omega)]
    exact hs.2 d hd
  have hbe : (⟨b.Buses, b.Breakers, b.Sources, b.Consumers, b.Phase, b.Frequency⟩ : Board) = b := rfl
  have hpe : (⟨p.Closed, p.Sources, p.Limits, p.Broken⟩ : Power) = p := rfl
  refine loop_run (r := Sum.inl ()) (fun k => (k : Int)) (gt b.Consumers c.toNat).Needs.length (fun k hk => ?_) ?_ (by omega)
  · have hd := n2 _ (gt_mem hk)
    unfold dynposlaw18_ShedServes_L2
    simp only [lt_len hk, if_true, idx_gt hk, Option.bind_some, hbe, hpe, served_eq hb hp h (c := gt (gt b.Consumers c.toNat).Needs k) ⟨hd.1, by omega⟩, hall _ (gt_mem hk), Bool.not_true, Bool.false_eq_true, if_false]
    rw [W_succ (by omega)]
  · unfold dynposlaw18_ShedServes_L2
    simp only [nlt_len, Bool.false_eq_true, if_false]
theorem serves_L1 (hb : SmB b) (hp : SmP p) (h : stt b p = 0) :
    loopO (dynposlaw18_ShedServes_L1 (b.Buses, b.Phase, b.Frequency, l, a, b.Breakers, b.Sources, b.Consumers, p.Closed, p.Sources, p.Limits, p.Broken) (e, (protP b p).Closed, (protP b p).Sources, (protP b p).Limits, (protP b p).Broken, A)) 0 = some (.inl ()) := by
  obtain ⟨⟨hl, hg⟩, _⟩ := stt_zero.1 h
  have hcon := hl.con
  have hsq := sm_prot (b := b) hp h
  have hq := stt_prot h
  have hbe : (⟨b.Buses, b.Breakers, b.Sources, b.Consumers, b.Phase, b.Frequency⟩ : Board) = b := rfl
  have hpe : (⟨p.Closed, p.Sources, p.Limits, p.Broken⟩ : Power) = p := rfl
  have hqe : (⟨(protP b p).Closed, (protP b p).Sources, (protP b p).Limits, (protP b p).Broken⟩ : Power) = protP b p := rfl
  refine loop_run (r := Sum.inl ()) (fun k => (k : Int)) b.Consumers.length (fun k hk => ?_) ?_ (by omega)
  · have hc : (0 : Int) ≤ (k : Int) ∧ (k : Int) < (b.Consumers.length : Int) := by omega
    have hL2 := serves_L2 (l := l) (a := a) hb hp h hc
    rw [Int.toNat_natCast] at hL2
    unfold dynposlaw18_ShedServes_L1
    simp only [lt_len hk, if_true, idx_gt hk, Option.bind_some, hbe, hpe, hqe, served_eq hb hp h hc, served_eq hb hsq hq hc]
    rw [W_succ (by omega)]
    cases hs : srv b p 64 (k : Int) with
    | false =>
      have hsq' : srv b (protP b p) 64 (k : Int) = false := by
        cases hs' : srv b (protP b p) 64 (k : Int) with
        | false => rfl
        | true =>
          have := srv_mono hg (fun c h0 h1 hh => bas_prot h h0 h1 hh) 64 (k : Int) hc.1 hc.2 hs'
          rw [hs] at this
          cases this
      simp only [Bool.not_false, if_true, hsq', Bool.false_eq_true, if_false, Option.bind_some, Sum.elim_inl]
    | true =>
      have hbs : basS b p (k : Int) = true := by
        unfold srv at hs
        rw [Bool.and_eq_true] at hs
        exact hs.1
      unfold basS at hbs
      simp only [Bool.and_eq_true] at hbs
      obtain ⟨q1, q2, q3, _⟩ := hbs
      have q3' : brk p 4 (k : Int) = false := by simpa using q3
      simp only [Bool.not_true, Bool.false_eq_true, if_false, hL2 hs, Option.bind_some, Sum.elim_inl, reffed_eq hb hp hc, q1, refliv_eq hb hp, q2, refbrk_has hp, q3']
  · unfold dynposlaw18_ShedServes_L1
    simp only [nlt_len, Bool.false_eq_true, if_false]
end
theorem law_ShedServes (t : List Int) : dynposlaw18_ShedServes t = some true := by
  unfold dynposlaw18_ShedServes
  refine wp_eq.1 ((wpNew t).bind fun r hr => ?_)
  refine (wpWorld hr).bind fun w hw => ?_
  obtain ⟨b, p, l, a, rfl, hg, hgp, hs, hb, hp, h⟩ := hw
  simp only
  have hbe : (⟨b.Buses, b.Breakers, b.Sources, b.Consumers, b.Phase, b.Frequency⟩ : Board) = b := rfl
  have hpe : (⟨p.Closed, p.Sources, p.Limits, p.Broken⟩ : Power) = p := rfl
  simp only [hbe, hpe, protect_eq hb hp h, Option.bind_some, show ((0 : Int) != 0) = false from rfl, Bool.false_eq_true, if_false, serves_L1 (l := l) (a := a) (e := 0) (A := protA b p) hb hp h, Sum.elim_inl, sane_T]
  exact wp_some.2 rfl
end Rx
end Go.Proofs.YtfnphdhcgkondaaGreat
