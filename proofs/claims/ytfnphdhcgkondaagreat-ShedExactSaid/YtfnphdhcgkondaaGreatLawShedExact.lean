/- ShedExact: all functions of shedding answer as the reference does, whatever boards, states and numbers they are given. Plain law. -/
import Derived.Test.YtfnphdhcgkondaaGreatMc
set_option linter.unusedVariables false
set_option linter.unusedSimpArgs false
namespace Go.Proofs.YtfnphdhcgkondaaGreat
open Go Go.RowKit Dp
namespace Rx
section
variable {b : Board} {p q : Power}
abbrev pw6 (v : Int × List Bool × List Running × List Int × List Part × List Act) : Power := ⟨v.2.1, v.2.2.1, v.2.2.2.1, v.2.2.2.2.1⟩
theorem sm_e : SmP ⟨[], [], [], []⟩ := ⟨by unfold Sm; simp, by unfold Sm; simp, by unfold Sm; simp, by unfold Sm; simp⟩
theorem refacts_self {l : List Act} (hl : l.length ≤ 10000000) : dynposref18_Acts l l = some true := by
 unfold dynposref18_Acts
 have e := loop_run (step := dynposref18_Acts_L1 l l) (r := .inl ()) (fun k => (k : Int)) l.length (fun k hk => by
  unfold dynposref18_Acts_L1
  simp only [lt_len hk, if_true, idx_gt hk, Option.bind_some, beq_self_eq_true, Bool.and_self, Bool.not_true, Bool.false_eq_true, if_false]
  rw [W_succ (by omega)]) (by
  unfold dynposref18_Acts_L1
  simp only [nlt_len, Bool.false_eq_true, if_false]) (by omega)
 have e' : loopO (dynposref18_Acts_L1 l l) 0 = _ := e
 simp only [bne_self_eq_false, Bool.false_eq_true, if_false, e', Option.bind_some, Sum.elim_inl]
theorem clear_same (hb : SmB b) (hp : SmP p) : ∃ v, shed_Clear b p = some v ∧ dynposref18_Clear b p = some v ∧ SmP (pw6 v) ∧ v.2.2.2.2.2.length ≤ 10000000 := by
 by_cases h : stt b p = 0
 ·exact ⟨_, clear_eq hb hp h, refclear_eq hb hp h, sm_clrP hp, by have := clrA_len h; simp only; omega⟩
 ·exact ⟨_, clear_bad hb hp h, refclear_bad hb hp h, sm_e, by simp⟩
theorem shed_same (hb : SmB b) (hp : SmP p) : ∃ v, shed_Shed b p = some v ∧ dynposref18_Shed b p = some v ∧ SmP (pw6 v) ∧ v.2.2.2.2.2.length ≤ 10000000 := by
 by_cases h : stt b p = 0
 ·exact ⟨_, shed_eq hb hp h, refshed_eq hb hp h, sm_shd hp h, by have := shAll_len h; simp only; omega⟩
 ·exact ⟨_, shed_bad hb hp h, refshed_bad hb hp h, sm_e, by simp⟩
theorem protect_same (hb : SmB b) (hp : SmP p) : ∃ v, shed_Protect b p = some v ∧ dynposref18_Protect b p = some v ∧ SmP (pw6 v) ∧ v.2.2.2.2.2.length ≤ 10000000 := by
 by_cases h : stt b p = 0
 ·refine ⟨_, protect_eq hb hp h, refprotect_eq hb hp h, sm_prot hp h, ?_⟩
  have h1 := clrA_len h
  have h2 := shAll_len (stt_clrP h)
  show (clrA b p ++ _).length ≤ _
  rw [List.length_append]
  omega
 ·exact ⟨_, protect_bad hb hp h, refprotect_bad hb hp h, sm_e, by simp⟩
theorem order_same (hb : SmB b) : ∃ v, shed_Order b = some v ∧ dynposref18_Order b = some v ∧ Sm v := by
 by_cases h : chk b = 0
 ·refine ⟨_, order_eq hb h, reforder_eq hb h, ?_⟩
  have := (chk_zero.1 h).1.con
  unfold Sm
  rw [ord_len]
  omega
 ·exact ⟨_, order_bad hb h, reforder_bad hb h, by unfold Sm; simp⟩
theorem not_beq (v : Bool) : (!(v == v)) = false := by cases v <;> rfl
theorem shedx_L3 (hb : SmB b) (hp : SmP p) (a3 : Int) (x : Int × List Int × Int) : loopO (dynposlaw18_ShedExact_L3 a3 b p x) 0 = some (.inl ()) := by
 refine loop_run (r := Sum.inl ()) (fun k => (k : Int)) 2 (fun k hk => ?_) ?_ (by omega)
 ·obtain ⟨i, hi⟩ : ∃ i, idx [a3, x.1] (k : Int) = some i := ⟨_, idx_gt (l := [a3, x.1]) (by simpa using hk)⟩
  obtain ⟨v, v1, v2⟩ := served_same hb hp i
  unfold dynposlaw18_ShedExact_L3
  simp only [dT (c := (k : Int) < 2) (by omega), if_true, hi, Option.bind_some, v1, v2, not_beq, Bool.false_eq_true, if_false]
  rw [W_succ (by omega)]
 ·unfold dynposlaw18_ShedExact_L3
  simp only [dF (c := ((2 : Nat) : Int) < 2) (by omega), Bool.false_eq_true, if_false]
theorem sm_setAny {α : Type} {l : List α} (h : Sm l) (k : Nat) (x : α) : Sm (l.set k x) := by unfold Sm at h ⊢; simpa using h
end
theorem shedx_L2 {b : Board} (hb : SmB b) {p0 p1 odd : Power} (h0 : SmP p0) (h1 : SmP p1) (h2 : SmP odd) (a3 : Int) {l l' xl : List Int} {a a' xa : Int} (hs : Sr l a) (nb ph fr : Int) (B : List Breaker) (S : List Source) (C : List Consumer) :
  Wp (loopO (dynposlaw18_ShedExact_L2 odd a3 (nb, ph, fr, xl, xa, B, S, C, p0.Closed, p0.Sources, p0.Limits, p0.Broken) b (l', a', p1.Closed, p1.Sources, p1.Limits, p1.Broken)) (0, l, a)) fun r => ∃ l a, r = .inl (l, a) ∧ Sr l a := by
 refine wp_upto 3 (fun k s => ∃ l a, s = ((k : Int), l, a) ∧ Sr l a) ⟨_, _, rfl, hs⟩ (fun k s hk hi => ?_) (fun s hi => ?_) (by omega)
 ·obtain ⟨l, a, rfl, hs⟩ := hi
  obtain ⟨q, hq, hqs⟩ : ∃ q, idx [p0, p1, odd] (k : Int) = some q ∧ SmP q := by
   rcases k with _ | _ | _ | k
   ·exact ⟨p0, rfl, h0⟩
   ·exact ⟨p1, rfl, h1⟩
   ·exact ⟨odd, rfl, h2⟩
   ·omega
  have hq' : idx [Power.mk p0.Closed p0.Sources p0.Limits p0.Broken, Power.mk p1.Closed p1.Sources p1.Limits p1.Broken, odd] (k : Int) = some q := hq
  obtain ⟨u, u1, u2, u3, u4⟩ := clear_same hb hqs
  obtain ⟨v, v1, v2, v3, v4⟩ := shed_same hb hqs
  obtain ⟨w, w1, w2, w3, w4⟩ := protect_same hb hqs
  obtain ⟨c, c1, c2⟩ := check18_same hb hqs w3
  obtain ⟨d, d1, d2⟩ := check18_same hb hqs h2
  have su : dynposref15_Same (Power.mk u.2.1 u.2.2.1 u.2.2.2.1 u.2.2.2.2.1) (Power.mk u.2.1 u.2.2.1 u.2.2.2.1 u.2.2.2.2.1) = some true := same_refl u3
  have sv : dynposref15_Same (Power.mk v.2.1 v.2.2.1 v.2.2.2.1 v.2.2.2.2.1) (Power.mk v.2.1 v.2.2.1 v.2.2.2.1 v.2.2.2.2.1) = some true := same_refl v3
  have sw : dynposref15_Same (Power.mk w.2.1 w.2.2.1 w.2.2.2.1 w.2.2.2.2.1) (Power.mk w.2.1 w.2.2.1 w.2.2.2.1 w.2.2.2.2.1) = some true := same_refl w3
  have c1 : shed_Check b q (Power.mk w.2.1 w.2.2.1 w.2.2.2.1 w.2.2.2.2.1) = some c := c1
  have c2 : dynposref18_Check b q (Power.mk w.2.1 w.2.2.1 w.2.2.2.1 w.2.2.2.2.1) = some c := c2
  have cw : dynposref15_Copy (Power.mk w.2.1 w.2.2.1 w.2.2.2.1 w.2.2.2.2.1) = some (w.2.1, w.2.2.1, w.2.2.2.1, w.2.2.2.2.1) := refcopy_eq w3
  obtain ⟨m1, m2, m3, m4⟩ := w3
  simp only at m1 m2 m3 m4
  unfold dynposlaw18_ShedExact_L2
  simp only [dT (c := (k : Int) < 3) (by omega), if_true, hq', Option.bind_some]
  refine (wpN hs (n := 6) (by omega) (by omega)).bind fun z hz => ?_
  simp only [shedx_L3 hb hqs, Option.bind_some, Sum.elim_inl, u1, u2, su, refacts_self u4, v1, v2, sv, refacts_self v4, w1, w2, sw, refacts_self w4, c1, c2, d1, d2, cw, not_beq, bne_self_eq_false, Bool.not_true, Bool.false_eq_true, if_false]
  have lim : Wp (if decide (len w.2.2.2.1 > 0) = true then
    Option.bind (Src_N (Src.mk z.2.1 z.2.2) (len w.2.2.2.1)) fun x39 =>
     Option.bind (idx w.2.2.2.1 x39.1) fun x40 =>
      Option.bind (quoO x40 2) fun x41 =>
       Option.bind (idx w.2.2.2.1 x39.1) fun x42 =>
        Option.bind (idx w.2.2.2.1 x39.1) fun x43 =>
         Option.bind (setO w.2.2.2.1 x39.1 x41) fun x44 => some (x39.2.1, x39.2.2, x44)
    else some (z.2.1, z.2.2, w.2.2.2.1)) fun r => Sr r.1 r.2.1 ∧ Sm r.2.2 := by
   refine Wp.ite (fun h => ?_) fun _ => wp_some.2 ⟨hz.2, m3⟩
   have hpos := of_decide_eq_true h
   have hm := m3
   unfold Sm at hm
   refine (wpN hz.2 (n := len w.2.2.2.1) (by omega) (by unfold len; omega)).bind fun y hy => ?_
   have hy2 : y.1 < (w.2.2.2.1.length : Int) := hy.1.2
   rw [idx_gtZ hy.1.1 hy2]
   simp only [Option.bind_some]
   rw [show quoO (gt w.2.2.2.1 y.1.toNat) 2 = some (W ((gt w.2.2.2.1 y.1.toNat).tdiv 2)) from rfl]
   simp only [Option.bind_some]
   rw [setO_gt hy.1.1 hy2]
   exact wp_some.2 ⟨hy.2, sm_setAny m3 _ _⟩
  refine lim.bind fun r hr => ?_
  have clo : Wp (if decide (len w.2.1 > 0) = true then
    Option.bind (Src_N (Src.mk r.1 r.2.1) (len w.2.1)) fun x46 =>
     Option.bind (idx w.2.1 x46.1) fun x47 =>
      Option.bind (idx w.2.1 x46.1) fun x48 =>
       Option.bind (idx w.2.1 x46.1) fun x49 =>
        Option.bind (setO w.2.1 x46.1 !x47) fun x50 => some (x46.2.1, x46.2.2, x50)
    else some (r.1, r.2.1, w.2.1)) fun s => Sr s.1 s.2.1 ∧ Sm s.2.2 := by
   refine Wp.ite (fun h => ?_) fun _ => wp_some.2 ⟨hr.1, m1⟩
   have hpos := of_decide_eq_true h
   have hm := m1
   unfold Sm at hm
   refine (wpN hr.1 (n := len w.2.1) (by omega) (by unfold len; omega)).bind fun y hy => ?_
   have hy2 : y.1 < (w.2.1.length : Int) := hy.1.2
   rw [idx_gtZ hy.1.1 hy2]
   simp only [Option.bind_some]
   rw [setO_gt hy.1.1 hy2]
   exact wp_some.2 ⟨hy.2, sm_setAny m1 _ _⟩
  refine clo.bind fun s hs2 => ?_
  obtain ⟨e, e1, e2⟩ := check18_same hb hqs (q := ⟨s.2.2, w.2.2.1, r.2.2, w.2.2.2.2.1⟩) ⟨hs2.2, m2, hr.2, m4⟩
  simp only [e1, e2, Option.bind_some, not_beq, Bool.false_eq_true, if_false]
  rw [W_succ (by omega)]
  exact wp_some.2 ⟨_, _, rfl, hs2.1⟩
 ·obtain ⟨l, a, rfl, hs⟩ := hi
  unfold dynposlaw18_ShedExact_L2
  simp only [dF (c := ((3 : Nat) : Int) < 3) (by omega), Bool.false_eq_true, if_false]
  exact wp_some.2 ⟨_, _, rfl, hs⟩
theorem law_ShedExact (t : List Int) (raw : Board) (odd : Power) (n : Int) (hl : raw.Consumers.length ≤ maxLen) : dynposlaw18_ShedExact t raw odd n = some true := by
 refine Wp.true' ?_
 unfold dynposlaw18_ShedExact
 obtain ⟨r, hr, hsm⟩ := small_eq (b := raw) (p := odd) (Nat.le_trans hl (by decide))
 simp only [hr, sane_T, Option.bind_some]
 refine Wp.ite (fun _ => wp_some.2 rfl) fun h => ?_
 obtain ⟨hrs, hos⟩ := hsm (by simpa using h)
 refine (wpNew t).bind fun s hs => ?_
 refine (wpWorld hs).bind fun w hw => ?_
 obtain ⟨b, p, l, a, rfl, hg, hgp, hs1, hb, hp, hst⟩ := hw
 simp only
 obtain ⟨s1, s2, s3, s4, s5, s6⟩ := brk_lens hst
 have q4 := hgp.brok
 have hloop : Wp (loopO (dynposlaw18_ShedExact_L1 raw odd n (b.Buses, b.Phase, b.Frequency, l, a, b.Breakers, b.Sources, b.Consumers, p.Closed, p.Sources, p.Limits, p.Broken)) (0, l, a)) fun r => ∃ x, r = .inl x := by
  refine wp_upto 2 (fun k s => ∃ l a, s = ((k : Int), l, a) ∧ Sr l a) ⟨_, _, rfl, hs1⟩ (fun k s hk hi => ?_) (fun s hi => ?_) (by omega)
  ·obtain ⟨l', a', rfl, hs⟩ := hi
   obtain ⟨x, hx, hxs⟩ : ∃ x, idx [b, raw] (k : Int) = some x ∧ SmB x := by
    rcases k with _ | _ | k
    ·exact ⟨_, rfl, hb⟩
    ·exact ⟨_, rfl, hrs⟩
    ·omega
   have hx' : idx [Board.mk b.Buses b.Breakers b.Sources b.Consumers b.Phase b.Frequency, raw] (k : Int) = some x := hx
   obtain ⟨v, v1, v2, v3⟩ := order_same hxs
   unfold dynposlaw18_ShedExact_L1
   simp only [dT (c := (k : Int) < 2) (by omega), if_true, hx', Option.bind_some, v1, v2, ints_eq v3, decide_true, Bool.not_true, Bool.false_eq_true, if_false]
   refine (wpBentPower hs (p := p) (by omega) (by omega) (by omega) (by omega)).bind fun y hy => ?_
   obtain ⟨l2, a2, c', r', m', k'⟩ := y
   simp only at hy ⊢
   refine (shedx_L2 hxs (p0 := p) (p1 := ⟨c', r', m', k'⟩) (odd := odd) hp hy.2 hos n (l := l2) (a := a2) (l' := l2) (a' := a2) (xl := l) (xa := a) hy.1 b.Buses b.Phase b.Frequency b.Breakers b.Sources b.Consumers).bind fun z hz => ?_
   obtain ⟨l3, a3, rfl, hz⟩ := hz
   simp only [Sum.elim_inl]
   rw [W_succ (by omega)]
   exact wp_some.2 ⟨_, _, rfl, hz⟩
  ·obtain ⟨l', a', rfl, hs⟩ := hi
   unfold dynposlaw18_ShedExact_L1
   simp only [dF (c := ((2 : Nat) : Int) < 2) (by omega), Bool.false_eq_true, if_false]
   exact wp_some.2 ⟨_, rfl⟩
 refine hloop.bind fun r hr => ?_
 obtain ⟨x, rfl⟩ := hr
 exact wp_some.2 rfl
end Rx
end Go.Proofs.YtfnphdhcgkondaaGreat
