/- The law RosterPossible, plainly. -/
import Derived.Test.YtkcjbcmpnoaghaaY5
import Derived.KernelRfl
set_option linter.unusedVariables false
set_option linter.unusedSimpArgs false
namespace Go.Proofs.Ytkcjbcmpnoaghaa
open Go Go.RowKit Dp
namespace Rx
theorem sane19p : dynposlaw19_sane = some true := by kernel_rfl
open Classical
theorem idx_oneP (x : Int) : idx [x] 0 = some x := rfl

section
variable {b : Board} {p : Power}
/-- acts that can be carried out one after the other -/
def Carried (b : Board) : Power → List Act → Prop
  | _, [] => True
  | p, a :: l => ∃ q : Power, dynposlaw19_carry b p a = some (q.Closed, q.Sources, q.Limits, q.Broken, 0) ∧ SmP q ∧ stt b q = 0 ∧ ¬ BadB b p q ∧ Carried b q l
theorem lead_likeP {q : Power} (h : stt b p = 0) (h' : stt b q = 0) (hc : q.Closed = p.Closed) (hl : q.Sources.length = p.Sources.length) (hs : ∀ j, j < p.Sources.length → (gt q.Sources j).State = (gt p.Sources j).State) (k : Int) : lead b q k = lead b p k := by
  have : ofB b q k = ofB b p k := by
    unfold ofB
    rw [isleOf_same hc hl hs, h, h']
  unfold lead
  rw [this]
/-- a generator that is not connected, in another state -/
def stP (p : Power) (j : Nat) (s : Int) : Power := ⟨p.Closed, p.Sources.set j { gt p.Sources j with State := s }, p.Limits, p.Broken⟩
theorem st_ok (hp : SmP p) (h : stt b p = 0) {j : Nat} (hj : j < b.Sources.length) {s : Int} (hs : s = 0 ∨ s = 1) (hc : (conn b p (j : Int)).2 = false) : SmP (stP p j s) ∧ stt b (stP p j s) = 0 ∧ ¬ BadB b p (stP p j s) := by
  obtain ⟨h1, ⟨s1, s2, s3⟩, g1, g2, g3⟩ := stt_zero.1 h
  have hjp : j < p.Sources.length := by omega
  have hlen : (stP p j s).Sources.length = p.Sources.length := List.length_set
  have hgt : ∀ k, gt (stP p j s).Sources k = if k = j then { gt p.Sources j with State := s } else gt p.Sources k := fun k => gt_set hjp
  have hst : stt b (stP p j s) = 0 := by
    refine stt_zero.2 ⟨h1, ⟨s1, hlen.trans s2, s3⟩, g1, fun k hk => ?_, fun k hk => by
      have := g3 k hk
      refine ⟨this.1, ?_⟩
      rw [← clo_congr (p := p) (q := stP p j s) fun _ _ _ _ => rfl]
      exact this.2⟩
    rw [hgt]
    rw [hlen] at hk
    have hk' := g2 k hk
    have hj' := g2 j hjp
    split
    · unfold RunOk at hj' ⊢
      dsimp only
      omega
    · exact hk'
  refine ⟨⟨hp.1, by have := hp.2.1; unfold Sm at *; rw [hlen]; exact this, hp.2.2⟩, hst, not_bad fun x y hx hy ht => .inl ?_⟩
  have hcn : ∀ x, x < b.Sources.length → (conn b (stP p j s) (x : Int)).2 = true → conn b (stP p j s) (x : Int) = conn b p (x : Int) := fun x hx hcx => by
    obtain ⟨k1, k2, k3⟩ := bk_spec h1.2.1 hx
    rw [conn_src (p := stP p j s) (by rw [hlen]; omega) k1 k2 k3] at hcx ⊢
    rw [conn_src (p := p) (by omega) k1 k2 k3]
    by_cases e : x = j
    · subst e
      rw [hgt, if_pos rfl] at hcx
      rw [if_neg (fun hh => by have := hh.1; dsimp only at this; omega)] at hcx
      cases hcx
    · rw [hgt, if_neg e]
      rfl
  obtain ⟨t1, t2, t3⟩ := ht
  have ex := hcn x hx t1
  have ey := hcn y hy t2
  rw [ex] at t1 t3
  rw [ey] at t2 t3
  rw [grp_same (p := p) (q := stP p j s) rfl] at t3
  exact ⟨t1, t2, t3⟩
/-- an island's generators are connected -/
theorem src_conn (h : stt b p = 0) {k : Int} {j : Nat} (hm : (j : Int) ∈ (isleOf b p k).Sources) : (conn b p (j : Int)).2 = true ∧ isleOf b p (conn b p (j : Int)).1 = isleOf b p k := by
  obtain ⟨q, hq, hc, hgr, e⟩ := mem_src.1 hm
  have : j = q := by omega
  subst this
  refine ⟨hc, ?_⟩
  show isle b p (gt (grp b p) (conn b p (j : Int)).1.toNat).toNat = _
  rw [hgr, Int.toNat_natCast]
  rfl
theorem lead_of (h : stt b p = 0) {k a : Int} (k0 : 0 ≤ k) (k1 : k < b.Buses) (a0 : 0 ≤ a) (a1 : a < b.Buses) (e : isleOf b p a = isleOf b p k) : lead b p a = lead b p k := by
  unfold lead
  rw [ofB_in' h k0 k1, ofB_in' h a0 a1, e]
theorem carried_acts (hb : SmB b) (hp : SmP p) (h : stt b p = 0) (hf : folL b p = p.Sources) {t : Table} {k : Int} (k0 : 0 ≤ k) (k1 : k < b.Buses) {r : Roster} {tm : Int} {l : List Act} (ha : Acts b p t k r tm l) : l.length ≤ 2 ∧ Carried b p l := by
  obtain ⟨⟨hl, hg⟩, ⟨s1, s2, s3⟩, g1, g2, g3⟩ := stt_zero.1 h
  have hchk : chk b = 0 := chk_zero.2 ⟨hl, hg⟩
  rcases ha with rfl | ⟨j, hj, hhi, _, rfl⟩ | ⟨j, hj, h2, _, rfl⟩
  · exact ⟨by simp, trivial⟩
  · -- a generator that helps
    obtain ⟨hjl, ⟨⟨b1, b2, b3⟩, b4, b5, b6⟩, _⟩ := hj
    have hjp : j < p.Sources.length := by omega
    obtain ⟨q1, q2, q3⟩ := bk_spec hg.1 hjl
    have hcj : (conn b p (j : Int)).2 = false := by
      cases hcc : (conn b p (j : Int)).2 with
      | false => rfl
      | true =>
        exfalso
        obtain ⟨i, hi, e1, e2⟩ := mem_bus.1 b4
        refine b5 (mem_src.2 ⟨j, hjl, hcc, ?_, rfl⟩)
        rw [conn_src hjp q1 q2 q3] at hcc ⊢
        split at hcc
        · rename_i hcd
          rw [if_pos hcd, e2, Int.toNat_natCast]
          exact e1
        · cases hcc
    unfold startA
    by_cases hs0 : (gt p.Sources j).State = 0
    · rw [if_pos hs0]
      obtain ⟨o1, o2, o3⟩ := st_ok hp h hjl (s := 1) (.inr rfl) hcj
      refine ⟨by simp, stP p j 1, ?_, o1, o2, o3, trivial⟩
      unfold dynposlaw19_carry
      have e0 : ((gt p.Sources j).State != 0) = false := by rw [hs0]; rfl
      simp only [show ((3 : Int) == 6) = false from rfl, show ((3 : Int) == 1) = false from rfl, show ((3 : Int) == 2) = false from rfl, show ((3 : Int) == 3) = true from rfl, Bool.false_eq_true, if_false, if_true, dF (show ¬ (j : Int) < 0 by omega), dF (show ¬ (j : Int) ≥ len p.Sources by unfold len; omega), Option.bind_some, refcopyv_eq hp, idx_gt hjp, e0, setO_nat hjp, Sum.elim_inl]
      rfl
    rw [if_neg hs0]
    by_cases hs2 : (gt p.Sources j).State = 2
    case neg => rw [if_neg hs2]; exact ⟨by simp, trivial⟩
    rw [if_pos hs2]
    -- the leader
    have hne := hhi.2.1
    have hpos := List.length_pos_iff.2 hne
    have hmem := gt_mem hpos
    obtain ⟨m, hmj, hmc, _, em⟩ := mem_src.1 hmem
    rw [em] at hmem
    obtain ⟨c1, c2⟩ := src_conn h hmem
    have hbd := conn_bd hg.1 c1
    have hlead : lead b p k = ((m : Int), true) := by
      unfold lead
      rw [ofB_in' h k0 k1, if_neg hne, em]
    have hcB : connB b p (m : Int) = conn b p (m : Int) := by unfold connB; rw [if_pos h]
    have hmp : m < p.Sources.length := by omega
    have hjm : ¬ (m : Int) = (j : Int) := fun e => b5 (e ▸ hmem)
    have hla := (lead_of h k0 k1 hbd.1 hbd.2 c2).trans hlead
    have hmat := refmatch_eq hb hp h hjl hbd.1 hbd.2 hs2 hla hmp hcj
    have hgm := good_mat hp h hf hjp hmp
    have how : ownL b p j = [(j : Int)] := by unfold ownL; rw [hcj]; rfl
    have gj : gt (matP b p j m).Sources j = like (gt p.Sources j) (gt p.Sources m) := by rw [mat_gt h hjp, how, if_pos (by simp)]
    have gm : gt (matP b p j m).Sources m = gt p.Sources m := by rw [mat_gt h hjp, how, if_neg (by simpa using hjm)]
    -- its breaker
    have hA := brk_B hg.1 q1
    have hAi : isleOf b p (gt b.Breakers (bk b j)).A = isleOf b p k := by
      obtain ⟨i, hi, e1, e2⟩ := mem_bus.1 b4
      show isle b p (gt (grp b p) (gt b.Breakers (bk b j)).A.toNat).toNat = _
      rw [e2, Int.toNat_natCast, e1, Int.toNat_natCast]
      rfl
    have hlA := (lead_of h k0 k1 hA.1.1 (by have := hA.1.2; omega) hAi).trans hlead
    have hlA2 : lead b (matP b p j m) (gt b.Breakers (bk b j)).A = ((m : Int), true) := (lead_likeP (p := p) (q := matP b p j m) h hgm.st rfl mat_len (fun x _ => mat_state h hjp x) _).trans hlA
    have hopen : gt p.Closed (bk b j) = false := by
      cases hcc : gt p.Closed (bk b j) with
      | false => rfl
      | true =>
        rw [conn_src hjp q1 q2 q3, if_pos ⟨hs2, hcc⟩] at hcj
        cases hcj
    have hsnd : SndB b (matP b p j m) (bk b j) := by
      refine ⟨hopen, b2, b3, ?_⟩
      rw [if_neg (by rw [q2.1]; decide), if_pos q2.1, q2.2, Int.toNat_natCast]
      exact ⟨b1, (mat_state h hjp j).trans hs2⟩
    have hagr : agr b (gt (matP b p j m).Sources m) (gt (matP b p j m).Sources j) := by
      rw [gj, gm]
      have hrm := g2 m hmp
      obtain ⟨_, ⟨ph0, ph1⟩, ⟨fr0, fr1⟩, _⟩ := hg
      have hd : dif (gt p.Sources m).Phase (like (gt p.Sources j) (gt p.Sources m)).Phase = 0 := by
        show dif (gt p.Sources m).Phase (gt p.Sources m).Phase = 0
        unfold dif
        split <;> omega
      have hfq : (like (gt p.Sources j) (gt p.Sources m)).Frequency = (gt p.Sources m).Frequency := rfl
      unfold agr
      rw [hd, hfq]
      unfold RunOk at hrm
      omega
    have hclo := refclose_eq hb hgm.sm hgm.st hjl hsnd hlA2 (by rw [mat_len]; exact hmp) hagr
    have hsyn : SynB b (matP b p j m) (bk b j) := fun _ => by
      rw [if_neg (by rw [q2.1]; decide), if_pos q2.1, hlA2, q2.2, Int.toNat_natCast, Int.toNat_natCast]
      exact hagr
    have hgc := good_close hgm.sm hgm.st hgm.fo q1 hsnd (.inr hsyn)
    refine ⟨by simp, matP b p j m, ?_, hgm.sm, hgm.st, hgm.ok, folP b (clP (matP b p j m) (bk b j)), ?_, hgc.sm, hgc.st, hgc.ok, trivial⟩
    · unfold dynposlaw19_carry
      simp only [show ((6 : Int) == 6) = true from rfl, if_true, hlead, hcB, hmat, Option.bind_some]
    · unfold dynposlaw19_carry
      simp only [show ((1 : Int) == 6) = false from rfl, show ((1 : Int) == 1) = true from rfl, Bool.false_eq_true, if_false, if_true, hclo, Option.bind_some]
  · -- one that is stopped
    obtain ⟨hjl, hm, hbk, _⟩ := hj
    have hjp : j < p.Sources.length := by omega
    obtain ⟨q1, q2, q3⟩ := bk_spec hg.1 hjl
    obtain ⟨c1, c2⟩ := src_conn h hm
    have hsc : (gt p.Sources j).State = 2 ∧ gt p.Closed (bk b j) = true := by
      rw [conn_src hjp q1 q2 q3] at c1
      split at c1
      · assumption
      · cases c1
    have hbc : bk b j < p.Closed.length := by omega
    have hop := refopen_eq hb hp h q1 hsc.2 hbk
    have hgo := good_open hp h hf hbc
    have hcl : gt (opP p (bk b j)).Closed (bk b j) = false := by
      show gt (p.Closed.set (bk b j) false) (bk b j) = false
      rw [gt_set hbc, if_pos rfl]
    have hcj : (conn b (opP p (bk b j)) (j : Int)).2 = false := by
      rw [conn_src (p := opP p (bk b j)) hjp q1 q2 q3, if_neg (fun hh => by rw [hcl] at hh; cases hh.2)]
    obtain ⟨o1, o2, o3⟩ := st_ok hgo.sm hgo.st hjl (s := 0) (.inl rfl) hcj
    refine ⟨by simp, opP p (bk b j), ?_, hgo.sm, hgo.st, hgo.ok, stP (opP p (bk b j)) j 0, ?_, o1, o2, o3, trivial⟩
    · unfold dynposlaw19_carry
      simp only [show ((2 : Int) == 6) = false from rfl, show ((2 : Int) == 1) = false from rfl, show ((2 : Int) == 2) = true from rfl, Bool.false_eq_true, if_false, if_true, hop, Option.bind_some]
    · unfold dynposlaw19_carry
      have hjo : j < (opP p (bk b j)).Sources.length := hjp
      have hbo : bk b j < (opP p (bk b j)).Closed.length := by show bk b j < (p.Closed.set (bk b j) false).length; rw [List.length_set]; exact hbc
      have e0 : ((gt (opP p (bk b j)).Sources j).State != 2) = false := by
        show ((gt p.Sources j).State != 2) = false
        rw [hsc.1]; rfl
      simp only [show ((4 : Int) == 6) = false from rfl, show ((4 : Int) == 1) = false from rfl, show ((4 : Int) == 2) = false from rfl, show ((4 : Int) == 3) = false from rfl, show ((4 : Int) == 4) = true from rfl, Bool.false_eq_true, if_false, if_true, dF (show ¬ (j : Int) < 0 by omega), dF (show ¬ (j : Int) ≥ len (opP p (bk b j)).Sources by unfold len; omega), Option.bind_some, refcopyv_eq hgo.sm, idx_gt hjo, e0, refFind_eq hb hchk hjl, idx_oneP, idx_gt hbo, hcl, setO_nat hjo, Sum.elim_inl]
      rfl

abbrev WP := Int × Int × Int × Int × Int × Int × (List Int) × Int × (List Breaker) × (List Source) × (List Consumer) × (List Bool) × (List Running) × (List Int) × (List Part)
theorem poss_in (hb : SmB b) (hp : SmP p) (h : stt b p = 0) {x2 : WP} (hB : Board.mk x2.1 x2.2.2.2.2.2.2.2.2.1 x2.2.2.2.2.2.2.2.2.2.1 x2.2.2.2.2.2.2.2.2.2.2.1 x2.2.1 x2.2.2.1 = b) {x6 : Int × Int × Int × List Act} (h2 : x6.2.2.2.length ≤ 2) (hc : Carried b p x6.2.2.2) :
    Wp (loopO (dynposlaw19_RosterPossible_L2 x2 x6) (0, p.Closed, p.Sources, p.Limits, p.Broken)) fun r => ∃ y, r = .inl y := by
  generalize hl : x6.2.2.2 = l at *
  refine wp_upto (step := dynposlaw19_RosterPossible_L2 x2 x6) l.length (fun k s => ∃ q : Power, s = ((k : Int), q.Closed, q.Sources, q.Limits, q.Broken) ∧ SmP q ∧ stt b q = 0 ∧ Carried b q (l.drop k)) ⟨p, rfl, hp, h, hc⟩ ?_ ?_ (by omega)
  · rintro k s hk ⟨q, rfl, hq, hq0, hqc⟩
    have hd : l.drop k = l[k] :: l.drop (k + 1) := List.drop_eq_getElem_cons hk
    rw [hd] at hqc
    obtain ⟨r, e1, r1, r2, r3, r4⟩ := hqc
    have pw : (⟨q.Closed, q.Sources, q.Limits, q.Broken⟩ : Power) = q := rfl
    have pr : (⟨r.Closed, r.Sources, r.Limits, r.Broken⟩ : Power) = r := rfl
    have hi : idx l (k : Int) = some l[k] := by rw [idx_nat]; simp [hk]
    simp only [dynposlaw19_RosterPossible_L2, hl, lt_len hk, if_true, hi, Option.bind_some, hB, pw, e1, bne_self_eq_false, Bool.false_eq_true, if_false, pr, refbad_no hb hq r1 hq0 r2 r3, W_succ (show k < 1000000000000000000 by omega)]
    exact wp_some.2 ⟨r, rfl, r1, r2, r4⟩
  · rintro s ⟨q, rfl, _⟩
    simp only [dynposlaw19_RosterPossible_L2, hl, nlt_len, Bool.false_eq_true, if_false]
    exact wp_some.2 ⟨_, rfl⟩
theorem poss_out (hb : SmB b) (hp : SmP p) (h : stt b p = 0) (hf : folL b p = p.Sources) {t : Table} (hv : vT t) {x2 : WP} (hB : Board.mk x2.1 x2.2.2.2.2.2.2.2.2.1 x2.2.2.2.2.2.2.2.2.2.1 x2.2.2.2.2.2.2.2.2.2.2.1 x2.2.1 x2.2.2.1 = b) (hn : x2.1 = b.Buses)
    (hT : Table.mk x2.2.2.2.1 x2.2.2.2.2.1 x2.2.2.2.2.2.1 = t) (hP : Power.mk x2.2.2.2.2.2.2.2.2.2.2.2.1 x2.2.2.2.2.2.2.2.2.2.2.2.2.1 x2.2.2.2.2.2.2.2.2.2.2.2.2.2.1 x2.2.2.2.2.2.2.2.2.2.2.2.2.2.2 = p) {l : List Int} {a : Int} (hs : Sr l a) :
    Wp (loopO (dynposlaw19_RosterPossible_L1 x2) (0, l, a)) fun r => ∃ y, r = .inl y := by
  obtain ⟨⟨hl, hg⟩, ⟨s1, s2, s3⟩, _⟩ := stt_zero.1 h
  obtain ⟨n, hnn⟩ := Int.eq_ofNat_of_zero_le (show 0 ≤ b.Buses by have := hl.bus; omega)
  have hnn : b.Buses = (n : Int) := hnn
  have hn6 : n ≤ 6 := by have := hl.bus; omega
  refine wp_upto (step := dynposlaw19_RosterPossible_L1 x2) n (fun k s => ∃ l a, Sr l a ∧ s = ((k : Int), l, a)) ⟨l, a, hs, rfl⟩ ?_ ?_ (by omega)
  · rintro k s hk ⟨l, a, hs, rfl⟩
    have k0 : 0 ≤ (k : Int) := by omega
    have k1 : (k : Int) < b.Buses := by omega
    have hlt : decide ((k : Int) < x2.1) = true := dT (by rw [hn]; exact k1)
    simp only [dynposlaw19_RosterPossible_L1, hlt, if_true]
    refine (wpRange hs (lo := -1) (hi := 10) (by omega) (by omega) (by omega) (by omega)).bind fun x4 h4 => ?_
    refine (wpRange h4.2 (lo := -1) (hi := 10) (by omega) (by omega) (by omega) (by omega)).bind fun x5 h5 => ?_
    rw [hB, hT, hP]
    refine (wpStep hb hp h hv k0 k1 (tm := 10) (by omega) (by omega) (r := ⟨x4.1, x5.1⟩) (by dsimp only; omega)).bind fun x6 h6 => ?_
    obtain ⟨c1, c2⟩ := carried_acts hb hp h hf k0 k1 h6.2.1
    have hlen : ¬ len x6.2.2.2 > 2 := by unfold len; omega
    simp only [h6.1, bne_self_eq_false, Bool.false_eq_true, if_false, dF hlen, Option.bind_some]
    obtain ⟨y, e, z, rfl⟩ := poss_in hb hp h hB c1 c2
    have e' : loopO (dynposlaw19_RosterPossible_L2 x2 x6) (0, x2.2.2.2.2.2.2.2.2.2.2.2.1, x2.2.2.2.2.2.2.2.2.2.2.2.2.1, x2.2.2.2.2.2.2.2.2.2.2.2.2.2.1, x2.2.2.2.2.2.2.2.2.2.2.2.2.2.2) = some (.inl z) := by
      rw [← e, ← hP]
    rw [e']
    simp only [Option.bind_some, Sum.elim_inl, W_succ (show k < 1000000000000000000 by omega)]
    exact wp_some.2 ⟨_, _, h5.2, rfl⟩
  · rintro s ⟨l, a, hs, rfl⟩
    have hlt : decide ((n : Int) < x2.1) = false := dF (by rw [hn]; omega)
    simp only [dynposlaw19_RosterPossible_L1, hlt, Bool.false_eq_true, if_false]
    exact wp_some.2 ⟨_, rfl⟩
end
theorem law_RosterPossible (t : List Int) : dynposlaw19_RosterPossible t = some true := by
  unfold dynposlaw19_RosterPossible
  obtain ⟨⟨l, a⟩, e0, hs⟩ := wpNew t
  obtain ⟨r, e1, b, tb, p, l1, a1, rfl, hb, hv, hs1, hp, h0, hf⟩ := wpWorld hs
  obtain ⟨x, e2, y, rfl⟩ := poss_out hb.sm hp h0 hf hv (x2 := (b.Buses, b.Phase, b.Frequency, tb.Start, tb.Stop, tb.Delay, l1, a1, b.Breakers, b.Sources, b.Consumers, p.Closed, p.Sources, p.Limits, p.Broken)) rfl rfl rfl rfl hs1
  simp only [e0, e1, Option.bind_some, e2, Sum.elim_inl, sane19p]
end Rx
end Go.Proofs.Ytkcjbcmpnoaghaa
