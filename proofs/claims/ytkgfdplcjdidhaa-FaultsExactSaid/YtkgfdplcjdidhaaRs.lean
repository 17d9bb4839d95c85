/- Each operation does what opQ says: strings, bytes, slices that may be nil. Nothing here names a program. -/
import Derived.Test.YtkgfdplcjdidhaaRk
import Derived.Lib.ConvBytes
import Derived.Laws.BytesString
import Derived.Laws.Cover3
set_option linter.unusedVariables false
set_option linter.unusedSimpArgs false
set_option linter.unusedSectionVars false
namespace Go.Proofs.Ytkgfdplcjdidhaa
open Go Go.RowKit Dp

namespace Rx

section
variable {D : Nat → Type} [∀ n, Rep (D n)]
variable {P : Program} {T : Tab D} {Qx : Exit → Act → World → Prop} {U : Nat → Prop} {nid : Nat} {γ : Gh D} {w : World} {sl : List (Nat × AV D)} {L : List (Nat × Value)} {ob : List (Nat × Option (AO D))}
  {d : Option Tmp} {ty : TypeId} {pos : String} {af : Array Edge} {gd : Option (Nat × Bool)} {e : Eff D} {l : List Nat}

theorem OW.lenStr [Rd] {t : TypeId} {s : ByteArray} {o : Operand} (hu : P.underlying t = some .string) (hx : ev L o = some (.string s)) :
    OW P Qx L ⟨d, .call { callee := .builtin .len, args := #[o], argTypes := #[t] }, ty, pos, af, gd⟩ w (fun v' w' => v' = .int .i64 (sLen s) ∧ w' = w) := by
  refine OW.run fun a ha => ⟨_, w, ?_, rfl, rfl⟩
  simp [execOp, resolve, invoke, builtin, Builtin.len_, run_underlying hu, ha _ _ hx, goInt, sLen]
theorem OW.idxStr [Rd] {t : TypeId} {s : ByteArray} {x i : Operand} {j c : Int} (hu : P.underlying t = some .string) (hx : ev L x = some (.string s)) (hi : ev L i = some (.int .i64 j)) (hc : sIdx s j = some c) :
    OW P Qx L ⟨d, .index t x i, ty, pos, af, gd⟩ w (fun v' w' => v' = .int .u8 c ∧ w' = w) := by
  refine OW.run fun a ha => ⟨_, w, ?_, rfl, rfl⟩
  unfold sIdx at hc
  split at hc
  case isFalse => cases hc
  rename_i h0
  split at hc
  case h_2 => cases hc
  rename_i b hb
  cases hc
  have hb' : s[j.toNat]? = some b := hb
  simp [execOp, Instr.index, asIntOf, run_underlying hu, ha _ _ hx, ha _ _ hi, h0, hb']
theorem nilEq_ok [Rd] {t te t2 : TypeId} (hu : P.underlying t = some (.slice te)) (hx : Cx U nid γ w sl L ob) {op : BinOp} {x y : Operand} {n : Nat} {xs : List (D n)} {K : List Nat} {g : Nat} {p : Bool} (ha : evO sl x = some (.c (.one (.vb n xs K g p)))) (hb : evO sl y = some (.c (.one .nils)))
    (h : Q.R ob (match op with | .eql => okE (bv p (nid + 16)) | .neq => okE (bv (bnot p) (nid + 16)) | _ => Q.fail) l e) :
    OW P Qx L ⟨d, .binOp op t x y t2, ty, pos, af, gd⟩ w (fun v w' => ∃ γ', Post U nid γ w ob e γ' v w') := by
  obtain ⟨u, h1, h2⟩ := evO_ok hx.sr ha
  obtain ⟨v, h3, h4⟩ := evO_ok hx.sr hb
  have h4 : v = .slice none 0 0 := h4
  subst h4
  obtain ⟨q, cap, rfl, _⟩ := rv_list h2.1.1
  have hp : p = isNilV (.slice q xs.length cap) := h2.2
  have hr := run_equal_slice_nil (P := P) w t te q xs.length cap hu
  have hq : q.isNone = p := by rw [hp]; cases q <;> rfl
  rw [hq] at hr
  have he : (binOp .eql t (.slice q xs.length cap) (.slice none 0 0)).run P w = .ok (.bool p) w := by
    simp only [binOp, Sem.run_bind, hr, Result.andThen, Sem.run_pure]
  have hn : (binOp .neq t (.slice q xs.length cap) (.slice none 0 0)).run P w = .ok (.bool (!p)) w := by
    simp only [binOp, Sem.run_bind, hr, Result.andThen, Sem.run_pure]
  split at h
  · obtain ⟨_, rfl⟩ := h
    exact OWpost (OW.binRun h1 h3 (by simp [eqGuard]) he) (postL hx rfl)
  · obtain ⟨_, rfl⟩ := h
    exact OWpost (OW.binRun h1 h3 (by simp [eqGuard]) hn) (postL hx rfl)
  · exact (h : False).elim

/-! bytes -/
theorem lv_one {n : Nat} (h : T.lv n = [.int .u8]) (x : D n) : T.out n x = [⟨.int .u8, unU T n h x⟩] := by
  unfold Tab.out unU
  generalize T.outH n x = y
  revert y h
  generalize T.lv n = l
  intro h
  subst h
  intro y
  rfl
theorem un_mk (hR : RepOk T) {n : Nat} (h : T.lv n = [.int .u8]) (b : Int) : unU T n h (mkU T n h b) = b := by
  unfold unU mkU
  rw [hR.mkh]
  have : ∀ (l : List Lf) (e : l = [.int .u8]) (y : HL D [.int .u8]), (e ▸ (e.symm ▸ y : HL D l) : HL D [.int .u8]) = y := by
    intro l e y
    subst e
    rfl
  exact this _ h b
theorem rd_u8 (hR : RepOk T) {n : Nat} (h : T.lv n = [.int .u8]) {S : Nat → Prop} {cs : List Value} {x : D n} : Rep.rd S w cs x ↔ cs = [.int .u8 (unU T n h x)] := by
  rw [hR.rd, lv_one h]
  constructor
  · intro h
    match cs, h with
    | [v], h => rw [show v = .int .u8 _ from h.1]
    | [], h => exact h.elim
    | _ :: _ :: _, h => exact h.2.elim
  · rintro rfl
    exact ⟨rfl, trivial⟩
theorem bytes_ok [Rd] (hR : RepOk T) (hx : Cx U nid γ w sl L ob) {s t te : TypeId} {n : Nat} {o : Operand} {x : ByteArray} {xs : List (D n)} (hs : P.underlying s = some .string) (ht : P.underlying t = some (.slice te)) (hte : P.underlying te = some (.int .u8)) (hlv : T.lv n = [.int .u8])
    (h1 : ev L o = some (.string x)) (hxs : sBys (mkU T n hlv) x = some xs) :
    OW P Qx L ⟨d, .convert s t o, ty, pos, af, gd⟩ w (fun v w' => ∃ γ', Post U nid γ w ob ⟨.c (.one (.v (.sl n) xs [1] (nid + 16))), [], []⟩ γ' v w') := by
  unfold sBys at hxs
  split at hxs
  case isFalse => cases hxs
  rename_i hsz
  cases hxs
  refine OW.run fun a ha => ⟨.slice (some ⟨w.heap.size, 0, none⟩) x.size (grownCap w x.size 0 te), Lib.bytesWorld w te x, by simp only [execOp, ha _ _ h1, Sem.run_bind, Lib.run_convert_string_bytes w s t te x hs ht hte, Result.andThen, Sem.run_pure], ?_⟩
  have hev : Evo [] [nid] γ.o w (grow γ.o w nid) (Lib.bytesWorld w te x) := by
    refine ⟨rfl, rfl, rfl, ?_, fun b hb => by simp [grow, hb], fun b h1 _ => by simp [grow, Nat.not_lt.2 h1], fun b hb _ => Lib.bytesWorld_at_old w te x b hb⟩
    rw [Lib.bytesWorld_size]
    omega
  have hge := grownCap_ge w x.size 0 te
  have hle := grownCap_le_maxLen w x.size 0 te (by unfold maxLen; omega)
  have hnf : ∀ {i : Nat}, U i → i ≠ nid := fun hi h => hx.fresh nid (Nat.le_refl _) (by omega) (h ▸ hi)
  have hlen : x.data.toList.length = x.size := by rw [Array.length_toList]; rfl
  have hrv : Rv (In (fun b => rel [(nid, 1)] (grow γ.o w nid b)) [1]) (Lib.bytesWorld w te x) (.slice (some ⟨w.heap.size, 0, none⟩) x.size (grownCap w x.size 0 te)) ((x.data.toList.map fun b => mkU T n hlv (b.toNat : Int)) : List (D n)) := by
    refine ⟨[_], rfl, some ⟨w.heap.size, 0, none⟩, _, by rw [List.length_map, hlen], by rw [List.length_map, hlen]; exact hge, hle, .inr ⟨_, x.data.toList.map fun b => [Value.int .u8 (b.toNat : Int)], rfl, ?_, ?_, ?_⟩⟩
    · show rel [(nid, 1)] (grow γ.o w nid w.heap.size) ∈ [1]
      rw [grow_new _ _ _ _ (Nat.le_refl _)]
      simp [rel, lookN]
    · induction x.data.toList with
      | nil => trivial
      | cons b l ih => exact ⟨(rd_u8 hR hlv).2 (by rw [un_mk hR]), ih⟩
    · intro j u hj
      have hfl : ∀ (l : List UInt8), (l.map fun b => [Value.int .u8 (b.toNat : Int)]).flatten = l.map fun b => Value.int .u8 (b.toNat : Int) := by
        intro l
        induction l with
        | nil => rfl
        | cons b l ih => simp only [List.map_cons, List.flatten_cons, ih]; rfl
      rw [hfl, List.getElem?_map] at hj
      cases hb : x.data.toList[j]? with
      | none => rw [hb] at hj; cases hj
      | some b =>
        rw [hb] at hj
        cases hj
        have hjl : j < x.size := by rw [← hlen]; exact (List.getElem?_eq_some_iff.1 hb).1
        have := Lib.bytesWorld_cell w te x j hjl
        rw [show (Addr.mk w.heap.size 0 none).add j = ⟨w.heap.size, j, none⟩ from by simp [Addr.add]; try omega, this]
        simp [List.getD, hb]
  refine ⟨_, mkPost (M := []) (N := [nid]) (ps := [(nid, 1)]) (g' := γ.g) (v' := nms γ.v (nid + 16) [⟨.sl n, x.data.toList.map fun b => mkU T n hlv (b.toNat : Int)⟩]) hx.ob hev (by simp) (by simp) ?_ hx.big (fun _ _ => rfl) (fun i hi => nms_keep hx (by simp) hi) ?_ (fun j x hj => by simp [lookN] at hj)⟩
  · intro p hp
    simp only [List.mem_singleton] at hp
    subst hp
    exact ⟨hx.big, fun h => (hnf h rfl).elim, .inl rfl⟩
  · exact ⟨hrv, named1 (γ := γ) (i := 0) rfl (by omega) rfl, fun x hx => by simp at hx; omega⟩
theorem string_ok [Rd] (hR : RepOk T) (hx : Cx U nid γ w sl L ob) {s t se : TypeId} {n : Nat} {o : Operand} {xs : List (D n)} {v : Value} {S : Nat → Prop} (hs : P.underlying s = some (.slice se)) (hse : P.underlying se = some (.int .u8)) (ht : P.underlying t = some .string) (hlv : T.lv n = [.int .u8])
    (h1 : ev L o = some v) (hv : Els S w v xs) :
    OW P Qx L ⟨d, .convert s t o, ty, pos, af, gd⟩ w (fun v w' => ∃ γ', Post U nid γ w ob ⟨.c (.one (.v .str (bysS (unU T n hlv) xs) [] (nid + 16))), [], []⟩ γ' v w') := by
  obtain ⟨p, cap, rfl, hel⟩ := hv
  have hb : ∀ (q : Option Addr) (h0 : xs = []), (Conv.bytesToString (.slice q xs.length cap)).run P w = .ok (.string (bysS (unU T n hlv) xs)) w := by
    intro q h0
    subst h0
    cases q with
    | none => simp [Conv.bytesToString, bysS, Sem.run_pure]
    | some a => exact run_bytesToString w a 0 cap [] (by simp [loadCells, loadCellsFrom])
  have hc : (Conv.bytesToString (.slice p xs.length cap)).run P w = .ok (.string (bysS (unU T n hlv) xs)) w := by
    rcases hel with h0 | ⟨a, css, rfl, hr, hcell⟩
    · exact hb p h0
    · have hfl : ∀ {css : List (List Value)} {xs : List (D n)}, All2 (Rep.rd S w) css xs → css.flatten = (xs.map (unU T n hlv)).map (Value.int .u8) := by
        intro css
        induction css with
        | nil => intro xs h; cases xs with
          | nil => rfl
          | cons _ _ => exact h.elim
        | cons c css ih => intro xs h; cases xs with
          | nil => exact h.elim
          | cons x xs =>
            have h1 := (rd_u8 hR hlv).1 h.1
            subst h1
            simp only [List.flatten_cons, ih h.2, List.map_cons]
            rfl
      have hfl := hfl hr
      have hl := run_loadCells_list (P := P) w a css.flatten hcell
      rw [hfl] at hl
      simp only [List.length_map] at hl
      exact run_bytesToString w a xs.length cap _ hl
  refine OWpost (v := .string (bysS (unU T n hlv) xs)) (OW.run fun a ha => ⟨_, w, ?_, rfl, rfl⟩) (postL hx rfl)
  simp only [execOp, ha _ _ h1, Sem.run_bind, run_convert_bytes_string w s t se p xs.length cap hs hse ht, hc, Result.andThen, Sem.run_pure]
end
end Rx
end Go.Proofs.Ytkgfdplcjdidhaa
