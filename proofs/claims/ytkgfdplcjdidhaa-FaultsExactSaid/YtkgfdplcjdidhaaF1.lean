/- Lists in order: stable insertion, leaving out what is there already; scripts of faults: what is broken at a time. Plain laws, no program in sight. -/
import Derived.Test.YtkgfdplcjdidhaaMs0
set_option linter.unusedVariables false
set_option linter.unusedSimpArgs false
namespace Go.Proofs.Ytkgfdplcjdidhaa
open Go Go.RowKit Dp
namespace Rx

/-! lists in order -/
section
variable {α : Type} (key : α → Int)
/-- ascending, each once -/
def Asc (l : List α) : Prop := l.Pairwise (fun a b => key a < key b)
variable {key}
theorem Asc.inj {l : List α} (h : Asc key l) : ∀ {x y : α}, x ∈ l → y ∈ l → key x = key y → x = y := by
  induction l with
  | nil => intro x y hx; cases hx
  | cons a l ih =>
    intro x y hx hy he
    have h' := List.pairwise_cons.1 h
    rcases List.mem_cons.1 hx with hx | hx <;> rcases List.mem_cons.1 hy with hy | hy
    · rw [hx, hy]
    · exact absurd (h'.1 _ hy) (by rw [← hx]; omega)
    · exact absurd (h'.1 _ hx) (by rw [← hy]; omega)
    · exact ih h'.2 hx hy he
theorem asc_ext : ∀ {l m : List α}, Asc key l → Asc key m → (∀ x, x ∈ l ↔ x ∈ m) → l = m := by
  intro l
  induction l with
  | nil =>
    intro m _ _ he
    cases m with
    | nil => rfl
    | cons b m => exact (List.not_mem_nil ((he b).2 List.mem_cons_self)).elim
  | cons a l ih =>
    intro m hl hm he
    cases m with
    | nil => exact (List.not_mem_nil ((he a).1 List.mem_cons_self)).elim
    | cons b m =>
      have hl' := List.pairwise_cons.1 hl
      have hm' := List.pairwise_cons.1 hm
      have hab : a = b := by
        rcases List.mem_cons.1 ((he a).1 List.mem_cons_self) with h | h
        · exact h
        · rcases List.mem_cons.1 ((he b).2 List.mem_cons_self) with h2 | h2
          · exact h2.symm
          · have h3 := hm'.1 _ h
            have h4 := hl'.1 _ h2
            omega
      subst hab
      congr 1
      refine ih hl'.2 hm'.2 fun x => ⟨fun hx => ?_, fun hx => ?_⟩
      · rcases List.mem_cons.1 ((he x).1 (List.mem_cons_of_mem _ hx)) with h | h
        · subst h; have := hl'.1 _ hx; omega
        · exact h
      · rcases List.mem_cons.1 ((he x).2 (List.mem_cons_of_mem _ hx)) with h | h
        · subst h; have := hm'.1 _ hx; omega
        · exact h
theorem Asc.filter {l : List α} (h : Asc key l) (p : α → Bool) : Asc key (l.filter p) := List.Pairwise.filter p h
theorem Asc.sub {l m : List α} (h : Asc key l) (hs : List.Sublist m l) : Asc key m := List.Pairwise.sublist hs h
theorem Asc.nodup {l : List α} (h : Asc key l) : l.Nodup := h.imp fun {a b} hab he => by subst he; omega
theorem nodup_le {l m : List α} (hl : l.Nodup) : (∀ x ∈ l, x ∈ m) → l.length ≤ m.length := by
  induction l generalizing m with
  | nil => intro _; simp
  | cons a l ih =>
    intro h
    have h' := List.nodup_cons.1 hl
    obtain ⟨s, t, rfl⟩ := List.append_of_mem (h a List.mem_cons_self)
    have := ih (m := s ++ t) h'.2 fun x hx => by
      have hxa : x ≠ a := fun he => h'.1 (he ▸ hx)
      have := h x (List.mem_cons_of_mem _ hx)
      simp only [List.mem_append, List.mem_cons] at this ⊢
      rcases this with h | h | h
      · exact .inl h
      · exact (hxa h).elim
      · exact .inr h
    simp only [List.length_append, List.length_cons] at this ⊢
    omega
variable (key)
/-- into a list turned round, ahead of all with the same key -/
def insR (x : α) : List α → List α
  | [] => [x]
  | y :: r => if key x < key y then y :: insR x r else x :: y :: r
/-- the rest put into a list turned round, one after the other -/
def srtR : List α → List α → List α
  | acc, [] => acc
  | acc, x :: r => srtR (insR key x acc) r
/-- sorted, equal keys in their order -/
def srt (l : List α) : List α := (srtR key [] l).reverse
/-- without those whose key was just there -/
def ddp : Int → List α → List α
  | _, [] => []
  | k, y :: r => if key y = k then ddp k r else y :: ddp (key y) r
def dd : List α → List α
  | [] => []
  | x :: r => x :: ddp key (key x) r
variable {key}
theorem insR_len (x : α) (r : List α) : (insR key x r).length = r.length + 1 := by
  induction r with
  | nil => rfl
  | cons y r ih => unfold insR; split <;> simp [ih]
theorem insR_mem {x z : α} {r : List α} : z ∈ insR key x r ↔ z = x ∨ z ∈ r := by
  induction r with
  | nil => simp [insR]
  | cons y r ih =>
    unfold insR
    split
    · simp only [List.mem_cons, ih]
      constructor
      · rintro (h | h | h)
        · exact .inr (.inl h)
        · exact .inl h
        · exact .inr (.inr h)
      · rintro (h | h | h)
        · exact .inr (.inl h)
        · exact .inl h
        · exact .inr (.inr h)
    · simp [List.mem_cons]
theorem insR_srt {x : α} {r : List α} (h : r.Pairwise (fun a b => key b ≤ key a)) : (insR key x r).Pairwise (fun a b => key b ≤ key a) := by
  induction r with
  | nil => simp [insR]
  | cons y r ih =>
    have h' := List.pairwise_cons.1 h
    unfold insR
    split
    · rename_i hlt
      refine List.pairwise_cons.2 ⟨fun z hz => ?_, ih h'.2⟩
      rcases insR_mem.1 hz with rfl | hz
      · omega
      · exact h'.1 _ hz
    · rename_i hlt
      refine List.pairwise_cons.2 ⟨fun z hz => ?_, h⟩
      rcases List.mem_cons.1 hz with rfl | hz
      · omega
      · have := h'.1 _ hz; omega
theorem insR_filter {x : α} {r : List α} (k : Int) : (insR key x r).filter (fun z => decide (key z = k)) = (x :: r).filter (fun z => decide (key z = k)) := by
  induction r with
  | nil => rfl
  | cons y r ih =>
    unfold insR
    split
    · rename_i hlt
      rw [List.filter_cons, ih]
      by_cases hx : key x = k
      · have hy : ¬ key y = k := by omega
        simp [List.filter_cons, hx, hy]
      · simp [List.filter_cons, hx]
    · rfl
theorem srtR_len (l acc : List α) : (srtR key acc l).length = acc.length + l.length := by
  induction l generalizing acc with
  | nil => rfl
  | cons x l ih => unfold srtR; rw [ih, insR_len]; simp only [List.length_cons]; omega
theorem srtR_mem {z : α} {l acc : List α} : z ∈ srtR key acc l ↔ z ∈ acc ∨ z ∈ l := by
  induction l generalizing acc with
  | nil => simp [srtR]
  | cons x l ih =>
    unfold srtR
    rw [ih, insR_mem, List.mem_cons]
    constructor
    · rintro ((h | h) | h)
      · exact .inr (.inl h)
      · exact .inl h
      · exact .inr (.inr h)
    · rintro (h | h | h)
      · exact .inl (.inr h)
      · exact .inl (.inl h)
      · exact .inr h
theorem srtR_srt {l acc : List α} (h : acc.Pairwise (fun a b => key b ≤ key a)) : (srtR key acc l).Pairwise (fun a b => key b ≤ key a) := by
  induction l generalizing acc with
  | nil => exact h
  | cons x l ih => exact ih (insR_srt h)
theorem srtR_filter {l acc : List α} (k : Int) : (srtR key acc l).filter (fun z => decide (key z = k)) = (l.filter (fun z => decide (key z = k))).reverse ++ acc.filter (fun z => decide (key z = k)) := by
  induction l generalizing acc with
  | nil => rfl
  | cons x l ih =>
    unfold srtR
    rw [ih, insR_filter]
    by_cases hx : key x = k <;> simp [List.filter_cons, hx]
theorem srt_len (l : List α) : (srt key l).length = l.length := by unfold srt; rw [List.length_reverse, srtR_len]; simp
theorem srt_mem {z : α} {l : List α} : z ∈ srt key l ↔ z ∈ l := by unfold srt; rw [List.mem_reverse, srtR_mem]; simp
theorem srt_srt (l : List α) : (srt key l).Pairwise (fun a b => key a ≤ key b) := by
  unfold srt
  rw [List.pairwise_reverse]
  exact srtR_srt List.Pairwise.nil
theorem srt_filter (l : List α) (k : Int) : (srt key l).filter (fun z => decide (key z = k)) = l.filter (fun z => decide (key z = k)) := by
  unfold srt
  rw [List.filter_reverse, srtR_filter]
  simp
theorem ddp_mem {z : α} : ∀ {l : List α} {k : Int}, z ∈ ddp key k l → z ∈ l := by
  intro l
  induction l with
  | nil => intro k h; exact h
  | cons y l ih =>
    intro k h
    unfold ddp at h
    split at h
    · exact List.mem_cons_of_mem _ (ih h)
    · rcases List.mem_cons.1 h with rfl | h
      · exact List.mem_cons_self
      · exact List.mem_cons_of_mem _ (ih h)
/-- what is left of a sorted list is ascending, all behind k -/
theorem ddp_asc : ∀ {l : List α} {k : Int}, l.Pairwise (fun a b => key a ≤ key b) → (∀ z ∈ l, k ≤ key z) → Asc key (ddp key k l) ∧ ∀ z ∈ ddp key k l, k < key z := by
  intro l
  induction l with
  | nil => intro k _ _; exact ⟨List.Pairwise.nil, fun z hz => by cases hz⟩
  | cons y l ih =>
    intro k h hk
    have h' := List.pairwise_cons.1 h
    unfold ddp
    split
    · exact ih h'.2 fun z hz => hk z (List.mem_cons_of_mem _ hz)
    · rename_i hy
      have hky := hk y List.mem_cons_self
      have := ih (k := key y) h'.2 h'.1
      refine ⟨List.pairwise_cons.2 ⟨this.2, this.1⟩, fun z hz => ?_⟩
      rcases List.mem_cons.1 hz with rfl | hz
      · omega
      · have := this.2 z hz; omega
/-- the first one of each key stays -/
theorem ddp_head : ∀ {l : List α} {k : Int}, l.Pairwise (fun a b => key a ≤ key b) → (∀ z ∈ l, k ≤ key z) → ∀ z ∈ ddp key k l, (l.filter (fun w => decide (key w = key z))).head? = some z := by
  intro l
  induction l with
  | nil => intro k _ _ z hz; cases hz
  | cons y l ih =>
    intro k h hk z hz
    have h' := List.pairwise_cons.1 h
    have h2 := ddp_asc h hk
    have hkz := h2.2 z hz
    unfold ddp at hz
    split at hz
    · rename_i hy
      have := ih h'.2 (fun w hw => hk w (List.mem_cons_of_mem _ hw)) z hz
      rw [List.filter_cons, if_neg (by simp; omega)]
      exact this
    · rename_i hy
      rcases List.mem_cons.1 hz with rfl | hz
      · simp [List.filter_cons]
      · have h3 := (ddp_asc (k := key y) h'.2 h'.1).2 z hz
        rw [List.filter_cons, if_neg (by simp; omega)]
        exact ih h'.2 h'.1 z hz
theorem ddp_all : ∀ {l : List α} {k : Int}, ∀ z ∈ l, key z = k ∨ ∃ w ∈ ddp key k l, key w = key z := by
  intro l
  induction l with
  | nil => intro k z hz; cases hz
  | cons y l ih =>
    intro k z hz
    unfold ddp
    split
    · rename_i hy
      rcases List.mem_cons.1 hz with rfl | hz
      · exact .inl hy
      · exact ih z hz
    · rename_i hy
      rcases List.mem_cons.1 hz with rfl | hz
      · exact .inr ⟨_, List.mem_cons_self, rfl⟩
      · rcases ih (k := key y) z hz with h | ⟨w, hw, he⟩
        · exact .inr ⟨_, List.mem_cons_self, h.symm⟩
        · exact .inr ⟨w, List.mem_cons_of_mem _ hw, he⟩
/-- ascending; each the first one of its key; each key -/
structure Col (key : α → Int) (xs out : List α) : Prop where
  asc : Asc key out
  head : ∀ y ∈ out, (xs.filter (fun z => decide (key z = key y))).head? = some y
  all : ∀ x ∈ xs, ∃ y ∈ out, key y = key x
theorem dd_col (l : List α) (h : l.Pairwise (fun a b => key a ≤ key b)) : Col key l (dd key l) := by
  cases l with
  | nil => exact ⟨List.Pairwise.nil, (fun y hy => by cases hy), (fun y hy => by cases hy)⟩
  | cons x r =>
    have h' := List.pairwise_cons.1 h
    have h2 := ddp_asc (k := key x) h'.2 h'.1
    refine ⟨List.pairwise_cons.2 ⟨h2.2, h2.1⟩, fun y hy => ?_, fun y hy => ?_⟩
    · rcases List.mem_cons.1 hy with rfl | hy
      · simp [List.filter_cons]
      · have h3 := h2.2 y hy
        rw [List.filter_cons, if_neg (by simp; omega)]
        exact ddp_head h'.2 h'.1 y hy
    · rcases List.mem_cons.1 hy with rfl | hy
      · exact ⟨_, List.mem_cons_self, rfl⟩
      · rcases ddp_all (k := key x) y hy with h | ⟨w, hw, he⟩
        · exact ⟨_, List.mem_cons_self, h.symm⟩
        · exact ⟨w, List.mem_cons_of_mem _ hw, he⟩
theorem col_srt (l : List α) : Col key l (dd key (srt key l)) := by
  have h := dd_col (srt key l) (srt_srt l)
  refine ⟨h.asc, fun y hy => ?_, fun x hx => h.all x (srt_mem.2 hx)⟩
  have := h.head y hy
  rwa [srt_filter] at this
theorem Col.sub {xs out : List α} (h : Col key xs out) : ∀ y ∈ out, y ∈ xs := fun y hy => by
  have := List.mem_of_mem_head? (h.head y hy)
  exact (List.mem_filter.1 this).1
theorem Col.len {xs out : List α} (h : Col key xs out) : out.length ≤ xs.length := nodup_le h.asc.nodup h.sub
/-- where no two have the same key, all are there -/
theorem Col.mem {xs out : List α} (h : Col key xs out) (hi : ∀ x ∈ xs, ∀ y ∈ xs, key x = key y → x = y) (x : α) : x ∈ out ↔ x ∈ xs := by
  refine ⟨h.sub x, fun hx => ?_⟩
  obtain ⟨y, hy, he⟩ := h.all x hx
  rw [← hi y (h.sub y hy) x hx he]
  exact hy
theorem dd_len : ∀ (l : List α), (dd key l).length ≤ l.length := by
  have h : ∀ (l : List α) (k : Int), (ddp key k l).length ≤ l.length := by
    intro l
    induction l with
    | nil => intro k; simp [ddp]
    | cons y l ih =>
      intro k
      unfold ddp
      split
      · have := ih k; simp only [List.length_cons]; omega
      · have := ih (key y); simp only [List.length_cons]; omega
  intro l
  cases l with
  | nil => simp [dd]
  | cons x r => have := h r (key x); simp only [dd, List.length_cons]; omega
theorem ins_run {step : Int × List α → Option ((Int × List α) ⊕ List α)} {G : α → Prop}
    (s0 : ∀ d, step (0, d) = some (.inr d))
    (s1 : ∀ (a : List α) (y x : α) (b : List α), a.length + b.length ≤ 1000 → G y → G x → step (((a.length + 1 : Nat) : Int), a ++ y :: x :: b) = if key x < key y then some (.inl ((a.length : Int), a ++ x :: y :: b)) else some (.inr (a ++ y :: x :: b))) :
    ∀ (r : List α) (x : α) (b : List α), r.length + b.length ≤ 1000 → (∀ z ∈ r, G z) → G x → ∃ k, k ≤ r.length ∧ Runs step k ((r.length : Int), r.reverse ++ x :: b) ((insR key x r).reverse ++ b) := by
  intro r
  induction r with
  | nil => intro x b _ _ _; exact ⟨0, Nat.le_refl _, .done (s0 _)⟩
  | cons y r ih =>
    intro x b hl hr hx
    have hs := s1 r.reverse y x b (by simp at hl ⊢; omega) (hr y List.mem_cons_self) hx
    rw [List.length_reverse] at hs
    have e1 : (y :: r).reverse ++ x :: b = r.reverse ++ y :: x :: b := by simp
    rw [e1]
    by_cases hlt : key x < key y
    · obtain ⟨k, hk, hrun⟩ := ih x (y :: b) (by simp at hl ⊢; omega) (fun z hz => hr z (List.mem_cons_of_mem _ hz)) hx
      rw [if_pos hlt] at hs
      refine ⟨k + 1, by simp; omega, ?_⟩
      have e2 : (insR key x (y :: r)).reverse ++ b = (insR key x r).reverse ++ y :: b := by
        rw [insR, if_pos hlt]; simp
      rw [e2]
      exact .more hs hrun
    · rw [if_neg hlt] at hs
      refine ⟨0, Nat.zero_le _, ?_⟩
      have e2 : (insR key x (y :: r)).reverse ++ b = r.reverse ++ y :: x :: b := by
        rw [insR, if_neg hlt]; simp
      rw [e2]
      exact .done hs
theorem srt_run {step : Int × List α → Option ((Int × List α) ⊕ List α)} {G : α → Prop} {n : Nat} (hn : n ≤ 1000)
    (s1 : ∀ (r : List α) (x : α) (b : List α), r.length + 1 + b.length = n → (∀ z ∈ r, G z) → G x → step ((r.length : Int), r.reverse ++ x :: b) = some (.inl (((r.length + 1 : Nat) : Int), (insR key x r).reverse ++ b)))
    (s2 : ∀ d, step ((n : Int), d) = some (.inr d)) :
    ∀ (b r : List α), r.length + b.length = n → (∀ z ∈ r, G z) → (∀ z ∈ b, G z) → Runs step b.length ((r.length : Int), r.reverse ++ b) (srtR key r b).reverse := by
  intro b
  induction b with
  | nil =>
    intro r hl _ _
    have : r.length = n := by simpa using hl
    rw [this, List.append_nil]
    exact .done (s2 _)
  | cons x b ih =>
    intro r hl hr hb
    have h := s1 r x b (by simp at hl; omega) hr (hb x List.mem_cons_self)
    have := ih (insR key x r) (by rw [insR_len]; simp at hl; omega) (fun z hz => (insR_mem.1 hz).elim (fun e => e ▸ hb _ List.mem_cons_self) (hr z)) (fun z hz => hb z (List.mem_cons_of_mem _ hz))
    rw [insR_len] at this
    exact .more h this
end

end Rx
end Go.Proofs.Ytkgfdplcjdidhaa
