/- A part of a proof: functions of the program, walked. -/
import Derived.Test.YtbciecmoadjigaaL11Base
set_option linter.unusedVariables false
set_option linter.unusedSimpArgs false
namespace Go.Proofs.Ytbciecmoadjigaa
open Go Go.Proofs Go.Proofs.YtbciecmoadjigaaVm

section
variable {α : Type} (key : α → List UInt8)
/-- What is sorted by a key. -/
def gSorted (l : List α) : Prop := l.Pairwise fun a b => slt (key a) (key b)
def gBelow (k : List UInt8) : List α → Nat
  | [] => 0
  | p :: r => if slt (key p) k then gBelow k r + 1 else 0
def gGet (l : List α) (k : List UInt8) : Option α := l.find? fun p => decide (key p = k)
def gLow (l : List α) (k : List UInt8) : List α := l.filter fun p => decide (slt (key p) k)
def gHigh (l : List α) (k : List UInt8) : List α := l.filter fun p => decide (slt k (key p))
theorem gBelow_le (k : List UInt8) : ∀ l : List α, gBelow key k l ≤ l.length
  | [] => Nat.le_refl _
  | p :: r => by unfold gBelow; split <;> simp; exact gBelow_le k r
theorem gBelow_lt {k : List UInt8} : ∀ (l : List α) (i : Nat) (x : α), i < gBelow key k l → l[i]? = some x → slt (key x) k
  | p :: r, i, x, hi, hx => by
    unfold gBelow at hi
    split at hi
    · cases i with
      | zero => simp at hx; subst hx; assumption
      | succ i => exact gBelow_lt r i x (by omega) (by simpa using hx)
    · omega
theorem gBelow_ge {k : List UInt8} : ∀ (l : List α), gSorted key l → ∀ (i : Nat) (x : α), gBelow key k l ≤ i → l[i]? = some x → ¬ slt (key x) k
  | p :: r, h, i, x, hi, hx => by
    cases h with
    | cons h1 h2 =>
      unfold gBelow at hi
      split at hi
      · cases i with
        | zero => omega
        | succ i => exact gBelow_ge r h2 i x (by omega) (by simpa using hx)
      · rename_i hn
        cases i with
        | zero => simp at hx; subst hx; exact hn
        | succ i =>
          have h3 := h1 x (List.mem_of_getElem? (i := i) (by simpa using hx))
          exact fun hc => hn (slt_trans h3 hc)
theorem gGet_mem {l : List α} {k : List UInt8} {p : α} (h : gGet key l k = some p) : p ∈ l ∧ key p = k := by
  unfold gGet at h
  exact ⟨List.mem_of_find?_eq_some h, by simpa using List.find?_some h⟩
theorem gGet_of_mem {l : List α} (hs : gSorted key l) {p : α} (h : p ∈ l) : gGet key l (key p) = some p := by
  unfold gGet
  induction l with
  | nil => cases h
  | cons q r ih =>
    cases hs with
    | cons h1 h2 =>
      rw [List.find?_cons]
      rcases List.mem_cons.1 h with rfl | h
      · simp
      · have := h1 p h
        have hne : ¬ key q = key p := fun e => slt_irrefl (key p) (by rw [e] at this; exact this)
        simp [hne, ih h2 h]
theorem gGet_iff {l : List α} (hs : gSorted key l) {k : List UInt8} {p : α} : gGet key l k = some p ↔ p ∈ l ∧ key p = k :=
  ⟨gGet_mem key, fun ⟨h, e⟩ => by rw [← e]; exact gGet_of_mem key hs h⟩
theorem gBelow_find {k : List UInt8} : ∀ (l : List α), gSorted key l → ∀ x, (l[gBelow key k l]? = some x ∧ key x = k) ↔ gGet key l k = some x
  | [], _, x => by simp [gBelow, gGet]
  | p :: r, h, x => by
    cases h with
    | cons h1 h2 =>
      unfold gBelow gGet
      by_cases hk : slt (key p) k
      · have hne : ¬ key p = k := fun e => slt_irrefl k (by rw [e] at hk; exact hk)
        rw [if_pos hk, List.find?_cons, decide_eq_false hne]
        simpa [gGet] using gBelow_find r h2 x
      · rw [if_neg hk, List.find?_cons]
        by_cases he : key p = k
        · simp [he]
          rintro rfl; exact he
        · have hr : r.find? (fun p => decide (key p = k)) = none := by
            rw [List.find?_eq_none]
            intro y hy
            have h3 := h1 y hy
            simp
            rintro rfl
            exact hk h3
          simp [he, hr]
          rintro rfl; exact he
theorem gExt : ∀ (a b : List α), gSorted key a → gSorted key b → (∀ p, p ∈ a ↔ p ∈ b) → a = b
  | [], [], _, _, _ => rfl
  | [], q :: b, _, _, h => absurd ((h q).2 List.mem_cons_self) (by simp)
  | p :: a, [], _, _, h => absurd ((h p).1 List.mem_cons_self) (by simp)
  | p :: a, q :: b, ha, hb, h => by
    cases ha with
    | cons a1 a2 =>
      cases hb with
      | cons b1 b2 =>
        have e : p = q := by
          rcases List.mem_cons.1 ((h p).1 List.mem_cons_self) with e | e
          · exact e
          · rcases List.mem_cons.1 ((h q).2 List.mem_cons_self) with e' | e'
            · exact e'.symm
            · exact absurd (slt_trans (b1 p e) (a1 q e')) (slt_irrefl _)
        subst e
        congr 1
        refine gExt a b a2 b2 fun x => ⟨fun hx => ?_, fun hx => ?_⟩
        · rcases List.mem_cons.1 ((h x).1 (List.mem_cons_of_mem _ hx)) with rfl | e
          · exact absurd (a1 x hx) (slt_irrefl _)
          · exact e
        · rcases List.mem_cons.1 ((h x).2 (List.mem_cons_of_mem _ hx)) with rfl | e
          · exact absurd (b1 x hx) (slt_irrefl _)
          · exact e
theorem gGet_ext {a b : List α} (ha : gSorted key a) (hb : gSorted key b) (h : ∀ k, gGet key a k = gGet key b k) : a = b := by
  refine gExt key a b ha hb fun p => ?_
  constructor
  · intro hp
    exact (gGet_mem key ((h (key p)).symm.trans (gGet_of_mem key ha hp))).1
  · intro hp
    exact (gGet_mem key ((h (key p)).trans (gGet_of_mem key hb hp))).1
theorem gLow_eq {k : List UInt8} : ∀ (l : List α), gSorted key l → gLow key l k = l.take (gBelow key k l)
  | [], _ => rfl
  | p :: r, hs => by
    cases hs with
    | cons h1 h2 =>
      unfold gLow gBelow
      by_cases hk : slt (key p) k
      · rw [if_pos hk, List.filter_cons, if_pos (by simpa using hk), List.take_succ_cons, ← gLow_eq r h2]; rfl
      · rw [if_neg hk, List.take_zero, List.filter_eq_nil_iff]
        intro y hy
        rcases List.mem_cons.1 hy with rfl | hy
        · simpa using hk
        · have := h1 y hy
          simp
          exact fun hc => hk (slt_trans this hc)
theorem gHigh_eq {k : List UInt8} : ∀ (l : List α), gSorted key l → gHigh key l k = (match gGet key l k with | some _ => l.drop (gBelow key k l + 1) | none => l.drop (gBelow key k l))
  | [], _ => rfl
  | p :: r, hs => by
    cases hs with
    | cons h1 h2 =>
      have ih := gHigh_eq (k := k) r h2
      unfold gHigh gGet at ih
      unfold gHigh gGet gBelow
      by_cases hk : slt (key p) k
      · have hne : ¬ key p = k := fun e => slt_irrefl k (by rw [e] at hk; exact hk)
        rw [if_pos hk, List.filter_cons, if_neg (by simpa using slt_asymm hk), List.find?_cons, decide_eq_false hne, ih]
        cases r.find? (fun p => decide (key p = k)) <;> simp
      · by_cases he : key p = k
        · subst he
          rw [if_neg hk, List.filter_cons, if_neg (by simpa using hk), List.find?_cons]
          simp
          intro y hy
          exact h1 y hy
        · have hgt : slt k (key p) := by
            rcases slt_total (key p) k with h | h | h
            · exact absurd h hk
            · exact absurd h he
            · exact h
          have hnone : (p :: r).find? (fun p => decide (key p = k)) = none := by
            rw [List.find?_eq_none]
            intro y hy
            rcases List.mem_cons.1 hy with rfl | hy
            · simpa using he
            · have := h1 y hy
              simp
              rintro rfl
              exact slt_irrefl _ (slt_trans hgt this)
          rw [hnone, if_neg hk]
          simp only [List.drop_zero]
          rw [List.filter_eq_self]
          intro y hy
          rcases List.mem_cons.1 hy with rfl | hy
          · simpa using hgt
          · simpa using slt_trans hgt (h1 y hy)
/-- Something put in the place of its key. -/
def gPut (l : List α) (y : α) : List α := gLow key l (key y) ++ [y] ++ gHigh key l (key y)
theorem gPut_sorted {l : List α} (hs : gSorted key l) (y : α) : gSorted key (gPut key l y) := by
  unfold gPut gSorted
  have hl : ∀ a ∈ gLow key l (key y), slt (key a) (key y) := fun a ha => by simpa using (List.mem_filter.1 ha).2
  have hh : ∀ a ∈ gHigh key l (key y), slt (key y) (key a) := fun a ha => by simpa using (List.mem_filter.1 ha).2
  rw [List.pairwise_append, List.pairwise_append]
  refine ⟨⟨hs.filter _, List.pairwise_singleton _ _, fun a ha b hb => ?_⟩, hs.filter _, fun a ha b hb => ?_⟩
  · simp at hb; subst hb; exact hl a ha
  · rcases List.mem_append.1 ha with ha | ha
    · exact slt_trans (hl a ha) (hh b hb)
    · simp at ha; subst ha; exact hh b hb
theorem gPut_get {l : List α} (hs : gSorted key l) (y : α) (k : List UInt8) : gGet key (gPut key l y) k = if k = key y then some y else gGet key l k := by
  have ho := gPut_sorted key hs y
  apply Option.ext
  intro v
  rw [gGet_iff key ho]
  unfold gPut gLow gHigh
  rw [List.mem_append, List.mem_append, List.mem_filter, List.mem_filter]
  simp only [decide_eq_true_eq, List.mem_singleton]
  by_cases hk : k = key y
  · subst hk
    rw [if_pos rfl]
    have := slt_irrefl (key y)
    constructor
    · rintro ⟨(h | h) | h, e⟩
      · exact absurd h.2 (by rw [e]; exact this)
      · rw [h]
      · exact absurd h.2 (by rw [e]; exact this)
    · intro h
      cases h
      exact ⟨.inl (.inr rfl), rfl⟩
  · rw [if_neg hk, gGet_iff key hs]
    constructor
    · rintro ⟨(h | h) | h, e⟩
      · exact ⟨h.1, e⟩
      · exact absurd (by rw [← e, h]) hk
      · exact ⟨h.1, e⟩
    · rintro ⟨h, e⟩
      refine ⟨?_, e⟩
      rcases slt_total (key v) (key y) with c | c | c
      · exact .inl (.inl ⟨h, c⟩)
      · exact absurd (by rw [← e]; exact c) hk
      · exact .inr ⟨h, c⟩
theorem gPut_some {l : List α} (hs : gSorted key l) {y p : α} (h : gGet key l (key y) = some p) : gPut key l y = l.set (gBelow key (key y) l) y := by
  have h1 := gLow_eq key (k := key y) l hs
  have h2 := gHigh_eq key (k := key y) l hs
  rw [h] at h2
  have hb := (gBelow_find key l hs p).2 h
  have hlt := (List.getElem?_eq_some_iff.1 hb.1).1
  unfold gPut
  rw [h1, h2, List.set_eq_take_append_cons_drop, if_pos hlt]
  simp
theorem gPut_none {l : List α} (hs : gSorted key l) {y : α} (h : gGet key l (key y) = none) : gPut key l y = l.take (gBelow key (key y) l) ++ [y] ++ l.drop (gBelow key (key y) l) := by
  have h1 := gLow_eq key (k := key y) l hs
  have h2 := gHigh_eq key (k := key y) l hs
  rw [h] at h2
  unfold gPut
  rw [h1, h2]
theorem gPut_len {l : List α} (hs : gSorted key l) (y : α) : (gPut key l y).length ≤ l.length + 1 := by
  cases h : gGet key l (key y) with
  | some p => rw [gPut_some key hs h]; simp
  | none => rw [gPut_none key hs h]; simp; omega
end
end Go.Proofs.Ytbciecmoadjigaa
