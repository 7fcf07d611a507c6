/- A part of a proof: functions of the program, walked. -/
import Derived.Test.YtbciecmoadjigaaL11D3
import Derived.Test.YtbciecmoadjigaaL11B2
set_option linter.unusedVariables false
set_option linter.unusedSimpArgs false
namespace Go.Proofs.Ytbciecmoadjigaa
open Go Go.Proofs Go.Proofs.YtbciecmoadjigaaVm Go.Proofs.Ytbciecmoadjigaa.Ty

/-- Rising strings: from a place on. -/
theorem risesFrom_iff : ∀ (l : List (List UInt8)) (last : Option (List UInt8)), risesFrom last l ↔ (∀ k, last = some k → ∀ s ∈ l, slt k s) ∧ l.Pairwise slt
  | [], last => by simp [risesFrom]
  | s :: r, last => by
    rw [risesFrom, risesFrom_iff r, List.pairwise_cons]
    constructor
    · rintro ⟨h1, h2, h3⟩
      refine ⟨fun k hk x hx => ?_, fun x hx => h2 _ rfl x hx, h3⟩
      rcases List.mem_cons.1 hx with rfl | hx
      · exact h1 k hk
      · exact slt_trans (h1 k hk) (h2 _ rfl x hx)
    · rintro ⟨h1, h2, h3⟩
      exact ⟨fun k hk => h1 k hk s List.mem_cons_self, fun k hk x hx => by cases hk; exact h2 x hx, h3⟩
theorem risesOk_iff (l : List (List UInt8)) : risesOk l ↔ l.Pairwise slt := by
  unfold risesOk; rw [risesFrom_iff]; simp
/-- A list rises when each is less than the next. -/
theorem pair_next {α : Type} {key : α → List UInt8} : ∀ (l : List α), (∀ i x y, l[i]? = some x → l[i + 1]? = some y → slt (key x) (key y)) → gSorted key l
  | [], _ => List.Pairwise.nil
  | [_], _ => List.pairwise_singleton _ _
  | a :: b :: r, h => by
    have ih := pair_next (key := key) (b :: r) fun i x y hx hy => h (i + 1) x y (by simpa using hx) (by simpa using hy)
    have hab := h 0 a b rfl rfl
    refine List.pairwise_cons.2 ⟨fun z hz => ?_, ih⟩
    rcases List.mem_cons.1 hz with rfl | hz
    · exact hab
    · exact slt_trans hab ((List.pairwise_cons.1 ih).1 z hz)
theorem next_pair {α : Type} {key : α → List UInt8} {l : List α} (h : gSorted key l) {i : Nat} {x y : α} (hx : l[i]? = some x) (hy : l[i + 1]? = some y) : slt (key x) (key y) := by
  obtain ⟨h1, e1⟩ := List.getElem?_eq_some_iff.1 hx
  obtain ⟨h2, e2⟩ := List.getElem?_eq_some_iff.1 hy
  have := List.pairwise_iff_getElem.1 h i (i + 1) h1 h2 (by omega)
  rw [e1, e2] at this; exact this

set_option maxRecDepth 4000 in
set_option maxHeartbeats 8000000 in
theorem ref11_Right (l : List Note) (hl : l.length ≤ 1000000) : Ct Try.prog 14 (YtbciecmoadjigaaVm.ops [.row (l.map Note.pv)]) (.vals [.bool (decide (waitOk l))]) := by
  have h01 : ((0 : Nat) : Int) + 1 = 1 := rfl
  refine Ct.of_V Try.func14 rfl (by simp [YtbciecmoadjigaaVm.ops, Try.f14]) ?_
  refine V.exec 400 ?_
  simp (config := {contextual := true}) only [go_sem, ↓reduceIte, reduceCtorEq, Bool.false_eq_true, Bool.true_eq_false, Nat.reduceAdd, Nat.reduceLT, Nat.reduceEqDiff, Nat.reduceLeDiff, Nat.reduceSub, Nat.reduceMul, Try.f14]
  refine V.call rfl rfl (by simp [dOK]) ⟨32, [], by simp only [go_sem, ↓reduceIte, reduceCtorEq, Bool.false_eq_true, Bool.true_eq_false, Nat.reduceAdd, Nat.reduceLT, Nat.reduceEqDiff, Nat.reduceLeDiff, Nat.reduceSub, Nat.reduceMul], ⟨_, rfl, rfl, rfl⟩, .inl ⟨[.row (l.map Note.pv)], _, .inl (by simp only [go_sem, ↓reduceIte, reduceCtorEq, Bool.false_eq_true, Bool.true_eq_false, Nat.reduceAdd, Nat.reduceLT, Nat.reduceEqDiff, Nat.reduceLeDiff, Nat.reduceSub, Nat.reduceMul]), ref09_All l (by omega), .inl ⟨_, rfl, rfl, rfl, rfl⟩⟩⟩ ?_
  refine V.exec 400 ?_
  simp (config := {contextual := true}) only [go_sem, ↓reduceIte, reduceCtorEq, Bool.false_eq_true, Bool.true_eq_false, Nat.reduceAdd, Nat.reduceLT, Nat.reduceEqDiff, Nat.reduceLeDiff, Nat.reduceSub, Nat.reduceMul]
  refine V.loop (fun m ls os => ∃ (i : Nat), (i ≤ l.length ∨ i = 0) ∧ m = l.length - i ∧ (∀ j, j < i → ∀ x y, l[j]? = some x → l[j + 1]? = some y → slt x.key y.key) ∧
        ls = [(0, .val (.row (l.map Note.pv))), (3, .val (.bool (decide (notesOk' l)))), (4, .val (.int .i64 (i + 1 : Nat)))] ∧ os = []) 0 l.length
      [(0, .val (.row (l.map Note.pv))), (3, .val (.bool (decide (notesOk' l)))), (4, .val (.int .i64 1))] [] []
      ⟨0, .inr rfl, rfl, fun j hj => absurd hj (by omega), rfl, rfl⟩ (by simp only [go_sem, ↓reduceIte, reduceCtorEq, Bool.false_eq_true, Bool.true_eq_false, Nat.reduceAdd, Nat.reduceLT, Nat.reduceEqDiff, Nat.reduceLeDiff, Nat.reduceSub, Nat.reduceMul]) ?_
  rintro m ls os ⟨i, hi, rfl, hall, rfl, rfl⟩
  refine V.exec 400 ?_
  by_cases hlt : i + 1 < l.length
  · have hlt' : ((i + 1 : Nat) : Int) < (l.length : Int) := by omega
    obtain ⟨x, hx⟩ : ∃ x, l[i]? = some x := ⟨_, List.getElem?_eq_getElem (by omega)⟩
    obtain ⟨y, hy⟩ : ∃ x, l[i + 1]? = some x := ⟨_, List.getElem?_eq_getElem hlt⟩
    have hw : IntKind.i64.wrap (((i + 1 : Nat) : Int) + 1) = ((i + 1 + 1 : Nat) : Int) := by rw [wrap_small3] <;> omega
    have hw2 : IntKind.i64.wrap (((i + 1 : Nat) : Int) - 1) = (i : Int) := by rw [wrap_small3] <;> omega
    by_cases hs : slt x.key y.key
    · simp (config := {contextual := true}) only [go_sem, ↓reduceIte, reduceCtorEq, Bool.false_eq_true, Bool.true_eq_false, Nat.reduceAdd, Nat.reduceLT, Nat.reduceEqDiff, Nat.reduceLeDiff, Nat.reduceSub, Nat.reduceMul, hlt', hx, hy, Note.pv, hw, hw2, hs]
      refine ⟨by kernel_rfl, l.length - (i + 1), _, [], [], by omega, ⟨i + 1, .inl (by omega), rfl, fun j hj x' y' h1 h2 => ?_, rfl, rfl⟩, by simp only [go_sem, ↓reduceIte, reduceCtorEq, Bool.false_eq_true, Bool.true_eq_false, Nat.reduceAdd, Nat.reduceLT, Nat.reduceEqDiff, Nat.reduceLeDiff, Nat.reduceSub, Nat.reduceMul]⟩
      rcases Nat.lt_or_ge j i with hji | hji
      · exact hall j hji x' y' h1 h2
      · obtain rfl : j = i := by omega
        rw [hx] at h1; rw [hy] at h2
        cases h1; cases h2
        exact hs
    · have hn : ¬ waitOk l := fun h => hs (next_pair ((waitOk_iff l).1 h).1 hx hy)
      simp (config := {contextual := true}) only [go_sem, ↓reduceIte, reduceCtorEq, Bool.false_eq_true, Bool.true_eq_false, Nat.reduceAdd, Nat.reduceLT, Nat.reduceEqDiff, Nat.reduceLeDiff, Nat.reduceSub, Nat.reduceMul, hlt', hx, hy, Note.pv, hw, hw2, hs, hn]
      kernel_rfl
  · have hlt' : ¬ ((i + 1 : Nat) : Int) < (l.length : Int) := by omega
    have hs : gSorted Note.key l := pair_next l fun j x y hx hy => hall j (by have := (List.getElem?_eq_some_iff.1 hy).1; omega) x y hx hy
    have he : waitOk l ↔ notesOk' l := by rw [waitOk_iff]; exact ⟨fun h => h.2, fun h => ⟨hs, h⟩⟩
    simp (config := {contextual := true}) only [go_sem, ↓reduceIte, reduceCtorEq, Bool.false_eq_true, Bool.true_eq_false, Nat.reduceAdd, Nat.reduceLT, Nat.reduceEqDiff, Nat.reduceLeDiff, Nat.reduceSub, Nat.reduceMul, hlt']
    simp [he]

set_option maxRecDepth 4000 in
set_option maxHeartbeats 8000000 in
theorem ref11_Rises (l : List (List UInt8)) (hl : l.length ≤ 1000000) : Ct Try.prog 19 (YtbciecmoadjigaaVm.ops [.row (l.map PV.str)]) (.vals [.bool (decide (risesOk l))]) := by
  have h01 : ((0 : Nat) : Int) + 1 = 1 := rfl
  refine Ct.of_V Try.func19 rfl (by simp [YtbciecmoadjigaaVm.ops, Try.f19]) ?_
  refine V.exec 400 ?_
  simp (config := {contextual := true}) only [go_sem, ↓reduceIte, reduceCtorEq, Bool.false_eq_true, Bool.true_eq_false, Nat.reduceAdd, Nat.reduceLT, Nat.reduceEqDiff, Nat.reduceLeDiff, Nat.reduceSub, Nat.reduceMul, Try.f19]
  refine V.loop (fun m ls os => ∃ (i : Nat), (i ≤ l.length ∨ i = 0) ∧ m = l.length - i ∧ (∀ j, j < i → ∀ x y, l[j]? = some x → l[j + 1]? = some y → slt x y) ∧
        ls = [(0, .val (.row (l.map PV.str))), (3, .val (.int .i64 (i + 1 : Nat)))] ∧ os = []) 0 l.length
      [(0, .val (.row (l.map PV.str))), (3, .val (.int .i64 1))] [] []
      ⟨0, .inr rfl, rfl, fun j hj => absurd hj (by omega), rfl, rfl⟩ (by simp only [go_sem, ↓reduceIte, reduceCtorEq, Bool.false_eq_true, Bool.true_eq_false, Nat.reduceAdd, Nat.reduceLT, Nat.reduceEqDiff, Nat.reduceLeDiff, Nat.reduceSub, Nat.reduceMul]) ?_
  rintro m ls os ⟨i, hi, rfl, hall, rfl, rfl⟩
  refine V.exec 400 ?_
  by_cases hlt : i + 1 < l.length
  · have hlt' : ((i + 1 : Nat) : Int) < (l.length : Int) := by omega
    obtain ⟨x, hx⟩ : ∃ x, l[i]? = some x := ⟨_, List.getElem?_eq_getElem (by omega)⟩
    obtain ⟨y, hy⟩ : ∃ x, l[i + 1]? = some x := ⟨_, List.getElem?_eq_getElem hlt⟩
    have hw : IntKind.i64.wrap (((i + 1 : Nat) : Int) + 1) = ((i + 1 + 1 : Nat) : Int) := by rw [wrap_small3] <;> omega
    have hw2 : IntKind.i64.wrap (((i + 1 : Nat) : Int) - 1) = (i : Int) := by rw [wrap_small3] <;> omega
    by_cases hs : slt x y
    · simp (config := {contextual := true}) only [go_sem, ↓reduceIte, reduceCtorEq, Bool.false_eq_true, Bool.true_eq_false, Nat.reduceAdd, Nat.reduceLT, Nat.reduceEqDiff, Nat.reduceLeDiff, Nat.reduceSub, Nat.reduceMul, hlt', hx, hy, hw, hw2, hs]
      refine ⟨by kernel_rfl, l.length - (i + 1), _, [], [], by omega, ⟨i + 1, .inl (by omega), rfl, fun j hj x' y' h1 h2 => ?_, rfl, rfl⟩, by simp only [go_sem, ↓reduceIte, reduceCtorEq, Bool.false_eq_true, Bool.true_eq_false, Nat.reduceAdd, Nat.reduceLT, Nat.reduceEqDiff, Nat.reduceLeDiff, Nat.reduceSub, Nat.reduceMul]⟩
      rcases Nat.lt_or_ge j i with hji | hji
      · exact hall j hji x' y' h1 h2
      · obtain rfl : j = i := by omega
        rw [hx] at h1; rw [hy] at h2
        cases h1; cases h2
        exact hs
    · have hn : ¬ risesOk l := fun h => hs (next_pair (key := id) ((risesOk_iff l).1 h) hx hy)
      simp (config := {contextual := true}) only [go_sem, ↓reduceIte, reduceCtorEq, Bool.false_eq_true, Bool.true_eq_false, Nat.reduceAdd, Nat.reduceLT, Nat.reduceEqDiff, Nat.reduceLeDiff, Nat.reduceSub, Nat.reduceMul, hlt', hx, hy, hw, hw2, hs, hn]
      kernel_rfl
  · have hlt' : ¬ ((i + 1 : Nat) : Int) < (l.length : Int) := by omega
    have hs : gSorted id l := pair_next (key := id) l fun j x y hx hy => hall j (by have := (List.getElem?_eq_some_iff.1 hy).1; omega) x y hx hy
    have he : risesOk l := (risesOk_iff l).2 hs
    simp (config := {contextual := true}) only [go_sem, ↓reduceIte, reduceCtorEq, Bool.false_eq_true, Bool.true_eq_false, Nat.reduceAdd, Nat.reduceLT, Nat.reduceEqDiff, Nat.reduceLeDiff, Nat.reduceSub, Nat.reduceMul, hlt', he, decide_true]

/-- Where a key belongs. -/
def partGo (k : List UInt8) (lows : List (List UInt8)) : Nat → Nat
  | 0 => 0
  | i + 1 => match lows[i]? with
    | some s => if slt k s then partGo k lows i else i
    | none => partGo k lows i
def partV (k : List UInt8) (lows : List (List UInt8)) : Nat := partGo k lows lows.length

set_option maxHeartbeats 4000000 in
theorem ref11_Part (k : List UInt8) (lows : List (List UInt8)) (hl : lows.length ≤ 1000000) : Ct Try.prog 35 (YtbciecmoadjigaaVm.ops [.str k, .row (lows.map PV.str)]) (.vals [.int .i64 (partV k lows)]) := by
  unfold partV
  refine Ct.of_V Try.func35 rfl (by simp [YtbciecmoadjigaaVm.ops, Try.f35]) ?_
  refine V.exec 400 ?_
  simp (config := {contextual := true}) only [go_sem, ↓reduceIte, reduceCtorEq, Bool.false_eq_true, Bool.true_eq_false, Nat.reduceAdd, Nat.reduceLT, Nat.reduceEqDiff, Nat.reduceLeDiff, Nat.reduceSub, Nat.reduceMul, Try.f35]
  refine V.loop (fun m ls os => ∃ (i : Nat), i ≤ lows.length ∧ m = lows.length - i ∧
        ls = [(0, .val (.str k)), (1, .val (.row (lows.map PV.str))), (5, .val (.int .i64 (partGo k lows i))), (6, .val (.int .i64 i))] ∧ os = []) 0 lows.length
      [(0, .val (.str k)), (1, .val (.row (lows.map PV.str))), (5, .val (.int .i64 0)), (6, .val (.int .i64 0))] [] []
      ⟨0, Nat.zero_le _, rfl, rfl, rfl⟩ (by simp only [go_sem, ↓reduceIte, reduceCtorEq, Bool.false_eq_true, Bool.true_eq_false, Nat.reduceAdd, Nat.reduceLT, Nat.reduceEqDiff, Nat.reduceLeDiff, Nat.reduceSub, Nat.reduceMul]) ?_
  rintro m ls os ⟨i, hi, rfl, rfl, rfl⟩
  refine V.exec 400 ?_
  by_cases hlt : i < lows.length
  · have hlt' : (i : Int) < (lows.length : Int) := by omega
    obtain ⟨x, hx⟩ : ∃ x, lows[i]? = some x := ⟨_, List.getElem?_eq_getElem hlt⟩
    have hw : IntKind.i64.wrap ((i : Int) + 1) = ((i + 1 : Nat) : Int) := by rw [wrap_small3] <;> omega
    by_cases hs : slt k x
    · have hn : partGo k lows (i + 1) = partGo k lows i := by simp [partGo, hx, hs]
      have hle : ¬ (slt x k ∨ x = k) := fun h => by
        rcases h with h | h
        · exact slt_asymm hs h
        · rw [h] at hs; exact slt_irrefl _ hs
      simp (config := {contextual := true}) only [go_sem, ↓reduceIte, reduceCtorEq, Bool.false_eq_true, Bool.true_eq_false, Nat.reduceAdd, Nat.reduceLT, Nat.reduceEqDiff, Nat.reduceLeDiff, Nat.reduceSub, Nat.reduceMul, hlt', hx, hw, hle]
      exact ⟨lows.length - (i + 1), _, [], [], by omega, ⟨i + 1, by omega, rfl, rfl, rfl⟩, by simp only [go_sem, ↓reduceIte, reduceCtorEq, Bool.false_eq_true, Bool.true_eq_false, Nat.reduceAdd, Nat.reduceLT, Nat.reduceEqDiff, Nat.reduceLeDiff, Nat.reduceSub, Nat.reduceMul, hn]⟩
    · have hn : partGo k lows (i + 1) = i := by simp [partGo, hx, hs]
      have hle : (slt x k ∨ x = k) := by
        rcases slt_total x k with h | h | h
        · exact .inl h
        · exact .inr h
        · exact absurd h hs
      simp (config := {contextual := true}) only [go_sem, ↓reduceIte, reduceCtorEq, Bool.false_eq_true, Bool.true_eq_false, Nat.reduceAdd, Nat.reduceLT, Nat.reduceEqDiff, Nat.reduceLeDiff, Nat.reduceSub, Nat.reduceMul, hlt', hx, hw, hle]
      exact ⟨lows.length - (i + 1), _, [], [], by omega, ⟨i + 1, by omega, rfl, rfl, rfl⟩, by simp only [go_sem, ↓reduceIte, reduceCtorEq, Bool.false_eq_true, Bool.true_eq_false, Nat.reduceAdd, Nat.reduceLT, Nat.reduceEqDiff, Nat.reduceLeDiff, Nat.reduceSub, Nat.reduceMul, hn]⟩
  · have hlt' : ¬ (i : Int) < (lows.length : Int) := by omega
    obtain rfl : i = lows.length := by omega
    simp (config := {contextual := true}) only [go_sem, ↓reduceIte, reduceCtorEq, Bool.false_eq_true, Bool.true_eq_false, Nat.reduceAdd, Nat.reduceLT, Nat.reduceEqDiff, Nat.reduceLeDiff, Nat.reduceSub, Nat.reduceMul, hlt']

set_option maxRecDepth 4000 in
set_option maxHeartbeats 8000000 in
theorem ref11_Split (l : List Note) (lows : List (List UInt8)) (a : Int) (hl : l.length ≤ 1000000) (hw : lows.length ≤ 1000000) :
    Ct Try.prog 20 (YtbciecmoadjigaaVm.ops [.row (l.map Note.pv), .row (lows.map PV.str), .int .i64 a]) (.vals [.row ((l.filter fun x => decide ((partV x.key lows : Int) = a)).map Note.pv)]) := by
  refine Ct.of_V Try.func20 rfl (by simp [YtbciecmoadjigaaVm.ops, Try.f20]) ?_
  refine V.exec 400 ?_
  simp (config := {contextual := true}) only [go_sem, ↓reduceIte, reduceCtorEq, Bool.false_eq_true, Bool.true_eq_false, Nat.reduceAdd, Nat.reduceLT, Nat.reduceEqDiff, Nat.reduceLeDiff, Nat.reduceSub, Nat.reduceMul, Try.f20]
  refine V.loop (fun m ls os => ∃ (i : Nat), i ≤ l.length ∧ m = l.length - i ∧
        ls = [(0, .val (.row (l.map Note.pv))), (1, .val (.row (lows.map PV.str))), (2, .val (.int .i64 a)), (7, .ref 0), (8, .val (.int .i64 i))] ∧ os = [.row 32 (((l.take i).filter fun x => decide ((partV x.key lows : Int) = a)).map Note.pv)]) 1 l.length
      [(0, .val (.row (l.map Note.pv))), (1, .val (.row (lows.map PV.str))), (2, .val (.int .i64 a)), (7, .ref 0), (8, .val (.int .i64 0))] [.row 32 []] [none]
      ⟨0, Nat.zero_le _, rfl, rfl, rfl⟩ (by simp only [go_sem, ↓reduceIte, reduceCtorEq, Bool.false_eq_true, Bool.true_eq_false, Nat.reduceAdd, Nat.reduceLT, Nat.reduceEqDiff, Nat.reduceLeDiff, Nat.reduceSub, Nat.reduceMul]; try decide) ?_
  rintro m ls os ⟨i, hi, rfl, rfl, rfl⟩
  refine V.exec 400 ?_
  by_cases hlt : i < l.length
  · have hlt' : (i : Int) < (l.length : Int) := by omega
    obtain ⟨x, hx⟩ : ∃ x, l[i]? = some x := ⟨_, List.getElem?_eq_getElem hlt⟩
    have hw2 : IntKind.i64.wrap ((i : Int) + 1) = ((i + 1 : Nat) : Int) := by rw [wrap_small3] <;> omega
    have hfl : ((l.take i).filter fun x => decide ((partV x.key lows : Int) = a)).length ≤ i := Nat.le_trans (List.length_filter_le _ _) (by simp; omega)
    have hst : (l.take (i + 1)).filter (fun x => decide ((partV x.key lows : Int) = a)) = (l.take i).filter (fun x => decide ((partV x.key lows : Int) = a)) ++ if (partV x.key lows : Int) = a then [x] else [] := by
      rw [List.take_add_one, hx, List.filter_append]
      congr 1
      by_cases h : (partV x.key lows : Int) = a <;> simp [h]
    generalize hY : (l.take i).filter (fun x => decide ((partV x.key lows : Int) = a)) = Y at *
    simp (config := {contextual := true}) only [go_sem, ↓reduceIte, reduceCtorEq, Bool.false_eq_true, Bool.true_eq_false, Nat.reduceAdd, Nat.reduceLT, Nat.reduceEqDiff, Nat.reduceLeDiff, Nat.reduceSub, Nat.reduceMul, hlt', hx, Note.pv]
    refine V.call rfl rfl (by simp [dOK]) ⟨35, [], by simp only [go_sem, ↓reduceIte, reduceCtorEq, Bool.false_eq_true, Bool.true_eq_false, Nat.reduceAdd, Nat.reduceLT, Nat.reduceEqDiff, Nat.reduceLeDiff, Nat.reduceSub, Nat.reduceMul], ⟨_, rfl, rfl, rfl⟩, .inl ⟨[.str x.key, .row (lows.map PV.str)], _, .inl (by simp only [go_sem, ↓reduceIte, reduceCtorEq, Bool.false_eq_true, Bool.true_eq_false, Nat.reduceAdd, Nat.reduceLT, Nat.reduceEqDiff, Nat.reduceLeDiff, Nat.reduceSub, Nat.reduceMul]), ref11_Part x.key lows hw, .inl ⟨_, rfl, rfl, rfl, rfl⟩⟩⟩ ?_
    refine V.exec 400 ?_
    by_cases hp : (partV x.key lows : Int) = a
    · rw [if_pos hp] at hst
      simp (config := {contextual := true}) only [go_sem, ↓reduceIte, reduceCtorEq, Bool.false_eq_true, Bool.true_eq_false, Nat.reduceAdd, Nat.reduceLT, Nat.reduceEqDiff, Nat.reduceLeDiff, Nat.reduceSub, Nat.reduceMul, hp, hx, hlt', Note.pv, hw2]
      refine ⟨⟨by omega, by omega⟩, l.length - (i + 1), _, _, [some 20], by omega, ⟨i + 1, by omega, rfl, rfl, rfl⟩, ?_⟩
      simp only [go_sem, ↓reduceIte, reduceCtorEq, Bool.false_eq_true, Bool.true_eq_false, Nat.reduceAdd, Nat.reduceLT, Nat.reduceEqDiff, Nat.reduceLeDiff, Nat.reduceSub, Nat.reduceMul, hst, List.map_append, List.map_cons, List.map_nil, Note.pv]
      try decide
    · rw [if_neg hp, List.append_nil] at hst
      simp (config := {contextual := true}) only [go_sem, ↓reduceIte, reduceCtorEq, Bool.false_eq_true, Bool.true_eq_false, Nat.reduceAdd, Nat.reduceLT, Nat.reduceEqDiff, Nat.reduceLeDiff, Nat.reduceSub, Nat.reduceMul, hp, hx, hlt', Note.pv, hw2]
      refine ⟨l.length - (i + 1), _, _, [some 0], by omega, ⟨i + 1, by omega, rfl, rfl, rfl⟩, ?_⟩
      simp only [go_sem, ↓reduceIte, reduceCtorEq, Bool.false_eq_true, Bool.true_eq_false, Nat.reduceAdd, Nat.reduceLT, Nat.reduceEqDiff, Nat.reduceLeDiff, Nat.reduceSub, Nat.reduceMul, hst]
      try decide
  · have hlt' : ¬ (i : Int) < (l.length : Int) := by omega
    rw [List.take_of_length_le (by omega)]
    simp (config := {contextual := true}) only [go_sem, ↓reduceIte, reduceCtorEq, Bool.false_eq_true, Bool.true_eq_false, Nat.reduceAdd, Nat.reduceLT, Nat.reduceEqDiff, Nat.reduceLeDiff, Nat.reduceSub, Nat.reduceMul, hlt']
end Go.Proofs.Ytbciecmoadjigaa
