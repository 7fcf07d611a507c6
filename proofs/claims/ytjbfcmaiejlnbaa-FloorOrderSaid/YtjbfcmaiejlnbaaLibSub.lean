/- A part of a proof: functions of the program, walked. -/
import Derived.Test.YtjbfcmaiejlnbaaBase
set_option linter.unusedVariables false
set_option linter.unusedSimpArgs false
namespace Go.Proofs.Ytjbfcmaiejlnbaa
open Go Go.Proofs Go.Proofs.YtjbfcmaiejlnbaaVm Go.Proofs.Ytjbfcmaiejlnbaa.Ty

set_option maxHeartbeats 2000000 in
theorem CloneSub (xs : List PV) (h1 : ∀ x ∈ xs, x.cells.length = 7) (hl : xs.length ≤ 1000000) : Ct Try.prog 30 (YtjbfcmaiejlnbaaVm.ops [.row xs]) (.own 37 xs) := by
  refine Ct.of_V Try.func30 rfl (by simp [YtjbfcmaiejlnbaaVm.ops, Try.f30]) ?_
  refine V.exec 400 ?_
  simp (config := {contextual := true}) only [go_sem, ↓reduceIte, reduceCtorEq, Bool.false_eq_true, Bool.true_eq_false, Nat.reduceAdd, Nat.reduceLT, Nat.reduceEqDiff, Nat.reduceLeDiff, Nat.reduceSub, Nat.reduceMul, Try.f30]
  refine V.nilq (xs := xs) rfl rfl (.inl rfl) (by simp only [go_sem, ↓reduceIte, Nat.reduceEqDiff]) (by simp only [go_sem]; rfl) (by simp [dOK]) fun c hc => ?_
  refine V.exec 400 ?_
  simp (config := {contextual := true}) only [go_sem, ↓reduceIte, reduceCtorEq, Bool.false_eq_true, Bool.true_eq_false, Nat.reduceAdd, Nat.reduceLT, Nat.reduceEqDiff, Nat.reduceLeDiff, Nat.reduceSub, Nat.reduceMul]
  exact ⟨fun h => ⟨hc h, 7, rfl, by decide⟩, fun _ => ⟨h1, by omega, by omega⟩⟩

set_option maxHeartbeats 2000000 in
theorem IndexFuncSub (xs : List PV) (g : FuncId) (caps : List PV) (p : PV → Bool) (h1 : ∀ x ∈ xs, x.cells.length = 7 ∧ x.isAgg = true) (hl : xs.length ≤ 1000000) (hg : Entered Try.prog g)
    (hp : ∀ x ∈ xs, Ct Try.prog g (YtjbfcmaiejlnbaaVm.ops ([x] ++ caps)) (.vals [.bool (decide (p x = true))])) (r : Nat) (hr : r ≤ xs.length) (hr1 : ∀ x ∈ xs.take r, p x = false) (hr2 : ∀ x, xs[r]? = some x → p x = true) :
    Ct Try.prog 42 (YtjbfcmaiejlnbaaVm.ops [.row xs, .fn g caps]) (.vals [.int .i64 (if r < xs.length then (r : Int) else -1)]) := by
  refine Ct.of_V Try.func42 rfl (by simp [YtjbfcmaiejlnbaaVm.ops, Try.f42]) ?_
  refine V.exec 400 ?_
  simp (config := {contextual := true}) only [go_sem, ↓reduceIte, reduceCtorEq, Bool.false_eq_true, Bool.true_eq_false, Nat.reduceAdd, Nat.reduceLT, Nat.reduceEqDiff, Nat.reduceLeDiff, Nat.reduceSub, Nat.reduceMul, Try.f42]
  refine V.loop (fun m ls os => ∃ i : Nat, i ≤ r ∧ m = xs.length - i ∧
        ls = [(0, .val (.row xs)), (1, .val (.fn g caps)), (7, .val (.int .i64 xs.length)), (8, .val (.int .i64 i))] ∧ os = []) 0 xs.length [(0, .val (.row xs)), (1, .val (.fn g caps)), (7, .val (.int .i64 xs.length)), (8, .val (.int .i64 0))] [] []
      ⟨0, Nat.zero_le _, rfl, rfl, rfl⟩ (by simp only [go_sem, ↓reduceIte, reduceCtorEq, Bool.false_eq_true, Bool.true_eq_false, Nat.reduceAdd, Nat.reduceLT, Nat.reduceEqDiff, Nat.reduceLeDiff, Nat.reduceSub, Nat.reduceMul]) ?_
  rintro m ls os ⟨i, hi, rfl, rfl, rfl⟩
  refine V.exec 400 ?_
  by_cases hlt : i < xs.length
  · have hlt' : (i : Int) < (xs.length : Int) := by omega
    obtain ⟨x, hx⟩ : ∃ x, xs[i]? = some x := ⟨_, List.getElem?_eq_getElem hlt⟩
    have hxm : x ∈ xs := List.mem_of_getElem? hx
    obtain ⟨hxc, hxa⟩ := h1 x hxm
    have hw : IntKind.i64.wrap ((i : Int) + 1) = ((i + 1 : Nat) : Int) := by rw [wrap_small] <;> omega
    simp (config := {contextual := true}) only [go_sem, ↓reduceIte, reduceCtorEq, Bool.false_eq_true, Bool.true_eq_false, Nat.reduceAdd, Nat.reduceLT, Nat.reduceEqDiff, Nat.reduceLeDiff, Nat.reduceSub, Nat.reduceMul, hlt', hx, hxc, hxa]
    refine V.call rfl rfl (by simp [dOK]) ⟨g, caps, by simp only [go_sem, ↓reduceIte, reduceCtorEq, Bool.false_eq_true, Bool.true_eq_false, Nat.reduceAdd, Nat.reduceLT, Nat.reduceEqDiff, Nat.reduceLeDiff, Nat.reduceSub, Nat.reduceMul], hg, .inl ⟨[x], _, .inl (by simp only [go_sem, ↓reduceIte, reduceCtorEq, Bool.false_eq_true, Bool.true_eq_false, Nat.reduceAdd, Nat.reduceLT, Nat.reduceEqDiff, Nat.reduceLeDiff, Nat.reduceSub, Nat.reduceMul]), hp x hxm, .inl ⟨_, rfl, rfl, rfl, rfl⟩⟩⟩ ?_
    refine V.exec 400 ?_
    simp (config := {contextual := true}) only [go_sem, ↓reduceIte, reduceCtorEq, Bool.false_eq_true, Bool.true_eq_false, Nat.reduceAdd, Nat.reduceLT, Nat.reduceEqDiff, Nat.reduceLeDiff, Nat.reduceSub, Nat.reduceMul, hw]
    constructor
    · intro hpx
      have hir : i = r := by
        rcases Nat.lt_or_ge i r with h | h
        · have := hr1 x (List.mem_of_getElem? (i := i) (by rw [List.getElem?_take_of_lt h]; exact hx))
          rw [this] at hpx; cases hpx
        · omega
      subst hir
      rw [if_pos hlt]
    · intro hpx
      have hir : i < r := by
        rcases Nat.lt_or_ge i r with h | h
        · exact h
        · have : i = r := by omega
          subst this
          exact absurd (hr2 x hx) hpx
      exact ⟨xs.length - (i + 1), _, [], [], by omega, ⟨i + 1, by omega, rfl, rfl, rfl⟩, by simp only [go_sem, ↓reduceIte, reduceCtorEq, Bool.false_eq_true, Bool.true_eq_false, Nat.reduceAdd, Nat.reduceLT, Nat.reduceEqDiff, Nat.reduceLeDiff, Nat.reduceSub, Nat.reduceMul]⟩
  · have hlt' : ¬ (i : Int) < (xs.length : Int) := by omega
    simp (config := {contextual := true}) only [go_sem, ↓reduceIte, reduceCtorEq, Bool.false_eq_true, Bool.true_eq_false, Nat.reduceAdd, Nat.reduceLT, Nat.reduceEqDiff, Nat.reduceLeDiff, Nat.reduceSub, Nat.reduceMul, hlt']
    rw [if_neg (by omega)]

set_option maxHeartbeats 4000000 in
theorem DeleteFuncSub (xs : List PV) (g : FuncId) (caps : List PV) (p : PV → Bool) (h1 : ∀ x ∈ xs, x.cells.length = 7 ∧ x.isAgg = true ∧ ∀ c ∈ x.cells, c.isAgg = false) (hl : xs.length ≤ 1000000) (hg : Entered Try.prog g)
    (hp : ∀ x ∈ xs, Ct Try.prog g (YtjbfcmaiejlnbaaVm.ops ([x] ++ caps)) (.vals [.bool (decide (p x = true))])) (hz : (zeroPV Try.prog 37 7).isSome = true) :
    Ct Try.prog 29 (.o 37 xs :: YtjbfcmaiejlnbaaVm.ops [.fn g caps]) (.own 37 (xs.filter fun x => !p x)) := by
  -- the first that goes
  obtain ⟨r, hr, hr1, hr2⟩ : ∃ r, r ≤ xs.length ∧ (∀ x ∈ xs.take r, p x = false) ∧ ∀ x, xs[r]? = some x → p x = true := by
    clear h1 hl hp
    induction xs with
    | nil => exact ⟨0, by simp, by simp, by simp⟩
    | cons x xs ih =>
      by_cases hx : p x = true
      · exact ⟨0, by simp, by simp, by simp [hx]⟩
      · obtain ⟨r, h1, h2, h3⟩ := ih
        refine ⟨r + 1, by simpa using h1, ?_, by simpa using h3⟩
        intro y hy
        simp only [List.take_succ_cons, List.mem_cons] at hy
        rcases hy with rfl | hy
        · simpa using hx
        · exact h2 y hy
  refine Ct.of_V Try.func29 rfl (by simp [YtjbfcmaiejlnbaaVm.ops, Try.f29]) ?_
  refine V.exec 400 ?_
  simp (config := {contextual := true}) only [go_sem, ↓reduceIte, reduceCtorEq, Bool.false_eq_true, Bool.true_eq_false, Nat.reduceAdd, Nat.reduceLT, Nat.reduceEqDiff, Nat.reduceLeDiff, Nat.reduceSub, Nat.reduceMul, Try.f29]
  refine V.call rfl rfl (by simp [dOK]) ⟨42, [], by simp only [go_sem, ↓reduceIte, reduceCtorEq, Bool.false_eq_true, Bool.true_eq_false, Nat.reduceAdd, Nat.reduceLT, Nat.reduceEqDiff, Nat.reduceLeDiff, Nat.reduceSub, Nat.reduceMul], ⟨_, rfl, rfl, rfl⟩, .inl ⟨[.row xs, .fn g caps], _, .inl (by simp only [go_sem, ↓reduceIte, reduceCtorEq, Bool.false_eq_true, Bool.true_eq_false, Nat.reduceAdd, Nat.reduceLT, Nat.reduceEqDiff, Nat.reduceLeDiff, Nat.reduceSub, Nat.reduceMul]), IndexFuncSub xs g caps p (fun x hx => ⟨(h1 x hx).1, (h1 x hx).2.1⟩) hl hg hp r hr hr1 hr2, .inl ⟨_, rfl, rfl, rfl, rfl⟩⟩⟩ ?_
  refine V.exec 400 ?_
  simp (config := {contextual := true}) only [go_sem, ↓reduceIte, reduceCtorEq, Bool.false_eq_true, Bool.true_eq_false, Nat.reduceAdd, Nat.reduceLT, Nat.reduceEqDiff, Nat.reduceLeDiff, Nat.reduceSub, Nat.reduceMul]
  constructor
  · intro h
    have hrl : ¬ r < xs.length := by intro h'; rw [if_pos h'] at h; omega
    have : xs.filter (fun x => !p x) = xs := by
      rw [List.filter_eq_self]
      intro x hx
      have := hr1 x (by rw [List.take_of_length_le (by omega)]; exact hx)
      simp [this]
    rw [this]
  · intro h
    have hrl : r < xs.length := by
      rcases Nat.lt_or_ge r xs.length with h' | h'
      · exact h'
      · rw [if_neg (by omega)] at h; exact absurd rfl h
    simp only [if_pos hrl]
    have hw0 : IntKind.i64.wrap ((r : Int) + 1) = ((r + 1 : Nat) : Int) := by rw [wrap_small] <;> omega
    simp only [hw0]
    refine V.loop (fun m ls os => ∃ (i j : Nat) (ys : List PV), i < j ∧ j ≤ xs.length ∧ m = xs.length - j ∧ ys.length = xs.length ∧ ys.take i = (xs.take j).filter (fun x => !p x) ∧ ys.drop j = xs.drop j ∧ (∀ y ∈ ys, y ∈ xs) ∧
        ls = [(0, .ref 0), (1, .val (.fn g caps)), (5, .val (.int .i64 i)), (6, .val (.int .i64 j))] ∧ os = [.row 37 ys]) 1 (xs.length - (r + 1)) [(0, .ref 0), (1, .val (.fn g caps)), (5, .val (.int .i64 r)), (6, .val (.int .i64 (r + 1 : Nat)))] [.row 37 xs] [some 0]
      ⟨r, r + 1, xs, by omega, by omega, rfl, rfl, ?_, rfl, fun y hy => hy, rfl, rfl⟩ (by simp only [go_sem, ↓reduceIte, reduceCtorEq, Bool.false_eq_true, Bool.true_eq_false, Nat.reduceAdd, Nat.reduceLT, Nat.reduceEqDiff, Nat.reduceLeDiff, Nat.reduceSub, Nat.reduceMul]) ?_
    · obtain ⟨x, hx⟩ : ∃ x, xs[r]? = some x := ⟨_, List.getElem?_eq_getElem hrl⟩
      rw [List.take_add_one, hx, List.filter_append]
      have e1 : (xs.take r).filter (fun x => !p x) = xs.take r := by
        rw [List.filter_eq_self]; intro y hy; simp [hr1 y hy]
      rw [e1]
      simp [hr2 x hx]
    · rintro m ls os ⟨i, j, ys, hij, hj, rfl, hyl, hyt, hyd, hym, rfl, rfl⟩
      by_cases hlt : j < xs.length
      · have hlt' : (j : Int) < (ys.length : Int) := by omega
        refine V.exec 400 ?_
        obtain ⟨x, hx⟩ : ∃ x, ys[j]? = some x := ⟨_, List.getElem?_eq_getElem (by omega)⟩
        obtain ⟨z, hz'⟩ : ∃ z, ys[i]? = some z := ⟨_, List.getElem?_eq_getElem (by omega)⟩
        have hxm : x ∈ xs := hym x (List.mem_of_getElem? hx)
        have hzm : z ∈ xs := hym z (List.mem_of_getElem? hz')
        obtain ⟨hzc, hza, _⟩ := h1 z hzm
        obtain ⟨hxc, hxa, hxn⟩ := h1 x hxm
        have hpx := hp x hxm
        obtain ⟨c0, c1, c2, c3, c4, c5, c6, rfl⟩ : ∃ c0 c1 c2 c3 c4 c5 c6, x = .agg [c0, c1, c2, c3, c4, c5, c6] := by
          cases x with
          | agg cs =>
            match cs, hxc with
            | [c0, c1, c2, c3, c4, c5, c6], _ => exact ⟨c0, c1, c2, c3, c4, c5, c6, rfl⟩
          | _ => cases hxa
        have n0 : c0.isAgg = false := hxn c0 (by simp [PV.cells])
        have n1 : c1.isAgg = false := hxn c1 (by simp [PV.cells])
        have n2 : c2.isAgg = false := hxn c2 (by simp [PV.cells])
        have n3 : c3.isAgg = false := hxn c3 (by simp [PV.cells])
        have n4 : c4.isAgg = false := hxn c4 (by simp [PV.cells])
        have n5 : c5.isAgg = false := hxn c5 (by simp [PV.cells])
        have n6 : c6.isAgg = false := hxn c6 (by simp [PV.cells])
        have hwi : IntKind.i64.wrap ((i : Int) + 1) = ((i + 1 : Nat) : Int) := by rw [wrap_small] <;> omega
        have hwj : IntKind.i64.wrap ((j : Int) + 1) = ((j + 1 : Nat) : Int) := by rw [wrap_small] <;> omega
        simp (config := {contextual := true}) only [go_sem, ↓reduceIte, reduceCtorEq, Bool.false_eq_true, Bool.true_eq_false, Nat.reduceAdd, Nat.reduceLT, Nat.reduceEqDiff, Nat.reduceLeDiff, Nat.reduceSub, Nat.reduceMul, hlt', hx, n0, n1, n2, n3, n4, n5, n6]
        refine V.call rfl rfl (by simp [dOK]) ⟨g, caps, by simp only [go_sem, ↓reduceIte, reduceCtorEq, Bool.false_eq_true, Bool.true_eq_false, Nat.reduceAdd, Nat.reduceLT, Nat.reduceEqDiff, Nat.reduceLeDiff, Nat.reduceSub, Nat.reduceMul], hg, .inl ⟨[_], _, .inl (by simp only [go_sem, ↓reduceIte, reduceCtorEq, Bool.false_eq_true, Bool.true_eq_false, Nat.reduceAdd, Nat.reduceLT, Nat.reduceEqDiff, Nat.reduceLeDiff, Nat.reduceSub, Nat.reduceMul]), hpx, .inl ⟨_, rfl, rfl, rfl, rfl⟩⟩⟩ ?_
        refine V.exec 400 ?_
        simp (config := {contextual := true}) only [go_sem, ↓reduceIte, reduceCtorEq, Bool.false_eq_true, Bool.true_eq_false, Nat.reduceAdd, Nat.reduceLT, Nat.reduceEqDiff, Nat.reduceLeDiff, Nat.reduceSub, Nat.reduceMul, hwi, hwj, hz', hzc, n0, n1, n2, n3, n4, n5, n6]
        have hxj : xs[j]? = some (.agg [c0, c1, c2, c3, c4, c5, c6]) := by
          have e1 : (ys.drop j)[0]? = (xs.drop j)[0]? := by rw [hyd]
          simp only [List.getElem?_drop, Nat.add_zero] at e1
          rw [← e1]; exact hx
        have hdrop : ys.drop (j + 1) = xs.drop (j + 1) := by rw [← List.drop_drop, ← List.drop_drop, hyd]
        have htk : xs.take (j + 1) = xs.take j ++ [.agg [c0, c1, c2, c3, c4, c5, c6]] := by rw [List.take_add_one, hxj]; rfl
        constructor
        · intro hpx
          refine ⟨xs.length - (j + 1), _, _, [some 0], by omega, ⟨i + 1, j + 1, ys.set i (.agg [c0, c1, c2, c3, c4, c5, c6]), by omega, by omega, rfl, by simpa using hyl, ?_, ?_, ?_, rfl, rfl⟩, ?_⟩
          · rw [htk, List.filter_append, ← hyt, List.take_add_one, List.getElem?_set_self (by omega), List.take_set_of_le (Nat.le_refl _)]
            simp [hpx]
          · rw [List.drop_set_of_lt (by omega)]; exact hdrop
          · intro y hy
            rcases List.mem_or_eq_of_mem_set hy with hy | hy
            · exact hym y hy
            · rw [hy]; exact hxm
          · simp only [go_sem, ↓reduceIte, reduceCtorEq, Bool.false_eq_true, Bool.true_eq_false, Nat.reduceAdd, Nat.reduceLT, Nat.reduceEqDiff, Nat.reduceLeDiff, Nat.reduceSub, Nat.reduceMul]
        · intro hpx
          refine ⟨xs.length - (j + 1), _, _, [some 0], by omega, ⟨i, j + 1, ys, by omega, by omega, rfl, hyl, ?_, hdrop, hym, rfl, rfl⟩, ?_⟩
          · rw [htk, List.filter_append, hyt]
            simp [hpx]
          · simp only [go_sem, ↓reduceIte, reduceCtorEq, Bool.false_eq_true, Bool.true_eq_false, Nat.reduceAdd, Nat.reduceLT, Nat.reduceEqDiff, Nat.reduceLeDiff, Nat.reduceSub, Nat.reduceMul]
      · have hlt' : ¬ (j : Int) < (ys.length : Int) := by omega
        refine V.execS [11] 400 ?_
        simp (config := {contextual := true}) only [go_sem, ↓reduceIte, reduceCtorEq, Bool.false_eq_true, Bool.true_eq_false, Nat.reduceAdd, Nat.reduceLT, Nat.reduceEqDiff, Nat.reduceLeDiff, Nat.reduceSub, Nat.reduceMul, hlt']
        refine V.opn 0 7 37 ys (by simp only [go_sem, ↓reduceIte, reduceCtorEq, Bool.false_eq_true, Bool.true_eq_false, Nat.reduceAdd, Nat.reduceLT, Nat.reduceEqDiff, Nat.reduceLeDiff, Nat.reduceSub, Nat.reduceMul]) (by simp only [go_sem, ↓reduceIte, reduceCtorEq, Bool.false_eq_true, Bool.true_eq_false, Nat.reduceAdd, Nat.reduceLT, Nat.reduceEqDiff, Nat.reduceLeDiff, Nat.reduceSub, Nat.reduceMul]) fun q => ?_
        refine V.exec 400 ?_
        simp (config := {contextual := true}) only [go_sem, ↓reduceIte, reduceCtorEq, Bool.false_eq_true, Bool.true_eq_false, Nat.reduceAdd, Nat.reduceLT, Nat.reduceEqDiff, Nat.reduceLeDiff, Nat.reduceSub, Nat.reduceMul]
        have hi : i ≤ ys.length := by omega
        have hjx : j = xs.length := by omega
        rw [show 0 + i = i from Nat.zero_add i, over_length hi, List.length_replicate]
        refine ⟨⟨hi, by omega⟩, ⟨hi, by omega⟩, ⟨by omega, by omega⟩, by omega, ?_⟩
        rw [hjx, List.take_length] at hyt
        rw [Nat.sub_zero, over, List.append_assoc, List.take_append_of_le_length (by simp [Nat.min_eq_left hi]), List.take_take, Nat.min_self, hyt]
set_option maxHeartbeats 4000000 in
theorem InsertSub (xs : List PV) (y : PV) (i : Nat) (h1 : ∀ x ∈ xs, x.cells.length = 7) (hy : y.cells.length = 7) (hi : i ≤ xs.length) (hl : xs.length ≤ 1000000) :
    Ct Try.prog 33 (.o 37 xs :: YtjbfcmaiejlnbaaVm.ops [.int .i64 i, .rowp [y]]) (.own 37 (xs.take i ++ [y] ++ xs.drop i)) := by
  refine Ct.of_V Try.func33 rfl (by simp [YtjbfcmaiejlnbaaVm.ops, Try.f33]) ?_
  refine V.opn 0 7 37 xs rfl (by simp only [go_sem, ↓reduceIte, reduceCtorEq, Bool.false_eq_true, Bool.true_eq_false, Nat.reduceAdd, Nat.reduceLT, Nat.reduceEqDiff, Nat.reduceLeDiff, Nat.reduceSub, Nat.reduceMul]) fun q => ?_
  have hw : IntKind.i64.wrap ((xs.length : Int) + ((0 + 1 : Nat) : Int)) = ((xs.length + 1 : Nat) : Int) := by rw [wrap_small'] <;> omega
  have hw2 : IntKind.i64.wrap (((xs.length + 1 : Nat) : Int) - (i : Int)) = ((xs.length + 1 - i : Nat) : Int) := by rw [wrap_small'] <;> omega
  have hw3 : IntKind.i64.wrap ((i : Int) + ((0 + 1 : Nat) : Int)) = ((i + 1 : Nat) : Int) := by rw [wrap_small'] <;> omega
  refine V.execS [10, 14] 400 ?_
  simp (config := {contextual := true}) only [go_sem, ↓reduceIte, reduceCtorEq, Bool.false_eq_true, Bool.true_eq_false, Nat.reduceAdd, Nat.reduceLT, Nat.reduceEqDiff, Nat.reduceLeDiff, Nat.reduceSub, Nat.reduceMul, Try.f33, hy, hw, hw2, hw3]
  refine ⟨⟨hi, by omega⟩, fun h => absurd h (by omega), fun _ => ⟨fun he => ?_, fun hne => ⟨by omega, fun hlt => ⟨⟨by omega, by omega⟩, ⟨by omega, by omega, by omega, by omega, by omega⟩, ?_⟩, fun hge => ⟨by omega, ?_⟩⟩⟩⟩
  · -- at the end
    have hin : i = xs.length := by omega
    subst hin
    have e1 : xs.take xs.length ++ [y] ++ xs.drop xs.length = xs ++ [y] := by simp
    rw [e1]
    refine ⟨fun hr => ⟨by omega, ?_, ?_⟩, fun hr => ⟨⟨by omega, by omega, by omega, by omega⟩, by rw [List.take_length]⟩⟩
    · rw [over_length (by omega)]; simp
    · have e2 : over xs [y] (0 + xs.length) = xs ++ [y] := by simp [over]
      rw [e2, List.take_of_length_le (by simp)]
  · -- no room: a new row
    have hin : i < xs.length := by omega
    have hYl : (List.take (i - 0) xs ++ List.replicate (xs.length + 1 - i) (PV.agg [.int .i64 0, .str [], .str [], .bool false, .bool false, .str [], .int .i64 0])).length = xs.length + 1 := by
      simp; omega
    have hYt : (List.take (i - 0) xs ++ List.replicate (xs.length + 1 - i) (PV.agg [.int .i64 0, .str [], .str [], .bool false, .bool false, .str [], .int .i64 0])).take i = xs.take i := by
      rw [Nat.sub_zero, List.take_append_of_le_length (by simp; omega), List.take_take, Nat.min_self]
    generalize List.take (i - 0) xs ++ List.replicate (xs.length + 1 - i) (PV.agg [.int .i64 0, .str [], .str [], .bool false, .bool false, .str [], .int .i64 0]) = Y at *
    refine V.opn 32 7 37 Y (by simp only [go_sem, ↓reduceIte, reduceCtorEq, Bool.false_eq_true, Bool.true_eq_false, Nat.reduceAdd, Nat.reduceLT, Nat.reduceEqDiff, Nat.reduceLeDiff, Nat.reduceSub, Nat.reduceMul]) (by simp only [go_sem, ↓reduceIte, reduceCtorEq, Bool.false_eq_true, Bool.true_eq_false, Nat.reduceAdd, Nat.reduceLT, Nat.reduceEqDiff, Nat.reduceLeDiff, Nat.reduceSub, Nat.reduceMul]) fun q2 => ?_
    refine V.exec 400 ?_
    have m1 : min 1 (Y.length - i) = 1 := by omega
    have m2 : min (xs.length - i) (Y.length - (i + 1)) = xs.length - i := by omega
    simp (config := {contextual := true}) only [go_sem, ↓reduceIte, reduceCtorEq, Bool.false_eq_true, Bool.true_eq_false, Nat.reduceAdd, Nat.reduceLT, Nat.reduceEqDiff, Nat.reduceLeDiff, Nat.reduceSub, Nat.reduceMul, hy, hw, hw2, hw3, Nat.zero_add, Nat.sub_zero, m1, m2]
    have hol : (over Y [y] i).length = Y.length := by rw [over_length (by omega)]; simp; omega
    have hdl : (List.take (xs.length - i) (List.drop i xs)).length = xs.length - i := by simp
    simp only [hol, hdl]
    refine ⟨⟨by omega, by omega⟩, ⟨by omega, by omega⟩, ⟨by omega, by omega⟩, ⟨by omega, by omega⟩, ⟨by omega, by omega, by omega⟩, by kernel_rfl, ?_⟩
    have hd : List.take (xs.length - i) (List.take (xs.length - i) (List.drop i xs)) = xs.drop i := by rw [List.take_of_length_le (by simp), List.take_of_length_le (by simp)]
    rw [hd, ins_grow xs [y] i Y rfl hin hYl hYt]
    exact ⟨by simp; omega, (List.take_of_length_le (by simp; omega)).symm⟩
  · -- there is room
    refine V.exec 400 ?_
    simp (config := {contextual := true}) only [go_sem, ↓reduceIte, reduceCtorEq, Bool.false_eq_true, Bool.true_eq_false, Nat.reduceAdd, Nat.reduceLT, Nat.reduceEqDiff, Nat.reduceLeDiff, Nat.reduceSub, Nat.reduceMul, hy, hw, hw2, hw3, Nat.zero_add, Nat.sub_zero]
    refine ⟨⟨by omega, by omega⟩, ?_⟩
    refine V.ovl (f := 44) (zs := [y]) (id := 0) (sz := 7) (l := i + 1) (len := xs.length + 1 - (i + 1)) (xs := xs) (q := q) (e := 37) (tS := 24) (tR := 4) rfl rfl (by simp [dOK]) (by simp only [go_sem, ↓reduceIte, reduceCtorEq, Bool.false_eq_true, Bool.true_eq_false, Nat.reduceAdd, Nat.reduceLT, Nat.reduceEqDiff, Nat.reduceLeDiff, Nat.reduceSub, Nat.reduceMul]) rfl rfl rfl (by kernel_rfl) (by kernel_rfl) (by simp only [go_sem, ↓reduceIte, reduceCtorEq, Bool.false_eq_true, Bool.true_eq_false, Nat.reduceAdd, Nat.reduceLT, Nat.reduceEqDiff, Nat.reduceLeDiff, Nat.reduceSub, Nat.reduceMul]) (by simp only [go_sem, ↓reduceIte, reduceCtorEq, Bool.false_eq_true, Bool.true_eq_false, Nat.reduceAdd, Nat.reduceLT, Nat.reduceEqDiff, Nat.reduceLeDiff, Nat.reduceSub, Nat.reduceMul]) (by simp only [go_sem, ↓reduceIte, reduceCtorEq, Bool.false_eq_true, Bool.true_eq_false, Nat.reduceAdd, Nat.reduceLT, Nat.reduceEqDiff, Nat.reduceLeDiff, Nat.reduceSub, Nat.reduceMul]) (by simp only [go_sem, ↓reduceIte, reduceCtorEq, Bool.false_eq_true, Bool.true_eq_false, Nat.reduceAdd, Nat.reduceLT, Nat.reduceEqDiff, Nat.reduceLeDiff, Nat.reduceSub, Nat.reduceMul]) (by simp only [go_sem, ↓reduceIte, reduceCtorEq, Bool.false_eq_true, Bool.true_eq_false, Nat.reduceAdd, Nat.reduceLT, Nat.reduceEqDiff, Nat.reduceLeDiff, Nat.reduceSub, Nat.reduceMul]) (by omega) ?_
    refine V.exec 400 ?_
    have hin : i < xs.length := by omega
    have m3 : min (xs.length + 1 - i) (xs.length + 1 - (i + 1)) = xs.length - i := by omega
    have m4 : min 1 (xs.length + 1 - i) = 1 := by omega
    have hd2 : List.take (xs.length - i) (List.take (xs.length + 1 - i) (List.drop i xs)) = xs.drop i := by rw [List.take_take, List.take_of_length_le (by simp; omega)]
    have hd3 : (List.take (xs.length + 1 - i) (List.drop i xs)).length = xs.length - i := by simp; omega
    have hol : (over xs (xs.drop i) (i + 1)).length = xs.length + 1 := by rw [over_length (by omega), List.length_drop]; omega
    have hol2 : (over (over xs (xs.drop i) (i + 1)) [y] i).length = xs.length + 1 := by rw [over_length (by omega), hol]; simp; omega
    simp (config := {contextual := true}) only [go_sem, ↓reduceIte, reduceCtorEq, Bool.false_eq_true, Bool.true_eq_false, Nat.reduceAdd, Nat.reduceLT, Nat.reduceEqDiff, Nat.reduceLeDiff, Nat.reduceSub, Nat.reduceMul, hy, hw, hw2, hw3, Nat.zero_add, Nat.sub_zero, m3, m4, hd2, hd3, hol, hol2]
    refine ⟨⟨by omega, by omega⟩, ⟨by omega, by omega⟩, ⟨by omega, by omega, by omega⟩, by kernel_rfl, ⟨by omega, by omega⟩, ⟨by omega, by omega⟩, by omega, ?_⟩
    rw [ins_room xs [y] i rfl hin]
    exact (List.take_of_length_le (by simp; omega)).symm
set_option maxHeartbeats 4000000 in
theorem BSearchSub (xs : List PV) (t : PV) (g : FuncId) (caps : List PV) (c : PV → Int) (h1 : ∀ x ∈ xs, x.cells.length = 7 ∧ x.isAgg = true) (hl : xs.length ≤ 1000000) (hg : Entered Try.prog g)
    (hp : ∀ x ∈ xs, Ct Try.prog g (YtjbfcmaiejlnbaaVm.ops ([x, t] ++ caps)) (.vals [.int .i64 (c x)])) (r : Nat) (hr : r ≤ xs.length) (hr1 : ∀ i x, i < r → xs[i]? = some x → c x < 0) (hr2 : ∀ i x, r ≤ i → xs[i]? = some x → ¬ c x < 0) :
    Ct Try.prog 46 (YtjbfcmaiejlnbaaVm.ops [.row xs, t, .fn g caps]) (.vals [.int .i64 r, .bool (decide (∃ x, xs[r]? = some x ∧ c x = 0))]) := by
  refine Ct.of_V Try.func46 rfl (by simp [YtjbfcmaiejlnbaaVm.ops, Try.f46]) ?_
  refine V.exec 400 ?_
  simp (config := {contextual := true}) only [go_sem, ↓reduceIte, reduceCtorEq, Bool.false_eq_true, Bool.true_eq_false, Nat.reduceAdd, Nat.reduceLT, Nat.reduceEqDiff, Nat.reduceLeDiff, Nat.reduceSub, Nat.reduceMul, Try.f46]
  refine V.loop (fun m ls os => ∃ (i j : Nat), i ≤ r ∧ r ≤ j ∧ j ≤ xs.length ∧ m = j - i ∧
        ls = [(0, .val (.row xs)), (1, .val t), (2, .val (.fn g caps)), (8, .val (.int .i64 xs.length)), (9, .val (.int .i64 i)), (10, .val (.int .i64 j))] ∧ os = []) 0 xs.length
      [(0, .val (.row xs)), (1, .val t), (2, .val (.fn g caps)), (8, .val (.int .i64 xs.length)), (9, .val (.int .i64 0)), (10, .val (.int .i64 xs.length))] [] []
      ⟨0, xs.length, Nat.zero_le _, hr, Nat.le_refl _, rfl, rfl, rfl⟩ (by simp only [go_sem, ↓reduceIte, reduceCtorEq, Bool.false_eq_true, Bool.true_eq_false, Nat.reduceAdd, Nat.reduceLT, Nat.reduceEqDiff, Nat.reduceLeDiff, Nat.reduceSub, Nat.reduceMul]) ?_
  rintro m ls os ⟨i, j, hi, hj, hjl, rfl, rfl, rfl⟩
  refine V.exec 400 ?_
  by_cases hlt : i < j
  · have hlt' : (i : Int) < (j : Int) := by omega
    have hm : (i + j) / 2 < xs.length := by omega
    obtain ⟨x, hx⟩ : ∃ x, xs[(i + j) / 2]? = some x := ⟨_, List.getElem?_eq_getElem hm⟩
    have hxm : x ∈ xs := List.mem_of_getElem? hx
    obtain ⟨hxc, hxa⟩ := h1 x hxm
    have hw1 : IntKind.i64.wrap ((i : Int) + (j : Int)) = ((i + j : Nat) : Int) := by rw [wrap_small2] <;> omega
    have hw2 : IntKind.u64.wrap ((i + j : Nat) : Int) = ((i + j : Nat) : Int) := by rw [wrap_u2] <;> omega
    have hw3 : ((i + j : Nat) : Int) / 2 = (((i + j) / 2 : Nat) : Int) := by omega
    have hw4 : IntKind.i64.wrap (((i + j) / 2 : Nat) : Int) = (((i + j) / 2 : Nat) : Int) := by rw [wrap_small2] <;> omega
    have hw5 : IntKind.i64.wrap ((((i + j) / 2 : Nat) : Int) + 1) = (((i + j) / 2 + 1 : Nat) : Int) := by rw [wrap_small2] <;> omega
    simp (config := {contextual := true}) only [go_sem, ↓reduceIte, reduceCtorEq, Bool.false_eq_true, Bool.true_eq_false, Nat.reduceAdd, Nat.reduceLT, Nat.reduceEqDiff, Nat.reduceLeDiff, Nat.reduceSub, Nat.reduceMul, hlt', hw1, hw2, hw3, hw4, hx, hxc, hxa]
    refine V.call rfl rfl (by simp [dOK]) ⟨g, caps, by simp only [go_sem, ↓reduceIte, reduceCtorEq, Bool.false_eq_true, Bool.true_eq_false, Nat.reduceAdd, Nat.reduceLT, Nat.reduceEqDiff, Nat.reduceLeDiff, Nat.reduceSub, Nat.reduceMul], hg, .inl ⟨[x, t], _, .inl (by simp only [go_sem, ↓reduceIte, reduceCtorEq, Bool.false_eq_true, Bool.true_eq_false, Nat.reduceAdd, Nat.reduceLT, Nat.reduceEqDiff, Nat.reduceLeDiff, Nat.reduceSub, Nat.reduceMul]), hp x hxm, .inl ⟨_, rfl, rfl, rfl, rfl⟩⟩⟩ ?_
    refine V.exec 400 ?_
    simp (config := {contextual := true}) only [go_sem, ↓reduceIte, reduceCtorEq, Bool.false_eq_true, Bool.true_eq_false, Nat.reduceAdd, Nat.reduceLT, Nat.reduceEqDiff, Nat.reduceLeDiff, Nat.reduceSub, Nat.reduceMul, hw5]
    constructor
    · intro hc
      have : (i + j) / 2 < r := by
        rcases Nat.lt_or_ge ((i + j) / 2) r with h | h
        · exact h
        · exact absurd hc (hr2 _ x h hx)
      exact ⟨j - ((i + j) / 2 + 1), _, [], [], by omega, ⟨(i + j) / 2 + 1, j, by omega, hj, hjl, rfl, rfl, rfl⟩, by simp only [go_sem, ↓reduceIte, reduceCtorEq, Bool.false_eq_true, Bool.true_eq_false, Nat.reduceAdd, Nat.reduceLT, Nat.reduceEqDiff, Nat.reduceLeDiff, Nat.reduceSub, Nat.reduceMul]⟩
    · intro hc
      have : r ≤ (i + j) / 2 := by
        rcases Nat.lt_or_ge ((i + j) / 2) r with h | h
        · exact absurd (hr1 _ x h hx) hc
        · exact h
      exact ⟨(i + j) / 2 - i, _, [], [], by omega, ⟨i, (i + j) / 2, hi, this, by omega, rfl, rfl, rfl⟩, by simp only [go_sem, ↓reduceIte, reduceCtorEq, Bool.false_eq_true, Bool.true_eq_false, Nat.reduceAdd, Nat.reduceLT, Nat.reduceEqDiff, Nat.reduceLeDiff, Nat.reduceSub, Nat.reduceMul]⟩
  · have hlt' : ¬ (i : Int) < (j : Int) := by omega
    have hir : i = r := by omega
    subst hir
    by_cases hil : i < xs.length
    · have hil' : (i : Int) < (xs.length : Int) := by omega
      obtain ⟨x, hx⟩ : ∃ x, xs[i]? = some x := ⟨_, List.getElem?_eq_getElem hil⟩
      have hxm : x ∈ xs := List.mem_of_getElem? hx
      obtain ⟨hxc, hxa⟩ := h1 x hxm
      simp (config := {contextual := true}) only [go_sem, ↓reduceIte, reduceCtorEq, Bool.false_eq_true, Bool.true_eq_false, Nat.reduceAdd, Nat.reduceLT, Nat.reduceEqDiff, Nat.reduceLeDiff, Nat.reduceSub, Nat.reduceMul, hlt', hil', hx, hxc, hxa]
      refine V.call rfl rfl (by simp [dOK]) ⟨g, caps, by simp only [go_sem, ↓reduceIte, reduceCtorEq, Bool.false_eq_true, Bool.true_eq_false, Nat.reduceAdd, Nat.reduceLT, Nat.reduceEqDiff, Nat.reduceLeDiff, Nat.reduceSub, Nat.reduceMul], hg, .inl ⟨[x, t], _, .inl (by simp only [go_sem, ↓reduceIte, reduceCtorEq, Bool.false_eq_true, Bool.true_eq_false, Nat.reduceAdd, Nat.reduceLT, Nat.reduceEqDiff, Nat.reduceLeDiff, Nat.reduceSub, Nat.reduceMul]), hp x hxm, .inl ⟨_, rfl, rfl, rfl, rfl⟩⟩⟩ ?_
      refine V.exec 400 ?_
      simp (config := {contextual := true}) only [go_sem, ↓reduceIte, reduceCtorEq, Bool.false_eq_true, Bool.true_eq_false, Nat.reduceAdd, Nat.reduceLT, Nat.reduceEqDiff, Nat.reduceLeDiff, Nat.reduceSub, Nat.reduceMul, hx]
      simp [hx]
    · have hil' : ¬ (i : Int) < (xs.length : Int) := by omega
      simp (config := {contextual := true}) only [go_sem, ↓reduceIte, reduceCtorEq, Bool.false_eq_true, Bool.true_eq_false, Nat.reduceAdd, Nat.reduceLT, Nat.reduceEqDiff, Nat.reduceLeDiff, Nat.reduceSub, Nat.reduceMul, hlt', hil']
      have : xs[i]? = none := List.getElem?_eq_none (by omega)
      simp [this]
end Go.Proofs.Ytjbfcmaiejlnbaa
