/- A part of a proof: functions of the program, walked. -/
import Derived.Test.YtglpemnejngkaaaL17Base
set_option linter.unusedVariables false
set_option linter.unusedSimpArgs false
namespace Go.Proofs.Ytglpemnejngkaaa
open Go Go.Proofs Go.Proofs.YtglpemnejngkaaaVm Go.Proofs.Ytglpemnejngkaaa.Ty

set_option maxHeartbeats 2000000 in
theorem ClonePair (xs : List PV) (h1 : ∀ x ∈ xs, x.cells.length = 2) (hl : xs.length ≤ 1000000) : Ct Try.prog 27 (YtglpemnejngkaaaVm.ops [.row xs]) (.own 61 xs) := by
  refine Ct.of_V Try.func27 rfl (by simp [YtglpemnejngkaaaVm.ops, Try.f27]) ?_
  refine V.exec 400 ?_
  simp (config := {contextual := true}) only [go_sem, ↓reduceIte, reduceCtorEq, Bool.false_eq_true, Bool.true_eq_false, Nat.reduceAdd, Nat.reduceLT, Nat.reduceEqDiff, Nat.reduceLeDiff, Nat.reduceSub, Nat.reduceMul, Try.f27]
  refine V.nilq (xs := xs) rfl rfl (.inl rfl) (by simp only [go_sem, ↓reduceIte, Nat.reduceEqDiff]) (by simp only [go_sem]; rfl) (by simp [dOK]) fun c hc => ?_
  refine V.exec 400 ?_
  simp (config := {contextual := true}) only [go_sem, ↓reduceIte, reduceCtorEq, Bool.false_eq_true, Bool.true_eq_false, Nat.reduceAdd, Nat.reduceLT, Nat.reduceEqDiff, Nat.reduceLeDiff, Nat.reduceSub, Nat.reduceMul]
  exact ⟨fun h => ⟨hc h, 2, rfl, by decide⟩, fun _ => ⟨h1, by omega, by omega⟩⟩
set_option maxHeartbeats 4000000 in
theorem InsertPair (xs : List PV) (y : PV) (i : Nat) (h1 : ∀ x ∈ xs, x.cells.length = 2) (hy : y.cells.length = 2) (hi : i ≤ xs.length) (hl : xs.length ≤ 1000000) :
    Ct Try.prog 45 (.o 61 xs :: YtglpemnejngkaaaVm.ops [.int .i64 i, .rowp [y]]) (.own 61 (xs.take i ++ [y] ++ xs.drop i)) := by
  refine Ct.of_V Try.func45 rfl (by simp [YtglpemnejngkaaaVm.ops, Try.f45]) ?_
  refine V.opn 0 2 61 xs rfl (by simp only [go_sem, ↓reduceIte, reduceCtorEq, Bool.false_eq_true, Bool.true_eq_false, Nat.reduceAdd, Nat.reduceLT, Nat.reduceEqDiff, Nat.reduceLeDiff, Nat.reduceSub, Nat.reduceMul]) fun q => ?_
  have hw : IntKind.i64.wrap ((xs.length : Int) + ((0 + 1 : Nat) : Int)) = ((xs.length + 1 : Nat) : Int) := by rw [wrap_small'] <;> omega
  have hw2 : IntKind.i64.wrap (((xs.length + 1 : Nat) : Int) - (i : Int)) = ((xs.length + 1 - i : Nat) : Int) := by rw [wrap_small'] <;> omega
  have hw3 : IntKind.i64.wrap ((i : Int) + ((0 + 1 : Nat) : Int)) = ((i + 1 : Nat) : Int) := by rw [wrap_small'] <;> omega
  refine V.execS [10, 14] 400 ?_
  simp (config := {contextual := true}) only [go_sem, ↓reduceIte, reduceCtorEq, Bool.false_eq_true, Bool.true_eq_false, Nat.reduceAdd, Nat.reduceLT, Nat.reduceEqDiff, Nat.reduceLeDiff, Nat.reduceSub, Nat.reduceMul, Try.f45, hy, hw, hw2, hw3]
  refine ⟨⟨hi, by omega⟩, fun h => absurd h (by omega), fun _ => ⟨fun he => ?_, fun hne => ⟨by omega, fun hlt => ⟨⟨by omega, by omega⟩, ⟨by omega, by omega, by omega, by omega, by omega⟩, ?_⟩, fun hge => ⟨by omega, ?_⟩⟩⟩⟩
  · -- at the end
    have hin : i = xs.length := by omega
    subst hin
    have e1 : xs.take xs.length ++ [y] ++ xs.drop xs.length = xs ++ [y] := by simp
    rw [e1]
    refine ⟨fun hr => ⟨by omega, ?_, ?_⟩, fun hr => ⟨⟨by omega, by omega, by omega, by omega⟩, by rw [List.take_length]⟩⟩
    · rw [over_length (by omega)]; simp
    · have e2 : over xs [y] (0 + xs.length) = xs ++ [y] := by simp [over]
      rw [e2, List.take_of_length_le (by simp)]
  · -- no room: a new row
    have hin : i < xs.length := by omega
    have hYl : (List.take (i - 0) xs ++ List.replicate (xs.length + 1 - i) (PV.agg [.str [], .str []])).length = xs.length + 1 := by
      simp; omega
    have hYt : (List.take (i - 0) xs ++ List.replicate (xs.length + 1 - i) (PV.agg [.str [], .str []])).take i = xs.take i := by
      rw [Nat.sub_zero, List.take_append_of_le_length (by simp; omega), List.take_take, Nat.min_self]
    generalize List.take (i - 0) xs ++ List.replicate (xs.length + 1 - i) (PV.agg [.str [], .str []]) = Y at *
    refine V.opn 32 2 61 Y (by simp only [go_sem, ↓reduceIte, reduceCtorEq, Bool.false_eq_true, Bool.true_eq_false, Nat.reduceAdd, Nat.reduceLT, Nat.reduceEqDiff, Nat.reduceLeDiff, Nat.reduceSub, Nat.reduceMul]) (by simp only [go_sem, ↓reduceIte, reduceCtorEq, Bool.false_eq_true, Bool.true_eq_false, Nat.reduceAdd, Nat.reduceLT, Nat.reduceEqDiff, Nat.reduceLeDiff, Nat.reduceSub, Nat.reduceMul]) fun q2 => ?_
    refine V.exec 400 ?_
    have m1 : min 1 (Y.length - i) = 1 := by omega
    have m2 : min (xs.length - i) (Y.length - (i + 1)) = xs.length - i := by omega
    simp (config := {contextual := true}) only [go_sem, ↓reduceIte, reduceCtorEq, Bool.false_eq_true, Bool.true_eq_false, Nat.reduceAdd, Nat.reduceLT, Nat.reduceEqDiff, Nat.reduceLeDiff, Nat.reduceSub, Nat.reduceMul, hy, hw, hw2, hw3, Nat.zero_add, Nat.sub_zero, m1, m2]
    have hol : (over Y [y] i).length = Y.length := by rw [over_length (by omega)]; simp; omega
    have hdl : (List.take (xs.length - i) (List.drop i xs)).length = xs.length - i := by simp
    simp only [hol, hdl]
    refine ⟨⟨by omega, by omega⟩, ⟨by omega, by omega⟩, ⟨by omega, by omega⟩, ⟨by omega, by omega⟩, ⟨by omega, by omega, by omega⟩, by kernel_rfl, ?_⟩
    have hd : List.take (xs.length - i) (List.take (xs.length - i) (List.drop i xs)) = xs.drop i := by rw [List.take_of_length_le (by simp), List.take_of_length_le (by simp)]
    rw [hd, ins_grow xs [y] i Y rfl hin hYl hYt]
    exact ⟨by simp; omega, (List.take_of_length_le (by simp; omega)).symm⟩
  · -- there is room
    refine V.exec 400 ?_
    simp (config := {contextual := true}) only [go_sem, ↓reduceIte, reduceCtorEq, Bool.false_eq_true, Bool.true_eq_false, Nat.reduceAdd, Nat.reduceLT, Nat.reduceEqDiff, Nat.reduceLeDiff, Nat.reduceSub, Nat.reduceMul, hy, hw, hw2, hw3, Nat.zero_add, Nat.sub_zero]
    refine ⟨⟨by omega, by omega⟩, ?_⟩
    refine V.ovl (f := 57) (zs := [y]) (id := 0) (sz := 2) (l := i + 1) (len := xs.length + 1 - (i + 1)) (xs := xs) (q := q) (e := 61) (tS := 22) (tR := 4) rfl rfl (by simp [dOK]) (by simp only [go_sem, ↓reduceIte, reduceCtorEq, Bool.false_eq_true, Bool.true_eq_false, Nat.reduceAdd, Nat.reduceLT, Nat.reduceEqDiff, Nat.reduceLeDiff, Nat.reduceSub, Nat.reduceMul]) rfl rfl rfl (by kernel_rfl) (by kernel_rfl) (by simp only [go_sem, ↓reduceIte, reduceCtorEq, Bool.false_eq_true, Bool.true_eq_false, Nat.reduceAdd, Nat.reduceLT, Nat.reduceEqDiff, Nat.reduceLeDiff, Nat.reduceSub, Nat.reduceMul]) (by simp only [go_sem, ↓reduceIte, reduceCtorEq, Bool.false_eq_true, Bool.true_eq_false, Nat.reduceAdd, Nat.reduceLT, Nat.reduceEqDiff, Nat.reduceLeDiff, Nat.reduceSub, Nat.reduceMul]) (by simp only [go_sem, ↓reduceIte, reduceCtorEq, Bool.false_eq_true, Bool.true_eq_false, Nat.reduceAdd, Nat.reduceLT, Nat.reduceEqDiff, Nat.reduceLeDiff, Nat.reduceSub, Nat.reduceMul]) (by simp only [go_sem, ↓reduceIte, reduceCtorEq, Bool.false_eq_true, Bool.true_eq_false, Nat.reduceAdd, Nat.reduceLT, Nat.reduceEqDiff, Nat.reduceLeDiff, Nat.reduceSub, Nat.reduceMul]) (by simp only [go_sem, ↓reduceIte, reduceCtorEq, Bool.false_eq_true, Bool.true_eq_false, Nat.reduceAdd, Nat.reduceLT, Nat.reduceEqDiff, Nat.reduceLeDiff, Nat.reduceSub, Nat.reduceMul]) (by omega) ?_
    refine V.exec 400 ?_
    have hin : i < xs.length := by omega
    have m3 : min (xs.length + 1 - i) (xs.length + 1 - (i + 1)) = xs.length - i := by omega
    have m4 : min 1 (xs.length + 1 - i) = 1 := by omega
    have hd2 : List.take (xs.length - i) (List.take (xs.length + 1 - i) (List.drop i xs)) = xs.drop i := by rw [List.take_take, List.take_of_length_le (by simp; omega)]
    have hd3 : (List.take (xs.length + 1 - i) (List.drop i xs)).length = xs.length - i := by simp; omega
    have hol : (over xs (xs.drop i) (i + 1)).length = xs.length + 1 := by rw [over_length (by omega), List.length_drop]; omega
    have hol2 : (over (over xs (xs.drop i) (i + 1)) [y] i).length = xs.length + 1 := by rw [over_length (by omega), hol]; simp; omega
    simp (config := {contextual := true}) only [go_sem, ↓reduceIte, reduceCtorEq, Bool.false_eq_true, Bool.true_eq_false, Nat.reduceAdd, Nat.reduceLT, Nat.reduceEqDiff, Nat.reduceLeDiff, Nat.reduceSub, Nat.reduceMul, hy, hw, hw2, hw3, Nat.zero_add, Nat.sub_zero, m3, m4, hd2, hd3, hol, hol2]
    refine ⟨⟨by omega, by omega⟩, ⟨by omega, by omega⟩, ⟨by omega, by omega, by omega⟩, by kernel_rfl, ⟨by omega, by omega⟩, ⟨by omega, by omega⟩, by omega, ?_⟩
    rw [ins_room xs [y] i rfl hin]
    exact (List.take_of_length_le (by simp; omega)).symm
set_option maxHeartbeats 4000000 in
theorem BSearchPair_any (xs : List PV) (t : PV) (g : FuncId) (caps : List PV) (c : PV → Int) (h1 : ∀ x ∈ xs, x.cells.length = 2 ∧ x.isAgg = true) (hl : xs.length ≤ 1000000) (hg : Entered Try.prog g)
    (hp : ∀ x ∈ xs, Ct Try.prog g (YtglpemnejngkaaaVm.ops ([x, t] ++ caps)) (.vals [.int .i64 (c x)])) :
    Ct Try.prog 51 (YtglpemnejngkaaaVm.ops [.row xs, t, .fn g caps]) (.vals [.int .i64 (bsI (cAt c xs) 0 xs.length : Nat), .bool (decide (∃ x, xs[bsI (cAt c xs) 0 xs.length]? = some x ∧ c x = 0))]) := by
  generalize hR : bsI (cAt c xs) 0 xs.length = r
  refine Ct.of_V Try.func51 rfl (by simp [YtglpemnejngkaaaVm.ops, Try.f51]) ?_
  refine V.exec 400 ?_
  simp (config := {contextual := true}) only [go_sem, ↓reduceIte, reduceCtorEq, Bool.false_eq_true, Bool.true_eq_false, Nat.reduceAdd, Nat.reduceLT, Nat.reduceEqDiff, Nat.reduceLeDiff, Nat.reduceSub, Nat.reduceMul, Try.f51]
  refine V.loop (fun m ls os => ∃ (i j : Nat), i ≤ j ∧ j ≤ xs.length ∧ m = j - i ∧ bsI (cAt c xs) i j = r ∧
        ls = [(0, .val (.row xs)), (1, .val t), (2, .val (.fn g caps)), (8, .val (.int .i64 xs.length)), (9, .val (.int .i64 i)), (10, .val (.int .i64 j))] ∧ os = []) 0 xs.length
      [(0, .val (.row xs)), (1, .val t), (2, .val (.fn g caps)), (8, .val (.int .i64 xs.length)), (9, .val (.int .i64 0)), (10, .val (.int .i64 xs.length))] [] []
      ⟨0, xs.length, Nat.zero_le _, Nat.le_refl _, rfl, hR, rfl, rfl⟩ (by simp only [go_sem, ↓reduceIte, reduceCtorEq, Bool.false_eq_true, Bool.true_eq_false, Nat.reduceAdd, Nat.reduceLT, Nat.reduceEqDiff, Nat.reduceLeDiff, Nat.reduceSub, Nat.reduceMul]) ?_
  rintro m ls os ⟨i, j, hij, hjl, rfl, hr, rfl, rfl⟩
  refine V.exec 400 ?_
  by_cases hlt : i < j
  · have hlt' : (i : Int) < (j : Int) := by omega
    have hm : (i + j) / 2 < xs.length := by omega
    obtain ⟨x, hx⟩ : ∃ x, xs[(i + j) / 2]? = some x := ⟨_, List.getElem?_eq_getElem hm⟩
    have hxm : x ∈ xs := List.mem_of_getElem? hx
    obtain ⟨hxc, hxa⟩ := h1 x hxm
    have hca : cAt c xs ((i + j) / 2) = c x := by simp [cAt, hx]
    rw [bsI, dif_pos hlt, hca] at hr
    have hw1 : IntKind.i64.wrap ((i : Int) + (j : Int)) = ((i + j : Nat) : Int) := by rw [wrap_small2] <;> omega
    have hw2 : IntKind.u64.wrap ((i + j : Nat) : Int) = ((i + j : Nat) : Int) := by rw [wrap_u2] <;> omega
    have hw3 : ((i + j : Nat) : Int) / 2 = (((i + j) / 2 : Nat) : Int) := by omega
    have hw4 : IntKind.i64.wrap (((i + j) / 2 : Nat) : Int) = (((i + j) / 2 : Nat) : Int) := by rw [wrap_small2] <;> omega
    have hw5 : IntKind.i64.wrap ((((i + j) / 2 : Nat) : Int) + 1) = (((i + j) / 2 + 1 : Nat) : Int) := by rw [wrap_small2] <;> omega
    simp (config := {contextual := true}) only [go_sem, ↓reduceIte, reduceCtorEq, Bool.false_eq_true, Bool.true_eq_false, Nat.reduceAdd, Nat.reduceLT, Nat.reduceEqDiff, Nat.reduceLeDiff, Nat.reduceSub, Nat.reduceMul, hlt', hw1, hw2, hw3, hw4, hx, hxc, hxa]
    refine V.call rfl rfl (by simp [dOK]) ⟨g, caps, by simp only [go_sem, ↓reduceIte, reduceCtorEq, Bool.false_eq_true, Bool.true_eq_false, Nat.reduceAdd, Nat.reduceLT, Nat.reduceEqDiff, Nat.reduceLeDiff, Nat.reduceSub, Nat.reduceMul], hg, .inl ⟨[x, t], _, .inl (by simp only [go_sem, ↓reduceIte, reduceCtorEq, Bool.false_eq_true, Bool.true_eq_false, Nat.reduceAdd, Nat.reduceLT, Nat.reduceEqDiff, Nat.reduceLeDiff, Nat.reduceSub, Nat.reduceMul]), hp x hxm, .inl ⟨_, rfl, rfl, rfl, rfl⟩⟩⟩ ?_
    refine V.exec 400 ?_
    simp (config := {contextual := true}) only [go_sem, ↓reduceIte, reduceCtorEq, Bool.false_eq_true, Bool.true_eq_false, Nat.reduceAdd, Nat.reduceLT, Nat.reduceEqDiff, Nat.reduceLeDiff, Nat.reduceSub, Nat.reduceMul, hw5]
    constructor
    · intro hc
      rw [if_pos hc] at hr
      exact ⟨j - ((i + j) / 2 + 1), _, [], [], by omega, ⟨(i + j) / 2 + 1, j, by omega, hjl, rfl, hr, rfl, rfl⟩, by simp only [go_sem, ↓reduceIte, reduceCtorEq, Bool.false_eq_true, Bool.true_eq_false, Nat.reduceAdd, Nat.reduceLT, Nat.reduceEqDiff, Nat.reduceLeDiff, Nat.reduceSub, Nat.reduceMul]⟩
    · intro hc
      rw [if_neg hc] at hr
      exact ⟨(i + j) / 2 - i, _, [], [], by omega, ⟨i, (i + j) / 2, by omega, by omega, rfl, hr, rfl, rfl⟩, by simp only [go_sem, ↓reduceIte, reduceCtorEq, Bool.false_eq_true, Bool.true_eq_false, Nat.reduceAdd, Nat.reduceLT, Nat.reduceEqDiff, Nat.reduceLeDiff, Nat.reduceSub, Nat.reduceMul]⟩
  · have hlt' : ¬ (i : Int) < (j : Int) := by omega
    rw [bsI, dif_neg hlt] at hr
    subst hr
    by_cases hil : i < xs.length
    · have hil' : (i : Int) < (xs.length : Int) := by omega
      obtain ⟨x, hx⟩ : ∃ x, xs[i]? = some x := ⟨_, List.getElem?_eq_getElem hil⟩
      have hxm : x ∈ xs := List.mem_of_getElem? hx
      obtain ⟨hxc, hxa⟩ := h1 x hxm
      simp (config := {contextual := true}) only [go_sem, ↓reduceIte, reduceCtorEq, Bool.false_eq_true, Bool.true_eq_false, Nat.reduceAdd, Nat.reduceLT, Nat.reduceEqDiff, Nat.reduceLeDiff, Nat.reduceSub, Nat.reduceMul, hlt', hil', hx, hxc, hxa]
      refine V.call rfl rfl (by simp [dOK]) ⟨g, caps, by simp only [go_sem, ↓reduceIte, reduceCtorEq, Bool.false_eq_true, Bool.true_eq_false, Nat.reduceAdd, Nat.reduceLT, Nat.reduceEqDiff, Nat.reduceLeDiff, Nat.reduceSub, Nat.reduceMul], hg, .inl ⟨[x, t], _, .inl (by simp only [go_sem, ↓reduceIte, reduceCtorEq, Bool.false_eq_true, Bool.true_eq_false, Nat.reduceAdd, Nat.reduceLT, Nat.reduceEqDiff, Nat.reduceLeDiff, Nat.reduceSub, Nat.reduceMul]), hp x hxm, .inl ⟨_, rfl, rfl, rfl, rfl⟩⟩⟩ ?_
      refine V.exec 400 ?_
      simp (config := {contextual := true}) only [go_sem, ↓reduceIte, reduceCtorEq, Bool.false_eq_true, Bool.true_eq_false, Nat.reduceAdd, Nat.reduceLT, Nat.reduceEqDiff, Nat.reduceLeDiff, Nat.reduceSub, Nat.reduceMul, hx]
      simp [hx]
    · have hil' : ¬ (i : Int) < (xs.length : Int) := by omega
      simp (config := {contextual := true}) only [go_sem, ↓reduceIte, reduceCtorEq, Bool.false_eq_true, Bool.true_eq_false, Nat.reduceAdd, Nat.reduceLT, Nat.reduceEqDiff, Nat.reduceLeDiff, Nat.reduceSub, Nat.reduceMul, hlt', hil']
      have : xs[i]? = none := List.getElem?_eq_none (by omega)
      simp [this]

theorem BSearchPair (xs : List PV) (t : PV) (g : FuncId) (caps : List PV) (c : PV → Int) (h1 : ∀ x ∈ xs, x.cells.length = 2 ∧ x.isAgg = true) (hl : xs.length ≤ 1000000) (hg : Entered Try.prog g)
    (hp : ∀ x ∈ xs, Ct Try.prog g (YtglpemnejngkaaaVm.ops ([x, t] ++ caps)) (.vals [.int .i64 (c x)])) (r : Nat) (hr : r ≤ xs.length) (hr1 : ∀ i x, i < r → xs[i]? = some x → c x < 0) (hr2 : ∀ i x, r ≤ i → xs[i]? = some x → ¬ c x < 0) :
    Ct Try.prog 51 (YtglpemnejngkaaaVm.ops [.row xs, t, .fn g caps]) (.vals [.int .i64 r, .bool (decide (∃ x, xs[r]? = some x ∧ c x = 0))]) := by
  have h := BSearchPair_any xs t g caps c h1 hl hg hp
  have e : bsI (cAt c xs) 0 xs.length = r := bsI_eq (cAt c xs) 0 xs.length r (Nat.zero_le _) hr (fun m _ hm => by
      obtain ⟨x, hx⟩ : ∃ x, xs[m]? = some x := ⟨_, List.getElem?_eq_getElem (by omega)⟩
      have := hr1 m x hm hx
      simpa [cAt, hx] using this) (fun m hm hm2 => by
      obtain ⟨x, hx⟩ : ∃ x, xs[m]? = some x := ⟨_, List.getElem?_eq_getElem hm2⟩
      have := hr2 m x hm hx
      simpa [cAt, hx] using this)
  rw [e] at h
  exact h
end Go.Proofs.Ytglpemnejngkaaa
