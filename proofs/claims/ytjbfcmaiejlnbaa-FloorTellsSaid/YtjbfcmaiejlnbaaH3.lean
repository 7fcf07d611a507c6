/- A part of a proof: functions of the program, walked. -/
import Derived.Test.YtjbfcmaiejlnbaaH2
set_option linter.unusedVariables false
set_option linter.unusedSimpArgs false
namespace Go.Proofs.Ytjbfcmaiejlnbaa
open Go Go.Proofs Go.Proofs.YtjbfcmaiejlnbaaVm Go.Proofs.Ytjbfcmaiejlnbaa.Ty

set_option maxRecDepth 10000 in
set_option maxHeartbeats 8000000 in
theorem law_Refs (l : List Sub) (hl : l.length ≤ 1000000) : Ct Try.prog 19 (YtjbfcmaiejlnbaaVm.ops [.row (l.map Sub.pv)]) (.vals [.row (l.map Sub.pv)]) := by
  refine Ct.of_V Try.func19 rfl (by simp [YtjbfcmaiejlnbaaVm.ops, Try.f19]) ?_
  refine V.exec 400 ?_
  simp (config := {contextual := true}) only [go_sem, ↓reduceIte, reduceCtorEq, Bool.false_eq_true, Bool.true_eq_false, Nat.reduceAdd, Nat.reduceLT, Nat.reduceEqDiff, Nat.reduceLeDiff, Nat.reduceSub, Nat.reduceMul, Try.f19]
  refine V.loop (fun m ls os => ∃ i : Nat, i ≤ l.length ∧ m = l.length - i ∧
      ls = [(3, .ref 0), (6, .val (.row (l.map Sub.pv))), (7, .val (.int .i64 l.length)), (8, .val (.int .i64 i))] ∧ os = [.row 56 ((l.take i).map Sub.pv)]) 1 l.length
    [(3, .ref 0), (6, .val (.row (l.map Sub.pv))), (7, .val (.int .i64 l.length)), (8, .val (.int .i64 0))] [.row 56 []] [none]
    ⟨0, Nat.zero_le _, rfl, rfl, rfl⟩ (by simp only [go_sem, ↓reduceIte, reduceCtorEq, Bool.false_eq_true, Bool.true_eq_false, Nat.reduceAdd, Nat.reduceLT, Nat.reduceEqDiff, Nat.reduceLeDiff, Nat.reduceSub, Nat.reduceMul]; try decide) ?_
  rintro m ls os ⟨i, hi, rfl, rfl, rfl⟩
  refine V.exec 400 ?_
  by_cases hlt : i < l.length
  · have hlt' : (i : Int) < (l.length : Int) := by omega
    obtain ⟨x, hx⟩ : ∃ x, l[i]? = some x := ⟨_, List.getElem?_eq_getElem hlt⟩
    have hw : IntKind.i64.wrap ((i : Int) + 1) = ((i + 1 : Nat) : Int) := by rw [wrap_small3] <;> omega
    simp (config := {contextual := true}) only [go_sem, ↓reduceIte, reduceCtorEq, Bool.false_eq_true, Bool.true_eq_false, Nat.reduceAdd, Nat.reduceLT, Nat.reduceEqDiff, Nat.reduceLeDiff, Nat.reduceSub, Nat.reduceMul, hlt', hx, Sub.pv, hw]
    have hti : (l.take i).length = i := by simp; omega
    refine ⟨⟨by omega, by omega⟩, l.length - (i + 1), _, _, [some 9], by omega, ⟨i + 1, by omega, rfl, rfl, rfl⟩, ?_⟩
    simp only [go_sem, ↓reduceIte, reduceCtorEq, Bool.false_eq_true, Bool.true_eq_false, Nat.reduceAdd, Nat.reduceLT, Nat.reduceEqDiff, Nat.reduceLeDiff, Nat.reduceSub, Nat.reduceMul, List.take_add_one, hx, Option.toList_some, List.map_append, List.map_cons, List.map_nil, Sub.pv]
    try decide
  · have hlt' : ¬ (i : Int) < (l.length : Int) := by omega
    simp (config := {contextual := true}) only [go_sem, ↓reduceIte, reduceCtorEq, Bool.false_eq_true, Bool.true_eq_false, Nat.reduceAdd, Nat.reduceLT, Nat.reduceEqDiff, Nat.reduceLeDiff, Nat.reduceSub, Nat.reduceMul, hlt']
    rw [List.take_of_length_le (by omega)]

theorem ref03_Right (r : Range) : Ct Try.prog 50 (YtjbfcmaiejlnbaaVm.ops [r.pv]) (.vals [.bool (decide r.ok)]) := by
  refine Ct.of_V Try.func50 rfl (by simp [YtjbfcmaiejlnbaaVm.ops, Try.f50]) ?_
  refine V.exec 400 ?_
  simp (config := {contextual := true}) only [go_sem, ↓reduceIte, reduceCtorEq, Bool.false_eq_true, Bool.true_eq_false, Nat.reduceAdd, Nat.reduceLT, Nat.reduceEqDiff, Nat.reduceLeDiff, Nat.reduceSub, Nat.reduceMul, Try.f50, Range.pv]
  have e0 : r.hi = [] ↔ r.hi.length = 0 := by simp
  simp only [Option.some.injEq, List.cons.injEq, PV.bool.injEq, and_true]
  (repeat' (first | (intro _) | (refine ⟨by kernel_rfl, ?_⟩) | (apply And.intro)))
  all_goals grind [Range.ok]

set_option maxHeartbeats 2000000 in
theorem ref19_Right (s : Sub) : Ct Try.prog 37 (YtjbfcmaiejlnbaaVm.ops [s.pv]) (.vals [.bool (decide s.ok)]) := by
  refine Ct.of_V Try.func37 rfl (by simp [YtjbfcmaiejlnbaaVm.ops, Try.f37]) ?_
  refine V.exec 400 ?_
  simp (config := {contextual := true}) only [go_sem, ↓reduceIte, reduceCtorEq, Bool.false_eq_true, Bool.true_eq_false, Nat.reduceAdd, Nat.reduceLT, Nat.reduceEqDiff, Nat.reduceLeDiff, Nat.reduceSub, Nat.reduceMul, Try.f37, Sub.pv]
  refine V.call rfl rfl (by simp [dOK]) ⟨50, [], by simp only [go_sem, ↓reduceIte, reduceCtorEq, Bool.false_eq_true, Bool.true_eq_false, Nat.reduceAdd, Nat.reduceLT, Nat.reduceEqDiff, Nat.reduceLeDiff, Nat.reduceSub, Nat.reduceMul], ⟨_, rfl, rfl, rfl⟩, .inl ⟨[s.r.pv], _, .inl (by simp only [go_sem, ↓reduceIte, reduceCtorEq, Bool.false_eq_true, Bool.true_eq_false, Nat.reduceAdd, Nat.reduceLT, Nat.reduceEqDiff, Nat.reduceLeDiff, Nat.reduceSub, Nat.reduceMul, Range.pv]), ref03_Right s.r, .inl ⟨_, rfl, rfl, rfl, rfl⟩⟩⟩ ?_
  refine V.exec 400 ?_
  simp (config := {contextual := true}) only [go_sem, ↓reduceIte, reduceCtorEq, Bool.false_eq_true, Bool.true_eq_false, Nat.reduceAdd, Nat.reduceLT, Nat.reduceEqDiff, Nat.reduceLeDiff, Nat.reduceSub, Nat.reduceMul]
  simp only [Option.some.injEq, List.cons.injEq, PV.bool.injEq, and_true]
  (repeat' (first | (intro _) | (refine ⟨by kernel_rfl, ?_⟩) | (apply And.intro)))
  all_goals grind [Sub.ok]

def lastId (l : List Sub) (i : Nat) : Int := if i = 0 then 0 else match l[i - 1]? with | some s => s.id | none => 0

set_option maxRecDepth 4000 in
set_option maxHeartbeats 8000000 in
theorem ref20_Right (l : List Sub) (hl : l.length ≤ 1000000) : Ct Try.prog 20 (YtjbfcmaiejlnbaaVm.ops [.row (l.map Sub.pv)]) (.vals [.bool (decide (subsOk l))]) := by
  refine Ct.of_V Try.func20 rfl (by simp [YtjbfcmaiejlnbaaVm.ops, Try.f20]) ?_
  refine V.exec 400 ?_
  simp (config := {contextual := true}) only [go_sem, ↓reduceIte, reduceCtorEq, Bool.false_eq_true, Bool.true_eq_false, Nat.reduceAdd, Nat.reduceLT, Nat.reduceEqDiff, Nat.reduceLeDiff, Nat.reduceSub, Nat.reduceMul, Try.f20]
  refine V.loop (fun m ls os => ∃ (i : Nat), i ≤ l.length ∧ m = l.length - i ∧ 0 ≤ lastId l i ∧ (rightFrom 0 l ↔ rightFrom (lastId l i) (l.drop i)) ∧
        ls = [(0, .val (.row (l.map Sub.pv))), (3, .val (.int .i64 i))] ∧ os = []) 0 l.length
      [(0, .val (.row (l.map Sub.pv))), (3, .val (.int .i64 0))] [] []
      ⟨0, Nat.zero_le _, rfl, Int.le_refl _, Iff.rfl, rfl, rfl⟩ (by simp only [go_sem, ↓reduceIte, reduceCtorEq, Bool.false_eq_true, Bool.true_eq_false, Nat.reduceAdd, Nat.reduceLT, Nat.reduceEqDiff, Nat.reduceLeDiff, Nat.reduceSub, Nat.reduceMul]) ?_
  rintro m ls os ⟨i, hi, rfl, hla, hiff, rfl, rfl⟩
  refine V.exec 400 ?_
  by_cases hlt : i < l.length
  · have hlt' : (i : Int) < (l.length : Int) := by omega
    obtain ⟨x, hx⟩ : ∃ x, l[i]? = some x := ⟨_, List.getElem?_eq_getElem hlt⟩
    have hw : IntKind.i64.wrap ((i : Int) + 1) = ((i + 1 : Nat) : Int) := by rw [wrap_small3] <;> omega
    rw [drop_of_get hx, rightFrom] at hiff
    have hpk : lastId l (i + 1) = x.id := by simp [lastId, hx]
    have fin : x.ok → lastId l i < x.id → (rightFrom 0 l ↔ rightFrom (lastId l (i + 1)) (l.drop (i + 1))) := fun a b => by
      rw [hiff, hpk]; exact ⟨fun h => h.2.2, fun h => ⟨a, b, h⟩⟩
    have hfalse : ¬ rightFrom 0 l → some [PV.bool false] = some [PV.bool (decide (subsOk l))] := fun h => by
      have : ¬ subsOk l := fun g => h g.1
      simp [this]
    simp (config := {contextual := true}) only [go_sem, ↓reduceIte, reduceCtorEq, Bool.false_eq_true, Bool.true_eq_false, Nat.reduceAdd, Nat.reduceLT, Nat.reduceEqDiff, Nat.reduceLeDiff, Nat.reduceSub, Nat.reduceMul, hlt', hx, Sub.pv]
    refine V.call rfl rfl (by simp [dOK]) ⟨37, [], by simp only [go_sem, ↓reduceIte, reduceCtorEq, Bool.false_eq_true, Bool.true_eq_false, Nat.reduceAdd, Nat.reduceLT, Nat.reduceEqDiff, Nat.reduceLeDiff, Nat.reduceSub, Nat.reduceMul], ⟨_, rfl, rfl, rfl⟩, .inl ⟨[x.pv], _, .inl (by simp only [go_sem, ↓reduceIte, reduceCtorEq, Bool.false_eq_true, Bool.true_eq_false, Nat.reduceAdd, Nat.reduceLT, Nat.reduceEqDiff, Nat.reduceLeDiff, Nat.reduceSub, Nat.reduceMul, Sub.pv]), ref19_Right x, .inl ⟨_, rfl, rfl, rfl, rfl⟩⟩⟩ ?_
    refine V.exec 400 ?_
    by_cases hok : x.ok
    · rcases Nat.eq_zero_or_pos i with rfl | hpos
      · have hz : ¬ (0 : Int) < ((0 : Nat) : Int) := by omega
        have hl0 : lastId l 0 = 0 := rfl
        simp (config := {contextual := true}) only [go_sem, ↓reduceIte, reduceCtorEq, Bool.false_eq_true, Bool.true_eq_false, Nat.reduceAdd, Nat.reduceLT, Nat.reduceEqDiff, Nat.reduceLeDiff, Nat.reduceSub, Nat.reduceMul, hlt', hx, Sub.pv, hw, hz, hok]
        (repeat' (first | (intro _) | (refine ⟨by kernel_rfl, ?_⟩) | (apply And.intro)))
        all_goals first
          | (refine hfalse fun h => ?_
             have := (hiff.1 h).2.1
             omega)
          | exact ⟨l.length - (0 + 1), _, [], [], by omega, ⟨1, by omega, rfl, by rw [hpk]; omega, fin hok (by omega), rfl, rfl⟩, by simp only [go_sem, ↓reduceIte, reduceCtorEq, Bool.false_eq_true, Bool.true_eq_false, Nat.reduceAdd, Nat.reduceLT, Nat.reduceEqDiff, Nat.reduceLeDiff, Nat.reduceSub, Nat.reduceMul]⟩
      · obtain ⟨j, rfl⟩ : ∃ j, i = j + 1 := ⟨i - 1, by omega⟩
        have hw2 : IntKind.i64.wrap (((j + 1 : Nat) : Int) - 1) = (j : Int) := by rw [wrap_small3] <;> omega
        have hjp : (0 : Int) < ((j + 1 : Nat) : Int) := by omega
        obtain ⟨y, hy⟩ : ∃ y, l[j]? = some y := ⟨_, List.getElem?_eq_getElem (by omega)⟩
        have hlj : lastId l (j + 1) = y.id := by simp [lastId, hy]
        simp (config := {contextual := true}) only [go_sem, ↓reduceIte, reduceCtorEq, Bool.false_eq_true, Bool.true_eq_false, Nat.reduceAdd, Nat.reduceLT, Nat.reduceEqDiff, Nat.reduceLeDiff, Nat.reduceSub, Nat.reduceMul, hlt', hx, Sub.pv, hw, hw2, hjp, hy, hok]
        (repeat' (first | (intro _) | (refine ⟨by kernel_rfl, ?_⟩) | (apply And.intro)))
        all_goals first
          | (refine hfalse fun h => ?_
             have := (hiff.1 h).2.1
             omega)
          | exact ⟨l.length - (j + 1 + 1), _, [], [], by omega, ⟨j + 1 + 1, by omega, rfl, by rw [hpk]; omega, fin hok (by omega), rfl, rfl⟩, by simp only [go_sem, ↓reduceIte, reduceCtorEq, Bool.false_eq_true, Bool.true_eq_false, Nat.reduceAdd, Nat.reduceLT, Nat.reduceEqDiff, Nat.reduceLeDiff, Nat.reduceSub, Nat.reduceMul]⟩
    · simp (config := {contextual := true}) only [go_sem, ↓reduceIte, reduceCtorEq, Bool.false_eq_true, Bool.true_eq_false, Nat.reduceAdd, Nat.reduceLT, Nat.reduceEqDiff, Nat.reduceLeDiff, Nat.reduceSub, Nat.reduceMul, hlt', hx, Sub.pv, hw, hok]
      (repeat' (first | (intro _) | (refine ⟨by kernel_rfl, ?_⟩) | (apply And.intro)))
      all_goals exact hfalse fun h => hok (hiff.1 h).1
  · have hlt' : ¬ (i : Int) < (l.length : Int) := by omega
    have hd : l.drop i = [] := List.drop_eq_nil_of_le (by omega)
    rw [hd, rightFrom] at hiff
    simp (config := {contextual := true}) only [go_sem, ↓reduceIte, reduceCtorEq, Bool.false_eq_true, Bool.true_eq_false, Nat.reduceAdd, Nat.reduceLT, Nat.reduceEqDiff, Nat.reduceLeDiff, Nat.reduceSub, Nat.reduceMul, hlt']
    have e1 : ((l.length : Int) ≤ 4) = (l.length ≤ 4) := by apply propext; omega
    simp [subsOk, hiff, e1]

/-- The first place of an Id; -1: nobody has it. -/
def refFind (l : List Sub) (id : Int) : Int := match l.findIdx? (fun s => decide (s.id = id)) with
  | some i => i
  | none => -1

set_option maxHeartbeats 4000000 in
theorem ref20_Find (l : List Sub) (id : Int) (hl : l.length ≤ 1000000) : Ct Try.prog 25 (YtjbfcmaiejlnbaaVm.ops [.row (l.map Sub.pv), .int .i64 id]) (.vals [.int .i64 (refFind l id)]) := by
  refine Ct.of_V Try.func25 rfl (by simp [YtjbfcmaiejlnbaaVm.ops, Try.f25]) ?_
  refine V.exec 400 ?_
  simp (config := {contextual := true}) only [go_sem, ↓reduceIte, reduceCtorEq, Bool.false_eq_true, Bool.true_eq_false, Nat.reduceAdd, Nat.reduceLT, Nat.reduceEqDiff, Nat.reduceLeDiff, Nat.reduceSub, Nat.reduceMul, Try.f25]
  refine V.loop (fun m ls os => ∃ (i : Nat), i ≤ l.length ∧ m = l.length - i ∧ (∀ s ∈ l.take i, s.id ≠ id) ∧
        ls = [(0, .val (.row (l.map Sub.pv))), (1, .val (.int .i64 id)), (5, .val (.int .i64 i))] ∧ os = []) 0 l.length
      [(0, .val (.row (l.map Sub.pv))), (1, .val (.int .i64 id)), (5, .val (.int .i64 0))] [] []
      ⟨0, Nat.zero_le _, rfl, by simp, rfl, rfl⟩ (by simp only [go_sem, ↓reduceIte, reduceCtorEq, Bool.false_eq_true, Bool.true_eq_false, Nat.reduceAdd, Nat.reduceLT, Nat.reduceEqDiff, Nat.reduceLeDiff, Nat.reduceSub, Nat.reduceMul]) ?_
  rintro m ls os ⟨i, hi, rfl, hno, rfl, rfl⟩
  refine V.exec 400 ?_
  by_cases hlt : i < l.length
  · have hlt' : (i : Int) < (l.length : Int) := by omega
    obtain ⟨x, hx⟩ : ∃ x, l[i]? = some x := ⟨_, List.getElem?_eq_getElem hlt⟩
    have hxe := (List.getElem?_eq_some_iff.1 hx).2
    have hw : IntKind.i64.wrap ((i : Int) + 1) = ((i + 1 : Nat) : Int) := by rw [wrap_small3] <;> omega
    simp (config := {contextual := true}) only [go_sem, ↓reduceIte, reduceCtorEq, Bool.false_eq_true, Bool.true_eq_false, Nat.reduceAdd, Nat.reduceLT, Nat.reduceEqDiff, Nat.reduceLeDiff, Nat.reduceSub, Nat.reduceMul, hlt', hx, Sub.pv, hw]
    refine ⟨fun he => ?_, fun hne => ?_⟩
    · have hf : l.findIdx? (fun s => decide (s.id = id)) = some i := by
        rw [List.findIdx?_eq_some_iff_getElem]
        refine ⟨hlt, by rw [hxe]; simpa using he, fun j hj => ?_⟩
        have := hno l[j] (by rw [List.mem_take_iff_getElem]; exact ⟨j, by omega, rfl⟩)
        simpa using this
      have hv : refFind l id = (i : Int) := by simp only [refFind, hf]
      simp [hv]
    · refine ⟨l.length - (i + 1), _, [], [], by omega, ⟨i + 1, by omega, rfl, fun s hs => ?_, rfl, rfl⟩, by simp only [go_sem, ↓reduceIte, reduceCtorEq, Bool.false_eq_true, Bool.true_eq_false, Nat.reduceAdd, Nat.reduceLT, Nat.reduceEqDiff, Nat.reduceLeDiff, Nat.reduceSub, Nat.reduceMul]⟩
      rw [List.take_add_one, hx] at hs
      rcases List.mem_append.1 hs with hs | hs
      · exact hno s hs
      · simp at hs; rw [hs]; exact hne
  · have hlt' : ¬ (i : Int) < (l.length : Int) := by omega
    simp (config := {contextual := true}) only [go_sem, ↓reduceIte, reduceCtorEq, Bool.false_eq_true, Bool.true_eq_false, Nat.reduceAdd, Nat.reduceLT, Nat.reduceEqDiff, Nat.reduceLeDiff, Nat.reduceSub, Nat.reduceMul, hlt']
    rw [List.take_of_length_le (by omega)] at hno
    have hf : l.findIdx? (fun s => decide (s.id = id)) = none := by
      rw [List.findIdx?_eq_none_iff]
      intro x hx
      simpa using hno x hx
    simp only [refFind, hf]

set_option maxHeartbeats 4000000 in
theorem ref20_Of (head : Int) (l : List Sub) (hl : l.length ≤ 1000000) : Ct Try.prog 27 (YtjbfcmaiejlnbaaVm.ops [.int .i64 head, .row (l.map Sub.pv)]) (.vals [.int .i64 (floorOf head l)]) := by
  refine Ct.of_V Try.func27 rfl (by simp [YtjbfcmaiejlnbaaVm.ops, Try.f27]) ?_
  refine V.exec 400 ?_
  simp (config := {contextual := true}) only [go_sem, ↓reduceIte, reduceCtorEq, Bool.false_eq_true, Bool.true_eq_false, Nat.reduceAdd, Nat.reduceLT, Nat.reduceEqDiff, Nat.reduceLeDiff, Nat.reduceSub, Nat.reduceMul, Try.f27]
  refine V.loop (fun m ls os => ∃ (i : Nat) (h : Int), i ≤ l.length ∧ m = l.length - i ∧ floorOf head l = floorOf h (l.drop i) ∧
        ls = [(0, .val (.int .i64 h)), (1, .val (.row (l.map Sub.pv))), (5, .val (.int .i64 i))] ∧ os = []) 0 l.length
      [(0, .val (.int .i64 head)), (1, .val (.row (l.map Sub.pv))), (5, .val (.int .i64 0))] [] []
      ⟨0, head, Nat.zero_le _, rfl, rfl, rfl, rfl⟩ (by simp only [go_sem, ↓reduceIte, reduceCtorEq, Bool.false_eq_true, Bool.true_eq_false, Nat.reduceAdd, Nat.reduceLT, Nat.reduceEqDiff, Nat.reduceLeDiff, Nat.reduceSub, Nat.reduceMul]) ?_
  rintro m ls os ⟨i, h, hi, rfl, heq, rfl, rfl⟩
  refine V.exec 400 ?_
  by_cases hlt : i < l.length
  · have hlt' : (i : Int) < (l.length : Int) := by omega
    obtain ⟨x, hx⟩ : ∃ x, l[i]? = some x := ⟨_, List.getElem?_eq_getElem hlt⟩
    have hw : IntKind.i64.wrap ((i : Int) + 1) = ((i + 1 : Nat) : Int) := by rw [wrap_small3] <;> omega
    rw [drop_of_get hx, floorOf] at heq
    simp (config := {contextual := true}) only [go_sem, ↓reduceIte, reduceCtorEq, Bool.false_eq_true, Bool.true_eq_false, Nat.reduceAdd, Nat.reduceLT, Nat.reduceEqDiff, Nat.reduceLeDiff, Nat.reduceSub, Nat.reduceMul, hlt', hx, Sub.pv, hw]
    refine ⟨fun hc => ?_, fun hc => ?_⟩
    · rw [show min h x.cur = x.cur by omega] at heq
      exact ⟨l.length - (i + 1), _, [], [], by omega, ⟨i + 1, x.cur, by omega, rfl, heq, rfl, rfl⟩, by simp only [go_sem, ↓reduceIte, reduceCtorEq, Bool.false_eq_true, Bool.true_eq_false, Nat.reduceAdd, Nat.reduceLT, Nat.reduceEqDiff, Nat.reduceLeDiff, Nat.reduceSub, Nat.reduceMul]⟩
    · rw [show min h x.cur = h by omega] at heq
      exact ⟨l.length - (i + 1), _, [], [], by omega, ⟨i + 1, h, by omega, rfl, heq, rfl, rfl⟩, by simp only [go_sem, ↓reduceIte, reduceCtorEq, Bool.false_eq_true, Bool.true_eq_false, Nat.reduceAdd, Nat.reduceLT, Nat.reduceEqDiff, Nat.reduceLeDiff, Nat.reduceSub, Nat.reduceMul]⟩
  · have hlt' : ¬ (i : Int) < (l.length : Int) := by omega
    have hd : l.drop i = [] := List.drop_eq_nil_of_le (by omega)
    rw [hd, floorOf] at heq
    simp (config := {contextual := true}) only [go_sem, ↓reduceIte, reduceCtorEq, Bool.false_eq_true, Bool.true_eq_false, Nat.reduceAdd, Nat.reduceLT, Nat.reduceEqDiff, Nat.reduceLeDiff, Nat.reduceSub, Nat.reduceMul, hlt', heq]

set_option maxHeartbeats 8000000 in
theorem ref20_Same (a b : List Sub) (hb : b.length ≤ 1000000) : Ct Try.prog 26 (YtjbfcmaiejlnbaaVm.ops [.row (a.map Sub.pv), .row (b.map Sub.pv)]) (.vals [.bool (decide (a = b))]) := by
  refine Ct.of_V Try.func26 rfl (by simp [YtjbfcmaiejlnbaaVm.ops, Try.f26]) ?_
  refine V.exec 400 ?_
  by_cases hl : a.length = b.length
  · simp (config := {contextual := true}) only [go_sem, ↓reduceIte, reduceCtorEq, Bool.false_eq_true, Bool.true_eq_false, Nat.reduceAdd, Nat.reduceLT, Nat.reduceEqDiff, Nat.reduceLeDiff, Nat.reduceSub, Nat.reduceMul, Try.f26, hl]
    refine V.loop (fun m ls os => ∃ i : Nat, i ≤ b.length ∧ m = b.length - i ∧ a.take i = b.take i ∧
        ls = [(0, .val (.row (a.map Sub.pv))), (1, .val (.row (b.map Sub.pv))), (5, .val (.int .i64 i))] ∧ os = []) 0 b.length [(0, .val (.row (a.map Sub.pv))), (1, .val (.row (b.map Sub.pv))), (5, .val (.int .i64 0))] [] []
      ⟨0, Nat.zero_le _, rfl, rfl, rfl, rfl⟩ (by simp only [go_sem, ↓reduceIte, reduceCtorEq, Bool.false_eq_true, Bool.true_eq_false, Nat.reduceAdd, Nat.reduceLT, Nat.reduceEqDiff, Nat.reduceLeDiff, Nat.reduceSub, Nat.reduceMul]) ?_
    rintro m ls os ⟨i, hi, rfl, heq, rfl, rfl⟩
    refine V.exec 400 ?_
    by_cases hlt : i < b.length
    · have hlt' : (i : Int) < (b.length : Int) := by omega
      have hla : i < a.length := by omega
      obtain ⟨x, hx⟩ : ∃ x, a[i]? = some x := ⟨_, List.getElem?_eq_getElem hla⟩
      obtain ⟨y, hy⟩ : ∃ y, b[i]? = some y := ⟨_, List.getElem?_eq_getElem hlt⟩
      have hw : IntKind.i64.wrap ((i : Int) + 1) = ((i + 1 : Nat) : Int) := by rw [wrap_small3] <;> omega
      have hinj := Sub.inj x y
      simp only [Sub.pv] at hinj
      simp (config := {contextual := true}) only [go_sem, ↓reduceIte, reduceCtorEq, Bool.false_eq_true, Bool.true_eq_false, Nat.reduceAdd, Nat.reduceLT, Nat.reduceEqDiff, Nat.reduceLeDiff, Nat.reduceSub, Nat.reduceMul, hl, hlt', hx, hy, Sub.pv, hw, hinj]
      refine ⟨by kernel_rfl, fun hne => ?_, fun he => ⟨b.length - (i + 1), _, [], [], by omega, ⟨i + 1, by omega, rfl, ?_, rfl, rfl⟩, ?_⟩⟩
      · have : a ≠ b := fun e => hne (by rw [e, hy] at hx; cases hx; rfl)
        simp [this]
      · rw [List.take_add_one, List.take_add_one, heq, hx, hy, he]
      · simp only [go_sem, ↓reduceIte, reduceCtorEq, Bool.false_eq_true, Bool.true_eq_false, Nat.reduceAdd, Nat.reduceLT, Nat.reduceEqDiff, Nat.reduceLeDiff, Nat.reduceSub, Nat.reduceMul]
    · have hlt' : ¬ (i : Int) < (b.length : Int) := by omega
      simp (config := {contextual := true}) only [go_sem, ↓reduceIte, reduceCtorEq, Bool.false_eq_true, Bool.true_eq_false, Nat.reduceAdd, Nat.reduceLT, Nat.reduceEqDiff, Nat.reduceLeDiff, Nat.reduceSub, Nat.reduceMul, hl, hlt']
      have : a = b := by rw [List.take_of_length_le (by omega), List.take_of_length_le (by omega)] at heq; exact heq
      simp [this]
  · have hl' : ¬ (a.length : Int) = (b.length : Int) := by omega
    have : a ≠ b := fun e => hl (by rw [e])
    simp (config := {contextual := true}) only [go_sem, ↓reduceIte, reduceCtorEq, Bool.false_eq_true, Bool.true_eq_false, Nat.reduceAdd, Nat.reduceLT, Nat.reduceEqDiff, Nat.reduceLeDiff, Nat.reduceSub, Nat.reduceMul, Try.f26, hl', this, not_false_eq_true]
end Go.Proofs.Ytjbfcmaiejlnbaa
