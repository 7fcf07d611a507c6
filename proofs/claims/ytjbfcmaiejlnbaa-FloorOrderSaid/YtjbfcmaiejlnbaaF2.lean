/- A part of a proof: functions of the program, walked. -/
import Derived.Test.YtjbfcmaiejlnbaaF1
import Derived.Test.YtjbfcmaiejlnbaaBase
set_option linter.unusedVariables false
set_option linter.unusedSimpArgs false
namespace Go.Proofs.Ytjbfcmaiejlnbaa
open Go Go.Proofs Go.Proofs.YtjbfcmaiejlnbaaVm Go.Proofs.Ytjbfcmaiejlnbaa.Ty

def rightFrom (last : Int) : List Sub → Prop
  | [] => True
  | s :: r => s.ok ∧ last < s.id ∧ rightFrom s.id r
def subsOk (l : List Sub) : Prop := rightFrom 0 l ∧ l.length ≤ 4
instance instRF : ∀ (last : Int) (l : List Sub), Decidable (rightFrom last l)
  | _, [] => isTrue trivial
  | last, s :: r => by
    unfold rightFrom
    have := instRF s.id r
    infer_instance
instance instSubsOk (l : List Sub) : Decidable (subsOk l) := by unfold subsOk; infer_instance

set_option maxHeartbeats 4000000 in
theorem floor_Right (l : List Sub) (hl : l.length ≤ 1000000) : Ct Try.prog 13 (YtjbfcmaiejlnbaaVm.ops [.row (l.map Sub.pv)]) (.vals [.bool (decide (subsOk l))]) := by
  refine Ct.of_V Try.func13 rfl (by simp [YtjbfcmaiejlnbaaVm.ops, Try.f13]) ?_
  refine V.exec 400 ?_
  simp (config := {contextual := true}) only [go_sem, ↓reduceIte, reduceCtorEq, Bool.false_eq_true, Bool.true_eq_false, Nat.reduceAdd, Nat.reduceLT, Nat.reduceEqDiff, Nat.reduceLeDiff, Nat.reduceSub, Nat.reduceMul, Try.f13]
  refine V.loop (fun m ls os => ∃ (i : Nat) (last : Int), i ≤ l.length ∧ m = l.length - i ∧ (rightFrom 0 l ↔ rightFrom last (l.drop i)) ∧
        ls = [(0, .val (.row (l.map Sub.pv))), (3, .val (.int .i64 last)), (6, .val (.row (l.map Sub.pv))), (7, .val (.int .i64 l.length)), (8, .val (.int .i64 i))] ∧ os = []) 0 l.length
      [(0, .val (.row (l.map Sub.pv))), (3, .val (.int .i64 0)), (6, .val (.row (l.map Sub.pv))), (7, .val (.int .i64 l.length)), (8, .val (.int .i64 0))] [] []
      ⟨0, 0, Nat.zero_le _, rfl, Iff.rfl, rfl, rfl⟩ (by simp only [go_sem, ↓reduceIte, reduceCtorEq, Bool.false_eq_true, Bool.true_eq_false, Nat.reduceAdd, Nat.reduceLT, Nat.reduceEqDiff, Nat.reduceLeDiff, Nat.reduceSub, Nat.reduceMul]) ?_
  rintro m ls os ⟨i, last, hi, rfl, hiff, rfl, rfl⟩
  refine V.exec 400 ?_
  by_cases hlt : i < l.length
  · have hlt' : (i : Int) < (l.length : Int) := by omega
    obtain ⟨x, hx⟩ : ∃ x, l[i]? = some x := ⟨_, List.getElem?_eq_getElem hlt⟩
    have hw : IntKind.i64.wrap ((i : Int) + 1) = ((i + 1 : Nat) : Int) := by rw [wrap_small3] <;> omega
    rw [drop_of_get hx, rightFrom] at hiff
    simp (config := {contextual := true}) only [go_sem, ↓reduceIte, reduceCtorEq, Bool.false_eq_true, Bool.true_eq_false, Nat.reduceAdd, Nat.reduceLT, Nat.reduceEqDiff, Nat.reduceLeDiff, Nat.reduceSub, Nat.reduceMul, hlt', hx, Sub.pv]
    refine V.call rfl rfl (by simp [dOK]) ⟨32, [], by simp only [go_sem, ↓reduceIte, reduceCtorEq, Bool.false_eq_true, Bool.true_eq_false, Nat.reduceAdd, Nat.reduceLT, Nat.reduceEqDiff, Nat.reduceLeDiff, Nat.reduceSub, Nat.reduceMul], ⟨_, rfl, rfl, rfl⟩, .inl ⟨[x.pv], _, .inl (by simp only [go_sem, ↓reduceIte, reduceCtorEq, Bool.false_eq_true, Bool.true_eq_false, Nat.reduceAdd, Nat.reduceLT, Nat.reduceEqDiff, Nat.reduceLeDiff, Nat.reduceSub, Nat.reduceMul, Sub.pv]), feed_Right x, .inl ⟨_, rfl, rfl, rfl, rfl⟩⟩⟩ ?_
    refine V.exec 400 ?_
    simp (config := {contextual := true}) only [go_sem, ↓reduceIte, reduceCtorEq, Bool.false_eq_true, Bool.true_eq_false, Nat.reduceAdd, Nat.reduceLT, Nat.reduceEqDiff, Nat.reduceLeDiff, Nat.reduceSub, Nat.reduceMul, hw]
    have hfalse : ¬ rightFrom 0 l → some [PV.bool false] = some [PV.bool (decide (subsOk l))] := fun h => by
      have : ¬ subsOk l := fun h' => h h'.1
      simp [this]
    refine ⟨fun hok => ⟨fun hle => hfalse (fun h => ?_), fun hgt => ?_⟩, fun hno => hfalse (fun h => hno (hiff.1 h).1)⟩
    · have := (hiff.1 h).2.1; omega
    · refine ⟨l.length - (i + 1), _, [], [], by omega, ⟨i + 1, x.id, by omega, rfl, ?_, rfl, rfl⟩, by simp only [go_sem, ↓reduceIte, reduceCtorEq, Bool.false_eq_true, Bool.true_eq_false, Nat.reduceAdd, Nat.reduceLT, Nat.reduceEqDiff, Nat.reduceLeDiff, Nat.reduceSub, Nat.reduceMul]⟩
      rw [hiff]
      exact ⟨fun h => h.2.2, fun h => ⟨hok, by omega, h⟩⟩
  · have hlt' : ¬ (i : Int) < (l.length : Int) := by omega
    have hd : l.drop i = [] := List.drop_eq_nil_of_le (by omega)
    rw [hd, rightFrom] at hiff
    simp (config := {contextual := true}) only [go_sem, ↓reduceIte, reduceCtorEq, Bool.false_eq_true, Bool.true_eq_false, Nat.reduceAdd, Nat.reduceLT, Nat.reduceEqDiff, Nat.reduceLeDiff, Nat.reduceSub, Nat.reduceMul, hlt']
    have e1 : ((l.length : Int) ≤ 4) = (l.length ≤ 4) := by apply propext; omega
    simp [subsOk, hiff, e1]

/-- The floor. -/
def floorOf (head : Int) : List Sub → Int
  | [] => head
  | s :: r => floorOf (min head s.cur) r

set_option maxHeartbeats 4000000 in
theorem floor_Of (head : Int) (l : List Sub) (hl : l.length ≤ 1000000) : Ct Try.prog 14 (YtjbfcmaiejlnbaaVm.ops [.int .i64 head, .row (l.map Sub.pv)]) (.vals [.int .i64 (floorOf head l)]) := by
  refine Ct.of_V Try.func14 rfl (by simp [YtjbfcmaiejlnbaaVm.ops, Try.f14]) ?_
  refine V.exec 400 ?_
  simp (config := {contextual := true}) only [go_sem, ↓reduceIte, reduceCtorEq, Bool.false_eq_true, Bool.true_eq_false, Nat.reduceAdd, Nat.reduceLT, Nat.reduceEqDiff, Nat.reduceLeDiff, Nat.reduceSub, Nat.reduceMul, Try.f14]
  refine V.loop (fun m ls os => ∃ (i : Nat) (h : Int), i ≤ l.length ∧ m = l.length - i ∧ floorOf head l = floorOf h (l.drop i) ∧
        ls = [(0, .val (.int .i64 h)), (7, .val (.row (l.map Sub.pv))), (8, .val (.int .i64 l.length)), (9, .val (.int .i64 i))] ∧ os = []) 0 l.length
      [(0, .val (.int .i64 head)), (7, .val (.row (l.map Sub.pv))), (8, .val (.int .i64 l.length)), (9, .val (.int .i64 0))] [] []
      ⟨0, head, Nat.zero_le _, rfl, rfl, rfl, rfl⟩ (by simp only [go_sem, ↓reduceIte, reduceCtorEq, Bool.false_eq_true, Bool.true_eq_false, Nat.reduceAdd, Nat.reduceLT, Nat.reduceEqDiff, Nat.reduceLeDiff, Nat.reduceSub, Nat.reduceMul]) ?_
  rintro m ls os ⟨i, h, hi, rfl, heq, rfl, rfl⟩
  refine V.exec 400 ?_
  by_cases hlt : i < l.length
  · have hlt' : (i : Int) < (l.length : Int) := by omega
    obtain ⟨x, hx⟩ : ∃ x, l[i]? = some x := ⟨_, List.getElem?_eq_getElem hlt⟩
    have hw : IntKind.i64.wrap ((i : Int) + 1) = ((i + 1 : Nat) : Int) := by rw [wrap_small3] <;> omega
    rw [drop_of_get hx, floorOf] at heq
    have hm : (if x.cur < h then x.cur else h) = min h x.cur := by simp only [Int.min_def]; split <;> split <;> omega
    simp (config := {contextual := true}) only [go_sem, ↓reduceIte, reduceCtorEq, Bool.false_eq_true, Bool.true_eq_false, Nat.reduceAdd, Nat.reduceLT, Nat.reduceEqDiff, Nat.reduceLeDiff, Nat.reduceSub, Nat.reduceMul, hlt', hx, Sub.pv, hw, hm]
    exact ⟨l.length - (i + 1), _, [], [], by omega, ⟨i + 1, min h x.cur, by omega, rfl, heq, rfl, rfl⟩, by simp only [go_sem, ↓reduceIte, reduceCtorEq, Bool.false_eq_true, Bool.true_eq_false, Nat.reduceAdd, Nat.reduceLT, Nat.reduceEqDiff, Nat.reduceLeDiff, Nat.reduceSub, Nat.reduceMul]⟩
  · have hlt' : ¬ (i : Int) < (l.length : Int) := by omega
    have hd : l.drop i = [] := List.drop_eq_nil_of_le (by omega)
    rw [hd, floorOf] at heq
    simp (config := {contextual := true}) only [go_sem, ↓reduceIte, reduceCtorEq, Bool.false_eq_true, Bool.true_eq_false, Nat.reduceAdd, Nat.reduceLT, Nat.reduceEqDiff, Nat.reduceLeDiff, Nat.reduceSub, Nat.reduceMul, hlt', heq]
end Go.Proofs.Ytjbfcmaiejlnbaa
