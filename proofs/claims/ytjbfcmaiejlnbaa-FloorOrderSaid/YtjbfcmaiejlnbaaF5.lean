/- A part of a proof: functions of the program, walked. -/
import Derived.Test.YtjbfcmaiejlnbaaF4
import Derived.Test.YtjbfcmaiejlnbaaLibSub
set_option linter.unusedVariables false
set_option linter.unusedSimpArgs false
namespace Go.Proofs.Ytjbfcmaiejlnbaa
open Go Go.Proofs Go.Proofs.YtjbfcmaiejlnbaaVm Go.Proofs.Ytjbfcmaiejlnbaa.Ty

theorem leave1_31 (s : Sub) (id : Int) : Ct Try.prog 31 (YtjbfcmaiejlnbaaVm.ops [s.pv, .ptr (.int .i64 id)]) (.vals [.bool (decide (s.id = id))]) := by
  refine Ct.of_V Try.func31 rfl (by simp [YtjbfcmaiejlnbaaVm.ops, Try.f31]) ?_
  refine V.exec 400 ?_
  simp (config := {contextual := true}) only [go_sem, ↓reduceIte, reduceCtorEq, Bool.false_eq_true, Bool.true_eq_false, Nat.reduceAdd, Nat.reduceLT, Nat.reduceEqDiff, Nat.reduceLeDiff, Nat.reduceSub, Nat.reduceMul, Try.f31, Sub.pv]

def idOf : PV → Int
  | .agg (.int _ n :: _) => n
  | _ => 0
def leaveV (l : List Sub) (id : Int) : List Sub × Int := if (findV l id).2 = 0 then (l.filter fun s => !decide (s.id = id), 0) else (l, (findV l id).2)

theorem filter_pv (l : List Sub) (id : Int) : (l.map Sub.pv).filter (fun x => !decide (idOf x = id)) = (l.filter fun s => !decide (s.id = id)).map Sub.pv := by
  induction l with
  | nil => rfl
  | cons s r ih =>
    have e : idOf s.pv = s.id := rfl
    simp only [List.map_cons, List.filter_cons, e, ih]
    split <;> rfl

set_option maxHeartbeats 2000000 in
theorem floor_Leave (l : List Sub) (id : Int) (hl : l.length ≤ 1000000) : Ct Try.prog 10 (YtjbfcmaiejlnbaaVm.ops [.row (l.map Sub.pv), .int .i64 id]) (.vals [.row ((leaveV l id).1.map Sub.pv), .int .i64 (leaveV l id).2]) := by
  refine Ct.of_V Try.func10 rfl (by simp [YtjbfcmaiejlnbaaVm.ops, Try.f10]) ?_
  refine V.exec 400 ?_
  simp (config := {contextual := true}) only [go_sem, ↓reduceIte, reduceCtorEq, Bool.false_eq_true, Bool.true_eq_false, Nat.reduceAdd, Nat.reduceLT, Nat.reduceEqDiff, Nat.reduceLeDiff, Nat.reduceSub, Nat.reduceMul, Try.f10]
  refine V.call rfl rfl (by simp [dOK]) ⟨12, [], by simp only [go_sem, ↓reduceIte, reduceCtorEq, Bool.false_eq_true, Bool.true_eq_false, Nat.reduceAdd, Nat.reduceLT, Nat.reduceEqDiff, Nat.reduceLeDiff, Nat.reduceSub, Nat.reduceMul], ⟨_, rfl, rfl, rfl⟩, .inl ⟨[.row (l.map Sub.pv), .int .i64 id], _, .inl (by simp only [go_sem, ↓reduceIte, reduceCtorEq, Bool.false_eq_true, Bool.true_eq_false, Nat.reduceAdd, Nat.reduceLT, Nat.reduceEqDiff, Nat.reduceLeDiff, Nat.reduceSub, Nat.reduceMul]), floor_Find l id hl, .inr (.inl ⟨_, rfl, rfl, rfl⟩)⟩⟩ ?_
  refine V.exec 400 ?_
  by_cases he : (findV l id).2 = 0
  · have hv : leaveV l id = (l.filter (fun s => !decide (s.id = id)), 0) := by simp [leaveV, he]
    simp (config := {contextual := true}) only [go_sem, ↓reduceIte, reduceCtorEq, Bool.false_eq_true, Bool.true_eq_false, Nat.reduceAdd, Nat.reduceLT, Nat.reduceEqDiff, Nat.reduceLeDiff, Nat.reduceSub, Nat.reduceMul, he, hv, Sub.pv]
    have h7 : ∀ x ∈ l.map Sub.pv, x.cells.length = 7 ∧ x.isAgg = true ∧ ∀ c ∈ x.cells, c.isAgg = false := fun x hx => by
      obtain ⟨s, _, rfl⟩ := List.mem_map.1 hx
      exact ⟨rfl, rfl, by simp [Sub.pv, PV.cells, PV.isAgg]⟩
    have hdel := DeleteFuncSub (l.map Sub.pv) 31 [.ptr (.int .i64 id)] (fun x => decide (idOf x = id)) h7 (by simpa using hl) ⟨_, rfl, rfl, rfl⟩ (fun x hx => by
      obtain ⟨s, _, rfl⟩ := List.mem_map.1 hx
      have := leave1_31 s id
      simpa [idOf, Sub.pv] using this) (by simp only [go_sem, ↓reduceIte, reduceCtorEq, Bool.false_eq_true, Bool.true_eq_false, Nat.reduceAdd, Nat.reduceLT, Nat.reduceEqDiff, Nat.reduceLeDiff, Nat.reduceSub, Nat.reduceMul])
    rw [filter_pv] at hdel
    refine V.call rfl rfl (by simp [dOK]) ⟨30, [], by simp only [go_sem, ↓reduceIte, reduceCtorEq, Bool.false_eq_true, Bool.true_eq_false, Nat.reduceAdd, Nat.reduceLT, Nat.reduceEqDiff, Nat.reduceLeDiff, Nat.reduceSub, Nat.reduceMul], ⟨_, rfl, rfl, rfl⟩, .inl ⟨[.row (l.map Sub.pv)], _, .inl (by simp only [go_sem, ↓reduceIte, reduceCtorEq, Bool.false_eq_true, Bool.true_eq_false, Nat.reduceAdd, Nat.reduceLT, Nat.reduceEqDiff, Nat.reduceLeDiff, Nat.reduceSub, Nat.reduceMul]), CloneSub (l.map Sub.pv) (fun x hx => (h7 x hx).1) (by simpa using hl), .inr (.inr ⟨37, l.map Sub.pv, rfl, by simp only [go_sem, ↓reduceIte, reduceCtorEq, Bool.false_eq_true, Bool.true_eq_false, Nat.reduceAdd, Nat.reduceLT, Nat.reduceEqDiff, Nat.reduceLeDiff, Nat.reduceSub, Nat.reduceMul], rfl, rfl⟩)⟩⟩ ?_
    refine V.exec 400 ?_
    simp (config := {contextual := true}) only [go_sem, ↓reduceIte, reduceCtorEq, Bool.false_eq_true, Bool.true_eq_false, Nat.reduceAdd, Nat.reduceLT, Nat.reduceEqDiff, Nat.reduceLeDiff, Nat.reduceSub, Nat.reduceMul]
    refine V.call rfl rfl (by simp [dOK]) ⟨29, [], by simp only [go_sem, ↓reduceIte, reduceCtorEq, Bool.false_eq_true, Bool.true_eq_false, Nat.reduceAdd, Nat.reduceLT, Nat.reduceEqDiff, Nat.reduceLeDiff, Nat.reduceSub, Nat.reduceMul], ⟨_, rfl, rfl, rfl⟩, .inr ⟨17, 37, l.map Sub.pv, [.val (.fn 31 [.ptr (.int .i64 id)])], [.fn 31 [.ptr (.int .i64 id)]], 37, _, by simp only [go_sem, ↓reduceIte, reduceCtorEq, Bool.false_eq_true, Bool.true_eq_false, Nat.reduceAdd, Nat.reduceLT, Nat.reduceEqDiff, Nat.reduceLeDiff, Nat.reduceSub, Nat.reduceMul], by simp only [go_sem, ↓reduceIte, reduceCtorEq, Bool.false_eq_true, Bool.true_eq_false, Nat.reduceAdd, Nat.reduceLT, Nat.reduceEqDiff, Nat.reduceLeDiff, Nat.reduceSub, Nat.reduceMul], .inl (by simp only [go_sem, ↓reduceIte, reduceCtorEq, Bool.false_eq_true, Bool.true_eq_false, Nat.reduceAdd, Nat.reduceLT, Nat.reduceEqDiff, Nat.reduceLeDiff, Nat.reduceSub, Nat.reduceMul]), hdel, by simp only [go_sem, ↓reduceIte, reduceCtorEq, Bool.false_eq_true, Bool.true_eq_false, Nat.reduceAdd, Nat.reduceLT, Nat.reduceEqDiff, Nat.reduceLeDiff, Nat.reduceSub, Nat.reduceMul], rfl, rfl⟩⟩ ?_
    refine V.exec 400 ?_
    simp (config := {contextual := true}) only [go_sem, ↓reduceIte, reduceCtorEq, Bool.false_eq_true, Bool.true_eq_false, Nat.reduceAdd, Nat.reduceLT, Nat.reduceEqDiff, Nat.reduceLeDiff, Nat.reduceSub, Nat.reduceMul]
  · have hv : leaveV l id = (l, (findV l id).2) := by simp [leaveV, he]
    simp (config := {contextual := true}) only [go_sem, ↓reduceIte, reduceCtorEq, Bool.false_eq_true, Bool.true_eq_false, Nat.reduceAdd, Nat.reduceLT, Nat.reduceEqDiff, Nat.reduceLeDiff, Nat.reduceSub, Nat.reduceMul, he, hv, Sub.pv]
end Go.Proofs.Ytjbfcmaiejlnbaa
