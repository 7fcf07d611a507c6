/- A part of a proof: functions of the program, walked. -/
import Derived.Test.YtjbfcmaiejlnbaaG5
set_option linter.unusedVariables false
set_option linter.unusedSimpArgs false
namespace Go.Proofs.Ytjbfcmaiejlnbaa
open Go Go.Proofs Go.Proofs.YtjbfcmaiejlnbaaVm Go.Proofs.Ytjbfcmaiejlnbaa.Ty

set_option maxHeartbeats 4000000 in
theorem trail_Since1 (c : Change) (n : Int) (r : Range) : Ct Try.prog 40 (YtjbfcmaiejlnbaaVm.ops [c.pv, .ptr (.int .i64 n), .ptr r.pv]) (.vals [.bool (decide (c.seq ≤ n ∨ ¬ r.isIn c.key))]) := by
  refine Ct.of_V Try.func40 rfl (by simp [YtjbfcmaiejlnbaaVm.ops, Try.f40]) ?_
  refine V.exec 400 ?_
  simp (config := {contextual := true}) only [go_sem, ↓reduceIte, reduceCtorEq, Bool.false_eq_true, Bool.true_eq_false, Nat.reduceAdd, Nat.reduceLT, Nat.reduceEqDiff, Nat.reduceLeDiff, Nat.reduceSub, Nat.reduceMul, Try.f40, Change.pv, Range.pv]
  intro h
  refine V.call rfl rfl (by simp [dOK]) ⟨41, [], by simp only [go_sem, ↓reduceIte, reduceCtorEq, Bool.false_eq_true, Bool.true_eq_false, Nat.reduceAdd, Nat.reduceLT, Nat.reduceEqDiff, Nat.reduceLeDiff, Nat.reduceSub, Nat.reduceMul], ⟨_, rfl, rfl, rfl⟩, .inl ⟨[r.pv, .str c.key], _, .inl (by simp only [go_sem, ↓reduceIte, reduceCtorEq, Bool.false_eq_true, Bool.true_eq_false, Nat.reduceAdd, Nat.reduceLT, Nat.reduceEqDiff, Nat.reduceLeDiff, Nat.reduceSub, Nat.reduceMul, Range.pv]), stretch_In r c.key, .inl ⟨_, rfl, rfl, rfl, rfl⟩⟩⟩ ?_
  refine V.exec 400 ?_
  simp (config := {contextual := true}) only [go_sem, ↓reduceIte, reduceCtorEq, Bool.false_eq_true, Bool.true_eq_false, Nat.reduceAdd, Nat.reduceLT, Nat.reduceEqDiff, Nat.reduceLeDiff, Nat.reduceSub, Nat.reduceMul, h]

def cutAt (n most : Int) : Nat := (max 0 (min most n)).toNat
def sinceV (t : List Change) (n most : Int) (rs : List Range) : List Change :=
  let w := withoutV t (fun c => decide (c.seq ≤ n ∨ ¬ (meetV rs).isIn c.key))
  w.take (cutAt w.length most)

theorem withoutV_length (t : List Change) (p : Change → Bool) : (withoutV t p).length ≤ t.length := by
  unfold withoutV
  split
  · exact List.length_filter_le _ _
  · exact Nat.zero_le _

set_option maxHeartbeats 4000000 in
theorem trail_Since (t : List Change) (n most : Int) (rs : List Range) (ht : t.length ≤ 1000000) (hr : rs.length ≤ 1000000) :
    Ct Try.prog 28 (YtjbfcmaiejlnbaaVm.ops [.row (t.map Change.pv), .int .i64 n, .int .i64 most, .row (rs.map Range.pv)]) (.vals [.row ((sinceV t n most rs).map Change.pv)]) := by
  refine Ct.of_V Try.func28 rfl (by simp [YtjbfcmaiejlnbaaVm.ops, Try.f28]) ?_
  refine V.exec 400 ?_
  simp (config := {contextual := true}) only [go_sem, ↓reduceIte, reduceCtorEq, Bool.false_eq_true, Bool.true_eq_false, Nat.reduceAdd, Nat.reduceLT, Nat.reduceEqDiff, Nat.reduceLeDiff, Nat.reduceSub, Nat.reduceMul, Try.f28]
  refine V.call rfl rfl (by simp [dOK]) ⟨38, [], by simp only [go_sem, ↓reduceIte, reduceCtorEq, Bool.false_eq_true, Bool.true_eq_false, Nat.reduceAdd, Nat.reduceLT, Nat.reduceEqDiff, Nat.reduceLeDiff, Nat.reduceSub, Nat.reduceMul], ⟨_, rfl, rfl, rfl⟩, .inl ⟨[.row (rs.map Range.pv)], _, .inl (by simp only [go_sem, ↓reduceIte, reduceCtorEq, Bool.false_eq_true, Bool.true_eq_false, Nat.reduceAdd, Nat.reduceLT, Nat.reduceEqDiff, Nat.reduceLeDiff, Nat.reduceSub, Nat.reduceMul]), stretch_Meet rs hr, .inr (.inl ⟨_, rfl, rfl, rfl⟩)⟩⟩ ?_
  refine V.exec 400 ?_
  simp (config := {contextual := true}) only [go_sem, ↓reduceIte, reduceCtorEq, Bool.false_eq_true, Bool.true_eq_false, Nat.reduceAdd, Nat.reduceLT, Nat.reduceEqDiff, Nat.reduceLeDiff, Nat.reduceSub, Nat.reduceMul, Range.pv]
  have hw := trail_without t 40 [.ptr (.int .i64 n), .ptr (meetV rs).pv] (fun c => decide (c.seq ≤ n ∨ ¬ (meetV rs).isIn c.key)) ht ⟨_, rfl, rfl, rfl⟩ (fun x _ => by simpa using trail_Since1 x n (meetV rs))
  refine V.call rfl rfl (by simp [dOK]) ⟨39, [], by simp only [go_sem, ↓reduceIte, reduceCtorEq, Bool.false_eq_true, Bool.true_eq_false, Nat.reduceAdd, Nat.reduceLT, Nat.reduceEqDiff, Nat.reduceLeDiff, Nat.reduceSub, Nat.reduceMul], ⟨_, rfl, rfl, rfl⟩, .inl ⟨[.row (t.map Change.pv), .fn 40 [.ptr (.int .i64 n), .ptr (meetV rs).pv]], _, .inl (by simp only [go_sem, ↓reduceIte, reduceCtorEq, Bool.false_eq_true, Bool.true_eq_false, Nat.reduceAdd, Nat.reduceLT, Nat.reduceEqDiff, Nat.reduceLeDiff, Nat.reduceSub, Nat.reduceMul, Range.pv]), hw, .inr (.inl ⟨_, rfl, rfl, rfl⟩)⟩⟩ ?_
  refine V.exec 400 ?_
  have hl := withoutV_length t (fun c => decide (c.seq ≤ n ∨ ¬ (meetV rs).isIn c.key))
  have hv : sinceV t n most rs = (withoutV t (fun c => decide (c.seq ≤ n ∨ ¬ (meetV rs).isIn c.key))).take (cutAt (withoutV t (fun c => decide (c.seq ≤ n ∨ ¬ (meetV rs).isIn c.key))).length most) := rfl
  rw [hv]
  generalize withoutV t (fun c => decide (c.seq ≤ n ∨ ¬ (meetV rs).isIn c.key)) = w at *
  have hc : (if (if (w.length : Int) < most then (w.length : Int) else most) > 0 then (if (w.length : Int) < most then (w.length : Int) else most) else 0) = ((cutAt w.length most : Nat) : Int) := by
    unfold cutAt
    split <;> split <;> omega
  have hc2 : cutAt w.length most ≤ w.length := by unfold cutAt; omega
  simp (config := {contextual := true}) only [go_sem, ↓reduceIte, reduceCtorEq, Bool.false_eq_true, Bool.true_eq_false, Nat.reduceAdd, Nat.reduceLT, Nat.reduceEqDiff, Nat.reduceLeDiff, Nat.reduceSub, Nat.reduceMul, hc]
  refine ⟨by omega, ?_⟩
  rw [List.map_take]
end Go.Proofs.Ytjbfcmaiejlnbaa
