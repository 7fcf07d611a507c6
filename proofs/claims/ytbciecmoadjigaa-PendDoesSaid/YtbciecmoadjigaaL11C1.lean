/- A part of a proof: functions of the program, walked. -/
import Derived.Test.YtbciecmoadjigaaL11D4
import Derived.Test.YtbciecmoadjigaaL11S1
set_option linter.unusedVariables false
set_option linter.unusedSimpArgs false
namespace Go.Proofs.Ytbciecmoadjigaa
open Go Go.Proofs Go.Proofs.YtbciecmoadjigaaVm Go.Proofs.Ytbciecmoadjigaa.Ty

def aN1 : Note := ⟨3, [107], [], 1⟩
def aN2 : Note := ⟨2, [97], [], 0⟩
def aN3 : Note := ⟨3, [107], [], 2⟩
def aN4 : Note := ⟨3, [107], [], 3⟩
def aL : List Note := [aN2, aN4]
def aS : List (List Note) := [[aN2], [aN4]]
theorem av1 : pushR [] [aN1, aN2, aN3] = (aL, 0) := by kernel_rfl
theorem av2 : findN aL [107] = (aN4, true) := by kernel_rfl
theorem av3 : splitR aL [[], [98]] = aS := by kernel_rfl
theorem av4 : pushR [Note.zero] [] = ([Note.zero], 1) := by kernel_rfl
theorem av5 : mostV aL [[98], [99]] = 0 := by kernel_rfl
theorem av6 : waitOk aL := by decide +kernel

set_option maxRecDepth 10000 in
set_option maxHeartbeats 8000000 in
theorem law11_awake : Ct Try.prog 10 (YtbciecmoadjigaaVm.ops []) (.vals [.bool true]) := by
  have c1 := pend_Push [] [aN1, aN2, aN3] (by decide) (by decide)
  rw [av1] at c1
  have c2 := pend_Find aL [107] (by decide)
  rw [av2] at c2
  have c3 := pend_Split aL [[], [98]] (by decide) (by decide)
  rw [av3] at c3
  have c4 := pend_Push [Note.zero] [] (by decide) (by decide)
  rw [av4] at c4
  have c5 := pend_Most aL [[98], [99]] (by decide) (by decide)
  rw [av5] at c5
  have e0 : ((0 : Nat) : Int) = 0 := rfl
  rw [e0] at c5
  have c6 := pend_Right aL (by decide)
  have l2 : (aL.length : Int) = 2 := rfl
  have s3 : (aS.length : Int) = 2 := rfl
  have g1 : aS[0]? = some [aN2] := rfl
  have g2 : aS[1]? = some [aN4] := rfl
  have k1 : ([aN2].length : Int) = 1 := rfl
  have k2 : ([aN4].length : Int) = 1 := rfl
  have t1 : Int.toNat 1 = 1 := rfl
  have t0 : Int.toNat 0 = 0 := rfl
  have n1 : ((1 : Nat) : Int) = 1 := rfl
  have n0 : ((0 : Nat) : Int) = 0 := rfl
  have r1 : (0 : Int) ≤ 0 ∧ (0 : Int) < 2 := by decide
  have r2 : (0 : Int) ≤ 1 ∧ (1 : Int) < 2 := by decide
  refine Ct.of_V Try.func10 rfl (by simp [YtbciecmoadjigaaVm.ops, Try.f10]) ?_
  refine V.exec 400 ?_
  simp (config := {contextual := true}) only [go_sem, ↓reduceIte, reduceCtorEq, Bool.false_eq_true, Bool.true_eq_false, Nat.reduceAdd, Nat.reduceLT, Nat.reduceEqDiff, Nat.reduceLeDiff, Nat.reduceSub, Nat.reduceMul, Try.f10]
  refine V.call rfl rfl (by simp [dOK]) ⟨11, [], by simp only [go_sem, ↓reduceIte, reduceCtorEq, Bool.false_eq_true, Bool.true_eq_false, Nat.reduceAdd, Nat.reduceLT, Nat.reduceEqDiff, Nat.reduceLeDiff, Nat.reduceSub, Nat.reduceMul], ⟨_, rfl, rfl, rfl⟩, .inl ⟨[.row [], .row ([aN1, aN2, aN3].map Note.pv)], _, .inl (by simp only [go_sem, ↓reduceIte, reduceCtorEq, Bool.false_eq_true, Bool.true_eq_false, Nat.reduceAdd, Nat.reduceLT, Nat.reduceEqDiff, Nat.reduceLeDiff, Nat.reduceSub, Nat.reduceMul, Note.pv, aN1, aN2, aN3, List.map_cons, List.map_nil]), c1, .inr (.inl ⟨_, rfl, rfl, rfl⟩)⟩⟩ ?_
  refine V.exec 400 ?_
  simp (config := {contextual := true}) only [go_sem, ↓reduceIte, reduceCtorEq, Bool.false_eq_true, Bool.true_eq_false, Nat.reduceAdd, Nat.reduceLT, Nat.reduceEqDiff, Nat.reduceLeDiff, Nat.reduceSub, Nat.reduceMul]
  refine V.call rfl rfl (by simp [dOK]) ⟨13, [], by simp only [go_sem, ↓reduceIte, reduceCtorEq, Bool.false_eq_true, Bool.true_eq_false, Nat.reduceAdd, Nat.reduceLT, Nat.reduceEqDiff, Nat.reduceLeDiff, Nat.reduceSub, Nat.reduceMul], ⟨_, rfl, rfl, rfl⟩, .inl ⟨[.row (aL.map Note.pv), .str [107]], _, .inl (by simp only [go_sem, ↓reduceIte, reduceCtorEq, Bool.false_eq_true, Bool.true_eq_false, Nat.reduceAdd, Nat.reduceLT, Nat.reduceEqDiff, Nat.reduceLeDiff, Nat.reduceSub, Nat.reduceMul, Note.pv, aN4]), c2, .inr (.inl ⟨_, rfl, rfl, rfl⟩)⟩⟩ ?_
  refine V.exec 400 ?_
  simp (config := {contextual := true}) only [go_sem, ↓reduceIte, reduceCtorEq, Bool.false_eq_true, Bool.true_eq_false, Nat.reduceAdd, Nat.reduceLT, Nat.reduceEqDiff, Nat.reduceLeDiff, Nat.reduceSub, Nat.reduceMul]
  refine ⟨⟨rfl, rfl⟩, ?_⟩
  refine V.call rfl rfl (by simp [dOK]) ⟨17, [], by simp only [go_sem, ↓reduceIte, reduceCtorEq, Bool.false_eq_true, Bool.true_eq_false, Nat.reduceAdd, Nat.reduceLT, Nat.reduceEqDiff, Nat.reduceLeDiff, Nat.reduceSub, Nat.reduceMul], ⟨_, rfl, rfl, rfl⟩, .inl ⟨[.row (aL.map Note.pv), .row [.str [], .str [98]]], _, .inl (by simp only [go_sem, ↓reduceIte, reduceCtorEq, Bool.false_eq_true, Bool.true_eq_false, Nat.reduceAdd, Nat.reduceLT, Nat.reduceEqDiff, Nat.reduceLeDiff, Nat.reduceSub, Nat.reduceMul]), c3, .inr (.inl ⟨_, rfl, rfl, rfl⟩)⟩⟩ ?_
  refine V.exec 400 ?_
  simp (config := {contextual := true}) only [go_sem, ↓reduceIte, reduceCtorEq, Bool.false_eq_true, Bool.true_eq_false, Nat.reduceAdd, Nat.reduceLT, Nat.reduceEqDiff, Nat.reduceLeDiff, Nat.reduceSub, Nat.reduceMul]
  refine V.call rfl rfl (by simp [dOK]) ⟨11, [], by simp only [go_sem, ↓reduceIte, reduceCtorEq, Bool.false_eq_true, Bool.true_eq_false, Nat.reduceAdd, Nat.reduceLT, Nat.reduceEqDiff, Nat.reduceLeDiff, Nat.reduceSub, Nat.reduceMul], ⟨_, rfl, rfl, rfl⟩, .inl ⟨[.row ([Note.zero].map Note.pv), .row []], _, .inl (by simp only [go_sem, ↓reduceIte, reduceCtorEq, Bool.false_eq_true, Bool.true_eq_false, Nat.reduceAdd, Nat.reduceLT, Nat.reduceEqDiff, Nat.reduceLeDiff, Nat.reduceSub, Nat.reduceMul, Note.pv, Note.zero, List.map_cons, List.map_nil]), c4, .inr (.inl ⟨_, rfl, rfl, rfl⟩)⟩⟩ ?_
  refine V.exec 400 ?_
  simp (config := {contextual := true}) only [go_sem, ↓reduceIte, reduceCtorEq, Bool.false_eq_true, Bool.true_eq_false, Nat.reduceAdd, Nat.reduceLT, Nat.reduceEqDiff, Nat.reduceLeDiff, Nat.reduceSub, Nat.reduceMul, l2, s3, g1, g2, rowN, k1, k2, r1, r2, t1, t0, n1, n0, Note.pv, aN4, eqNote]


  refine V.call rfl rfl (by simp [dOK]) ⟨18, [], by simp only [go_sem, ↓reduceIte, reduceCtorEq, Bool.false_eq_true, Bool.true_eq_false, Nat.reduceAdd, Nat.reduceLT, Nat.reduceEqDiff, Nat.reduceLeDiff, Nat.reduceSub, Nat.reduceMul], ⟨_, rfl, rfl, rfl⟩, .inl ⟨[.row (aL.map Note.pv), .row [.str [98], .str [99]]], _, .inl (by simp only [go_sem, ↓reduceIte, reduceCtorEq, Bool.false_eq_true, Bool.true_eq_false, Nat.reduceAdd, Nat.reduceLT, Nat.reduceEqDiff, Nat.reduceLeDiff, Nat.reduceSub, Nat.reduceMul]), c5, .inl ⟨_, rfl, rfl, rfl, rfl⟩⟩⟩ ?_
  refine V.exec 400 ?_
  simp (config := {contextual := true}) only [go_sem, ↓reduceIte, reduceCtorEq, Bool.false_eq_true, Bool.true_eq_false, Nat.reduceAdd, Nat.reduceLT, Nat.reduceEqDiff, Nat.reduceLeDiff, Nat.reduceSub, Nat.reduceMul]
  refine V.call rfl rfl (by simp [dOK]) ⟨15, [], by simp only [go_sem, ↓reduceIte, reduceCtorEq, Bool.false_eq_true, Bool.true_eq_false, Nat.reduceAdd, Nat.reduceLT, Nat.reduceEqDiff, Nat.reduceLeDiff, Nat.reduceSub, Nat.reduceMul], ⟨_, rfl, rfl, rfl⟩, .inl ⟨[.row (aL.map Note.pv)], _, .inl (by simp only [go_sem, ↓reduceIte, reduceCtorEq, Bool.false_eq_true, Bool.true_eq_false, Nat.reduceAdd, Nat.reduceLT, Nat.reduceEqDiff, Nat.reduceLeDiff, Nat.reduceSub, Nat.reduceMul]), c6, .inl ⟨_, rfl, rfl, rfl, rfl⟩⟩⟩ ?_
  refine V.exec 400 ?_
  simp (config := {contextual := true}) only [go_sem, ↓reduceIte, reduceCtorEq, Bool.false_eq_true, Bool.true_eq_false, Nat.reduceAdd, Nat.reduceLT, Nat.reduceEqDiff, Nat.reduceLeDiff, Nat.reduceSub, Nat.reduceMul, av6, decide_true]
end Go.Proofs.Ytbciecmoadjigaa
