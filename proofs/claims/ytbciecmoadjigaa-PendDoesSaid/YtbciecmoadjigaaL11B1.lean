/- A part of a proof: functions of the program, walked. -/
import Derived.Test.YtbciecmoadjigaaL11N2
set_option linter.unusedVariables false
set_option linter.unusedSimpArgs false
namespace Go.Proofs.Ytbciecmoadjigaa
open Go Go.Proofs Go.Proofs.YtbciecmoadjigaaVm Go.Proofs.Ytbciecmoadjigaa.Ty

/-- Two notes as one. -/
def bothV (a b : Note) : Note :=
  if b.kind = 1 ∨ b.kind = 2 then b
  else if b.kind = 3 then
    (if a.kind = 1 then ⟨1, b.key, (doneOne (a.value, true) b).1, 0⟩
     else if a.kind = 2 then ⟨1, b.key, (doneOne ([], false) b).1, 0⟩
     else if a.kind = 3 then { b with n := IntKind.u64.wrap (b.n + a.n) } else b)
  else { a with key := b.key }
theorem doneV_one_t (v : List UInt8) (b : Note) : doneV v true [b] = doneOne (v, true) b := rfl
theorem doneV_one_f (v : List UInt8) (b : Note) : doneV v false [b] = doneOne ([], false) b := rfl

set_option maxRecDepth 4000 in
set_option maxHeartbeats 8000000 in
theorem note_Both (a b : Note) : Ct Try.prog 30 (YtbciecmoadjigaaVm.ops [a.pv, b.pv]) (.vals [(bothV a b).pv]) := by
  have h12 : ¬ (1 : Int) = 2 := by decide
  have h13 : ¬ (1 : Int) = 3 := by decide
  have h21 : ¬ (2 : Int) = 1 := by decide
  have h23 : ¬ (2 : Int) = 3 := by decide
  have h31 : ¬ (3 : Int) = 1 := by decide
  have h32 : ¬ (3 : Int) = 2 := by decide
  refine Ct.of_V Try.func30 rfl (by simp [YtbciecmoadjigaaVm.ops, Try.f30]) ?_
  refine V.exec 400 ?_
  by_cases b1 : b.kind = 1
  · have e : bothV a b = b := by simp [bothV, b1]
    rw [e]
    simp (config := {contextual := true}) only [go_sem, ↓reduceIte, reduceCtorEq, Bool.false_eq_true, Bool.true_eq_false, Nat.reduceAdd, Nat.reduceLT, Nat.reduceEqDiff, Nat.reduceLeDiff, Nat.reduceSub, Nat.reduceMul, Try.f30, Note.pv, b1, h12, h13]
  · by_cases b2 : b.kind = 2
    · have e : bothV a b = b := by simp [bothV, b2]
      rw [e]
      simp (config := {contextual := true}) only [go_sem, ↓reduceIte, reduceCtorEq, Bool.false_eq_true, Bool.true_eq_false, Nat.reduceAdd, Nat.reduceLT, Nat.reduceEqDiff, Nat.reduceLeDiff, Nat.reduceSub, Nat.reduceMul, Try.f30, Note.pv, b2, h21, h23]
    · by_cases b3 : b.kind = 3
      · by_cases a1 : a.kind = 1
        · have e : bothV a b = ⟨1, b.key, (doneOne (a.value, true) b).1, 0⟩ := by simp [bothV, b3, a1]
          have c := note_Done a.value true [b] (by simp)
          rw [doneV_one_t] at c
          rw [e]
          simp (config := {contextual := true}) only [go_sem, ↓reduceIte, reduceCtorEq, Bool.false_eq_true, Bool.true_eq_false, Nat.reduceAdd, Nat.reduceLT, Nat.reduceEqDiff, Nat.reduceLeDiff, Nat.reduceSub, Nat.reduceMul, Try.f30, Note.pv, b3, h31, h32, a1, h12]
          refine V.call rfl rfl (by simp [dOK]) ⟨40, [], by simp only [go_sem, ↓reduceIte, reduceCtorEq, Bool.false_eq_true, Bool.true_eq_false, Nat.reduceAdd, Nat.reduceLT, Nat.reduceEqDiff, Nat.reduceLeDiff, Nat.reduceSub, Nat.reduceMul], ⟨_, rfl, rfl, rfl⟩, .inl ⟨[.str a.value, .bool (decide (true = true)), .row ([b].map Note.pv)], _, .inl (by simp only [go_sem, ↓reduceIte, reduceCtorEq, Bool.false_eq_true, Bool.true_eq_false, Nat.reduceAdd, Nat.reduceLT, Nat.reduceEqDiff, Nat.reduceLeDiff, Nat.reduceSub, Nat.reduceMul, Note.pv, List.map_cons, List.map_nil, decide_true, b3]), c, .inr (.inl ⟨_, rfl, rfl, rfl⟩)⟩⟩ ?_
          refine V.exec 400 ?_
          simp (config := {contextual := true}) only [go_sem, ↓reduceIte, reduceCtorEq, Bool.false_eq_true, Bool.true_eq_false, Nat.reduceAdd, Nat.reduceLT, Nat.reduceEqDiff, Nat.reduceLeDiff, Nat.reduceSub, Nat.reduceMul]
        · by_cases a2 : a.kind = 2
          · have e : bothV a b = ⟨1, b.key, (doneOne ([], false) b).1, 0⟩ := by simp [bothV, b3, a2]
            have c := note_Done a.value false [b] (by simp)
            rw [doneV_one_f] at c
            rw [e]
            simp (config := {contextual := true}) only [go_sem, ↓reduceIte, reduceCtorEq, Bool.false_eq_true, Bool.true_eq_false, Nat.reduceAdd, Nat.reduceLT, Nat.reduceEqDiff, Nat.reduceLeDiff, Nat.reduceSub, Nat.reduceMul, Try.f30, Note.pv, b3, h31, h32, a2, h21]
            refine V.call rfl rfl (by simp [dOK]) ⟨40, [], by simp only [go_sem, ↓reduceIte, reduceCtorEq, Bool.false_eq_true, Bool.true_eq_false, Nat.reduceAdd, Nat.reduceLT, Nat.reduceEqDiff, Nat.reduceLeDiff, Nat.reduceSub, Nat.reduceMul], ⟨_, rfl, rfl, rfl⟩, .inl ⟨[.str a.value, .bool (decide (false = true)), .row ([b].map Note.pv)], _, .inl (by simp only [go_sem, ↓reduceIte, reduceCtorEq, Bool.false_eq_true, Bool.true_eq_false, Nat.reduceAdd, Nat.reduceLT, Nat.reduceEqDiff, Nat.reduceLeDiff, Nat.reduceSub, Nat.reduceMul, Note.pv, List.map_cons, List.map_nil, decide_false, b3]), c, .inr (.inl ⟨_, rfl, rfl, rfl⟩)⟩⟩ ?_
            refine V.exec 400 ?_
            simp (config := {contextual := true}) only [go_sem, ↓reduceIte, reduceCtorEq, Bool.false_eq_true, Bool.true_eq_false, Nat.reduceAdd, Nat.reduceLT, Nat.reduceEqDiff, Nat.reduceLeDiff, Nat.reduceSub, Nat.reduceMul]
          · by_cases a3 : a.kind = 3
            · have e : bothV a b = { b with n := IntKind.u64.wrap (b.n + a.n) } := by simp [bothV, b3, a3]
              rw [e]
              simp (config := {contextual := true}) only [go_sem, ↓reduceIte, reduceCtorEq, Bool.false_eq_true, Bool.true_eq_false, Nat.reduceAdd, Nat.reduceLT, Nat.reduceEqDiff, Nat.reduceLeDiff, Nat.reduceSub, Nat.reduceMul, Try.f30, Note.pv, b3, h31, h32, a3]
            · have e : bothV a b = b := by simp [bothV, b3, a1, a2, a3]
              rw [e]
              simp (config := {contextual := true}) only [go_sem, ↓reduceIte, reduceCtorEq, Bool.false_eq_true, Bool.true_eq_false, Nat.reduceAdd, Nat.reduceLT, Nat.reduceEqDiff, Nat.reduceLeDiff, Nat.reduceSub, Nat.reduceMul, Try.f30, Note.pv, b3, h31, h32, a1, a2, a3]
      · have e : bothV a b = { a with key := b.key } := by simp [bothV, b1, b2, b3]
        rw [e]
        simp (config := {contextual := true}) only [go_sem, ↓reduceIte, reduceCtorEq, Bool.false_eq_true, Bool.true_eq_false, Nat.reduceAdd, Nat.reduceLT, Nat.reduceEqDiff, Nat.reduceLeDiff, Nat.reduceSub, Nat.reduceMul, Try.f30, Note.pv, b1, b2, b3]
end Go.Proofs.Ytbciecmoadjigaa
