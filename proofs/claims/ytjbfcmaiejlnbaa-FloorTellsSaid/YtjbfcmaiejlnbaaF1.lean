/- A part of a proof: functions of the program, walked. -/
import Derived.Test.YtjbfcmaiejlnbaaCTy
set_option linter.unusedVariables false
set_option linter.unusedSimpArgs false
namespace Go.Proofs.Ytjbfcmaiejlnbaa
open Go Go.Proofs Go.Proofs.YtjbfcmaiejlnbaaVm Go.Proofs.Ytjbfcmaiejlnbaa.Ty

structure Range where
  lo : List UInt8
  hi : List UInt8
  op : Bool
  deriving DecidableEq
def Range.pv (r : Range) : PV := .agg [.str r.lo, .str r.hi, .bool (decide (r.op = true))]
def Range.ok (r : Range) : Prop := r.lo.length ≤ 16 ∧ r.hi.length ≤ 17 ∧ (r.op = true → r.hi = [])
instance Range.instOk (r : Range) : Decidable r.ok := by unfold Range.ok; infer_instance

structure Sub where
  id : Int
  r : Range
  live : Bool
  next : List UInt8
  cur : Int
  deriving DecidableEq
def Sub.pv (s : Sub) : PV := .agg [.int .i64 s.id, .str s.r.lo, .str s.r.hi, .bool (decide (s.r.op = true)), .bool (decide (s.live = true)), .str s.next, .int .i64 s.cur]
def Sub.ok (s : Sub) : Prop := s.r.ok ∧ s.next.length ≤ 17 ∧ (s.live = true → s.next = []) ∧ 0 ≤ s.cur ∧ s.cur ≤ 2147483647
instance Sub.instOk (s : Sub) : Decidable s.ok := by unfold Sub.ok; infer_instance

theorem stretch_Right (r : Range) : Ct Try.prog 43 (YtjbfcmaiejlnbaaVm.ops [r.pv]) (.vals [.bool (decide r.ok)]) := by
  refine Ct.of_V Try.func43 rfl (by simp [YtjbfcmaiejlnbaaVm.ops, Try.f43]) ?_
  refine V.exec 400 ?_
  simp (config := {contextual := true}) only [go_sem, ↓reduceIte, reduceCtorEq, Bool.false_eq_true, Bool.true_eq_false, Nat.reduceAdd, Nat.reduceLT, Nat.reduceEqDiff, Nat.reduceLeDiff, Nat.reduceSub, Nat.reduceMul, Range.pv, Try.f43]
  have e1 : ((r.lo.length : Int) ≤ 16) = (r.lo.length ≤ 16) := by apply propext; omega
  have e2 : ((r.hi.length : Int) ≤ 17) = (r.hi.length ≤ 17) := by apply propext; omega
  simp only [e1, e2, Option.some.injEq, List.cons.injEq, PV.bool.injEq, and_true]
  grind [Range.ok]

set_option maxHeartbeats 2000000 in
theorem feed_Right (s : Sub) : Ct Try.prog 32 (YtjbfcmaiejlnbaaVm.ops [s.pv]) (.vals [.bool (decide s.ok)]) := by
  refine Ct.of_V Try.func32 rfl (by simp [YtjbfcmaiejlnbaaVm.ops, Try.f32]) ?_
  refine V.exec 400 ?_
  simp (config := {contextual := true}) only [go_sem, ↓reduceIte, reduceCtorEq, Bool.false_eq_true, Bool.true_eq_false, Nat.reduceAdd, Nat.reduceLT, Nat.reduceEqDiff, Nat.reduceLeDiff, Nat.reduceSub, Nat.reduceMul, Sub.pv, Try.f32]
  refine V.call rfl rfl (by simp [dOK]) ⟨43, [], by simp only [go_sem, ↓reduceIte, reduceCtorEq, Bool.false_eq_true, Bool.true_eq_false, Nat.reduceAdd, Nat.reduceLT, Nat.reduceEqDiff, Nat.reduceLeDiff, Nat.reduceSub, Nat.reduceMul], ⟨_, rfl, rfl, rfl⟩, .inl ⟨[s.r.pv], _, .inl (by simp only [go_sem, ↓reduceIte, reduceCtorEq, Bool.false_eq_true, Bool.true_eq_false, Nat.reduceAdd, Nat.reduceLT, Nat.reduceEqDiff, Nat.reduceLeDiff, Nat.reduceSub, Nat.reduceMul, Range.pv]), stretch_Right s.r, .inl ⟨_, rfl, rfl, rfl, rfl⟩⟩⟩ ?_
  refine V.exec 400 ?_
  simp (config := {contextual := true}) only [go_sem, ↓reduceIte, reduceCtorEq, Bool.false_eq_true, Bool.true_eq_false, Nat.reduceAdd, Nat.reduceLT, Nat.reduceEqDiff, Nat.reduceLeDiff, Nat.reduceSub, Nat.reduceMul]
  have e1 : ((s.next.length : Int) ≤ 17) = (s.next.length ≤ 17) := by apply propext; omega
  simp only [e1, Option.some.injEq, List.cons.injEq, PV.bool.injEq, and_true]
  grind [Sub.ok]
end Go.Proofs.Ytjbfcmaiejlnbaa
