/- A part of a proof: functions of the program, walked. -/
import Derived.Test.YtglpemnejngkaaaL17Q1
set_option linter.unusedVariables false
set_option linter.unusedSimpArgs false
namespace Go.Proofs.Ytglpemnejngkaaa
open Go Go.Proofs Go.Proofs.YtglpemnejngkaaaVm Go.Proofs.Ytglpemnejngkaaa.Ty

def sideV (st : List UInt8 × Bool) : PV := .agg [.bool (decide (st.2 = true)), .str st.1]

theorem change_of (l : List Pair) (k : List UInt8) (hl : l.length ≤ 1000000) : Ct Try.prog 38 (YtglpemnejngkaaaVm.ops [.row (l.map Pair.pv), .str k]) (.vals [sideV (getV l k)]) := by
  refine Ct.of_V Try.func38 rfl (by simp [YtglpemnejngkaaaVm.ops, Try.f38]) ?_
  refine V.exec 400 ?_
  simp (config := {contextual := true}) only [go_sem, ↓reduceIte, reduceCtorEq, Bool.false_eq_true, Bool.true_eq_false, Nat.reduceAdd, Nat.reduceLT, Nat.reduceEqDiff, Nat.reduceLeDiff, Nat.reduceSub, Nat.reduceMul, Try.f38]
  refine V.call rfl rfl (by simp [dOK]) ⟨22, [], by simp only [go_sem, ↓reduceIte, reduceCtorEq, Bool.false_eq_true, Bool.true_eq_false, Nat.reduceAdd, Nat.reduceLT, Nat.reduceEqDiff, Nat.reduceLeDiff, Nat.reduceSub, Nat.reduceMul], ⟨_, rfl, rfl, rfl⟩, .inl ⟨[.row (l.map Pair.pv), .str k], _, .inl (by simp only [go_sem, ↓reduceIte, reduceCtorEq, Bool.false_eq_true, Bool.true_eq_false, Nat.reduceAdd, Nat.reduceLT, Nat.reduceEqDiff, Nat.reduceLeDiff, Nat.reduceSub, Nat.reduceMul]), leaf_Get l k hl, .inr (.inl ⟨_, rfl, rfl, rfl⟩)⟩⟩ ?_
  refine V.exec 400 ?_
  simp (config := {contextual := true}) only [go_sem, ↓reduceIte, reduceCtorEq, Bool.false_eq_true, Bool.true_eq_false, Nat.reduceAdd, Nat.reduceLT, Nat.reduceEqDiff, Nat.reduceLeDiff, Nat.reduceSub, Nat.reduceMul, sideV]

theorem change_ahead (c : Change) : Ct Try.prog 39 (YtglpemnejngkaaaVm.ops [c.pv]) (.vals [sideV (c.bef, c.had)]) := by
  refine Ct.of_V Try.func39 rfl (by simp [YtglpemnejngkaaaVm.ops, Try.f39]) ?_
  refine V.exec 400 ?_
  simp (config := {contextual := true}) only [go_sem, ↓reduceIte, reduceCtorEq, Bool.false_eq_true, Bool.true_eq_false, Nat.reduceAdd, Nat.reduceLT, Nat.reduceEqDiff, Nat.reduceLeDiff, Nat.reduceSub, Nat.reduceMul, Try.f39, Change.pv, sideV]

def madeV (seq : Int) (key : List UInt8) (a b : List UInt8 × Bool) : Change × Int :=
  if a.2 = false ∧ b.2 = false then (Change.zero, 3) else (⟨seq, key, a.2, a.1, b.2, b.1⟩, 0)

set_option maxHeartbeats 4000000 in
theorem change_made (seq : Int) (key : List UInt8) (a b : List UInt8 × Bool) : Ct Try.prog 46 (YtglpemnejngkaaaVm.ops [.int .i64 seq, .str key, sideV a, sideV b]) (.vals [(madeV seq key a b).1.pv, .int .i64 (madeV seq key a b).2]) := by
  obtain ⟨av, ah⟩ := a
  obtain ⟨bv, bh⟩ := b
  cases ah with
  | true =>
    have e : madeV seq key (av, true) (bv, bh) = (⟨seq, key, true, av, bh, bv⟩, 0) := rfl
    rw [e]
    refine Ct.of_V Try.func46 rfl (by simp [YtglpemnejngkaaaVm.ops, Try.f46]) ?_
    refine V.exec 400 ?_
    simp (config := {contextual := true}) only [go_sem, ↓reduceIte, reduceCtorEq, Bool.false_eq_true, Bool.true_eq_false, Nat.reduceAdd, Nat.reduceLT, Nat.reduceEqDiff, Nat.reduceLeDiff, Nat.reduceSub, Nat.reduceMul, Try.f46, sideV, Change.pv, decide_true]
  | false =>
    cases bh with
    | true =>
      have e : madeV seq key (av, false) (bv, true) = (⟨seq, key, false, av, true, bv⟩, 0) := rfl
      rw [e]
      refine Ct.of_V Try.func46 rfl (by simp [YtglpemnejngkaaaVm.ops, Try.f46]) ?_
      refine V.exec 400 ?_
      simp (config := {contextual := true}) only [go_sem, ↓reduceIte, reduceCtorEq, Bool.false_eq_true, Bool.true_eq_false, Nat.reduceAdd, Nat.reduceLT, Nat.reduceEqDiff, Nat.reduceLeDiff, Nat.reduceSub, Nat.reduceMul, Try.f46, sideV, Change.pv, decide_true, decide_false]
    | false =>
      have e : madeV seq key (av, false) (bv, false) = (Change.zero, 3) := rfl
      rw [e]
      refine Ct.of_V Try.func46 rfl (by simp [YtglpemnejngkaaaVm.ops, Try.f46]) ?_
      refine V.exec 400 ?_
      simp (config := {contextual := true}) only [go_sem, ↓reduceIte, reduceCtorEq, Bool.false_eq_true, Bool.true_eq_false, Nat.reduceAdd, Nat.reduceLT, Nat.reduceEqDiff, Nat.reduceLeDiff, Nat.reduceSub, Nat.reduceMul, Try.f46, sideV, Change.pv, Change.zero, decide_true, decide_false]

set_option maxRecDepth 4000 in
set_option maxHeartbeats 8000000 in
theorem change_Of (l : List Pair) (seq : Int) (n : Note) (hl : l.length ≤ 1000000) : Ct Try.prog 28 (YtglpemnejngkaaaVm.ops [.row (l.map Pair.pv), .int .i64 seq, n.pv]) (.vals [(ofV l seq n).1.pv, .int .i64 (ofV l seq n).2]) := by
  have hbad : ¬ (pairsOk l ∧ n.ok ∧ 1 ≤ seq ∧ seq ≤ 2147483647) → ofV l seq n = (Change.zero, 1) := fun h => by unfold ofV; rw [if_neg h]
  refine Ct.of_V Try.func28 rfl (by simp [YtglpemnejngkaaaVm.ops, Try.f28]) ?_
  refine V.exec 400 ?_
  simp (config := {contextual := true}) only [go_sem, ↓reduceIte, reduceCtorEq, Bool.false_eq_true, Bool.true_eq_false, Nat.reduceAdd, Nat.reduceLT, Nat.reduceEqDiff, Nat.reduceLeDiff, Nat.reduceSub, Nat.reduceMul, Try.f28, Note.pv]
  refine V.call rfl rfl (by simp [dOK]) ⟨21, [], by simp only [go_sem, ↓reduceIte, reduceCtorEq, Bool.false_eq_true, Bool.true_eq_false, Nat.reduceAdd, Nat.reduceLT, Nat.reduceEqDiff, Nat.reduceLeDiff, Nat.reduceSub, Nat.reduceMul], ⟨_, rfl, rfl, rfl⟩, .inl ⟨[.row (l.map Pair.pv)], _, .inl (by simp only [go_sem, ↓reduceIte, reduceCtorEq, Bool.false_eq_true, Bool.true_eq_false, Nat.reduceAdd, Nat.reduceLT, Nat.reduceEqDiff, Nat.reduceLeDiff, Nat.reduceSub, Nat.reduceMul]), leaf_Right l hl, .inl ⟨_, rfl, rfl, rfl, rfl⟩⟩⟩ ?_
  refine V.exec 400 ?_
  by_cases hok : pairsOk l
  · simp (config := {contextual := true}) only [go_sem, ↓reduceIte, reduceCtorEq, Bool.false_eq_true, Bool.true_eq_false, Nat.reduceAdd, Nat.reduceLT, Nat.reduceEqDiff, Nat.reduceLeDiff, Nat.reduceSub, Nat.reduceMul, hok]
    refine V.call rfl rfl (by simp [dOK]) ⟨34, [], by simp only [go_sem, ↓reduceIte, reduceCtorEq, Bool.false_eq_true, Bool.true_eq_false, Nat.reduceAdd, Nat.reduceLT, Nat.reduceEqDiff, Nat.reduceLeDiff, Nat.reduceSub, Nat.reduceMul], ⟨_, rfl, rfl, rfl⟩, .inl ⟨[n.pv], _, .inl (by simp only [go_sem, ↓reduceIte, reduceCtorEq, Bool.false_eq_true, Bool.true_eq_false, Nat.reduceAdd, Nat.reduceLT, Nat.reduceEqDiff, Nat.reduceLeDiff, Nat.reduceSub, Nat.reduceMul, Note.pv]), note_Right n, .inl ⟨_, rfl, rfl, rfl, rfl⟩⟩⟩ ?_
    refine V.exec 400 ?_
    by_cases hn : n.ok
    · by_cases h1 : seq < 1
      · have hv := hbad fun h => by omega
        simp (config := {contextual := true}) only [go_sem, ↓reduceIte, reduceCtorEq, Bool.false_eq_true, Bool.true_eq_false, Nat.reduceAdd, Nat.reduceLT, Nat.reduceEqDiff, Nat.reduceLeDiff, Nat.reduceSub, Nat.reduceMul, hn, h1, hv, Change.zero, Change.pv, decide_false]
      · by_cases h2 : 2147483647 < seq
        · have hv := hbad fun h => by omega
          simp (config := {contextual := true}) only [go_sem, ↓reduceIte, reduceCtorEq, Bool.false_eq_true, Bool.true_eq_false, Nat.reduceAdd, Nat.reduceLT, Nat.reduceEqDiff, Nat.reduceLeDiff, Nat.reduceSub, Nat.reduceMul, hn, h1, h2, hv, Change.zero, Change.pv, decide_false]
        · have hv : ofV l seq n = madeV seq n.key (getV l n.key) (doneV (getV l n.key).1 (getV l n.key).2 [n]) := by
            unfold ofV madeV; rw [if_pos ⟨hok, hn, by omega, by omega⟩]
          have cd := note_Done (getV l n.key).1 (getV l n.key).2 [n] (by simp)
          have cm := change_made seq n.key (getV l n.key) (doneV (getV l n.key).1 (getV l n.key).2 [n])
          have co := change_of l n.key hl
          rw [hv]
          obtain ⟨gv, gh, hG⟩ : ∃ a b, getV l n.key = (a, b) := ⟨_, _, rfl⟩
          rw [hG] at cd cm co ⊢
          simp only at cd cm co ⊢
          obtain ⟨dv, dh, hD⟩ : ∃ a b, doneV gv gh [n] = (a, b) := ⟨_, _, rfl⟩
          rw [hD] at cd cm ⊢
          simp only at cd cm
          generalize madeV seq n.key (gv, gh) (dv, dh) = M at *
          simp (config := {contextual := true}) only [go_sem, ↓reduceIte, reduceCtorEq, Bool.false_eq_true, Bool.true_eq_false, Nat.reduceAdd, Nat.reduceLT, Nat.reduceEqDiff, Nat.reduceLeDiff, Nat.reduceSub, Nat.reduceMul, hn, h1, h2]
          refine V.call rfl rfl (by simp [dOK]) ⟨38, [], by simp only [go_sem, ↓reduceIte, reduceCtorEq, Bool.false_eq_true, Bool.true_eq_false, Nat.reduceAdd, Nat.reduceLT, Nat.reduceEqDiff, Nat.reduceLeDiff, Nat.reduceSub, Nat.reduceMul], ⟨_, rfl, rfl, rfl⟩, .inl ⟨[.row (l.map Pair.pv), .str n.key], _, .inl (by simp only [go_sem, ↓reduceIte, reduceCtorEq, Bool.false_eq_true, Bool.true_eq_false, Nat.reduceAdd, Nat.reduceLT, Nat.reduceEqDiff, Nat.reduceLeDiff, Nat.reduceSub, Nat.reduceMul, sideV]), co, .inr (.inl ⟨_, rfl, rfl, rfl⟩)⟩⟩ ?_
          refine V.exec 400 ?_
          simp (config := {contextual := true}) only [go_sem, ↓reduceIte, reduceCtorEq, Bool.false_eq_true, Bool.true_eq_false, Nat.reduceAdd, Nat.reduceLT, Nat.reduceEqDiff, Nat.reduceLeDiff, Nat.reduceSub, Nat.reduceMul, sideV, Note.pv]
          refine V.call rfl rfl (by simp [dOK]) ⟨43, [], by simp only [go_sem, ↓reduceIte, reduceCtorEq, Bool.false_eq_true, Bool.true_eq_false, Nat.reduceAdd, Nat.reduceLT, Nat.reduceEqDiff, Nat.reduceLeDiff, Nat.reduceSub, Nat.reduceMul], ⟨_, rfl, rfl, rfl⟩, .inl ⟨[.str gv, .bool (decide (gh = true)), .row ([n].map Note.pv)], _, .inl (by simp only [go_sem, ↓reduceIte, reduceCtorEq, Bool.false_eq_true, Bool.true_eq_false, Nat.reduceAdd, Nat.reduceLT, Nat.reduceEqDiff, Nat.reduceLeDiff, Nat.reduceSub, Nat.reduceMul, Note.pv, List.map_cons, List.map_nil]), cd, .inr (.inl ⟨_, rfl, rfl, rfl⟩)⟩⟩ ?_
          refine V.exec 400 ?_
          simp (config := {contextual := true}) only [go_sem, ↓reduceIte, reduceCtorEq, Bool.false_eq_true, Bool.true_eq_false, Nat.reduceAdd, Nat.reduceLT, Nat.reduceEqDiff, Nat.reduceLeDiff, Nat.reduceSub, Nat.reduceMul, sideV, Note.pv]
          refine V.call rfl rfl (by simp [dOK]) ⟨46, [], by simp only [go_sem, ↓reduceIte, reduceCtorEq, Bool.false_eq_true, Bool.true_eq_false, Nat.reduceAdd, Nat.reduceLT, Nat.reduceEqDiff, Nat.reduceLeDiff, Nat.reduceSub, Nat.reduceMul], ⟨_, rfl, rfl, rfl⟩, .inl ⟨[.int .i64 seq, .str n.key, sideV (gv, gh), sideV (dv, dh)], _, .inl (by simp only [go_sem, ↓reduceIte, reduceCtorEq, Bool.false_eq_true, Bool.true_eq_false, Nat.reduceAdd, Nat.reduceLT, Nat.reduceEqDiff, Nat.reduceLeDiff, Nat.reduceSub, Nat.reduceMul, sideV]), cm, .inr (.inl ⟨_, rfl, rfl, rfl⟩)⟩⟩ ?_
          refine V.exec 400 ?_
          simp (config := {contextual := true}) only [go_sem, ↓reduceIte, reduceCtorEq, Bool.false_eq_true, Bool.true_eq_false, Nat.reduceAdd, Nat.reduceLT, Nat.reduceEqDiff, Nat.reduceLeDiff, Nat.reduceSub, Nat.reduceMul, Change.pv]
    · have hv := hbad fun h => hn h.2.1
      simp (config := {contextual := true}) only [go_sem, ↓reduceIte, reduceCtorEq, Bool.false_eq_true, Bool.true_eq_false, Nat.reduceAdd, Nat.reduceLT, Nat.reduceEqDiff, Nat.reduceLeDiff, Nat.reduceSub, Nat.reduceMul, hn, hv, Change.zero, Change.pv, decide_false]
  · have hv := hbad fun h => hok h.1
    simp (config := {contextual := true}) only [go_sem, ↓reduceIte, reduceCtorEq, Bool.false_eq_true, Bool.true_eq_false, Nat.reduceAdd, Nat.reduceLT, Nat.reduceEqDiff, Nat.reduceLeDiff, Nat.reduceSub, Nat.reduceMul, hok, hv, Change.zero, Change.pv, decide_false]
end Go.Proofs.Ytglpemnejngkaaa
