/- A part of a proof: functions of the program, walked. -/
import Derived.Test.YtbciecmoadjigaaL11B1
import Derived.Test.YtbciecmoadjigaaL11R1
set_option linter.unusedVariables false
set_option linter.unusedSimpArgs false
namespace Go.Proofs.Ytbciecmoadjigaa
open Go Go.Proofs Go.Proofs.YtbciecmoadjigaaVm Go.Proofs.Ytbciecmoadjigaa.Ty

theorem doneV_two (a b : Note) : doneV [] false [a, b] = doneOne (doneOne ([], false) a) b := rfl
/-- The document's: two notes as one. -/
def refBothV (a b : Note) : Note :=
  if b.kind < 1 ∨ 3 < b.kind then { a with key := b.key }
  else if b.kind ≠ 3 ∨ a.kind < 1 ∨ 3 < a.kind then b
  else if a.kind = 3 then ⟨3, b.key, b.value, IntKind.u64.wrap (a.n + b.n)⟩
  else ⟨1, b.key, (doneV [] false [a, b]).1, 0⟩

set_option maxRecDepth 4000 in
set_option maxHeartbeats 8000000 in
theorem ref09_Both (a b : Note) : Ct Try.prog 21 (YtbciecmoadjigaaVm.ops [a.pv, b.pv]) (.vals [(refBothV a b).pv]) := by
  have c := ref09_Done [] false [a, b] (by simp)
  generalize hD : doneV [] false [a, b] = D at *
  have hR : refBothV a b = if b.kind < 1 ∨ 3 < b.kind then { a with key := b.key } else if b.kind ≠ 3 ∨ a.kind < 1 ∨ 3 < a.kind then b else if a.kind = 3 then ⟨3, b.key, b.value, IntKind.u64.wrap (a.n + b.n)⟩ else ⟨1, b.key, D.1, 0⟩ := by unfold refBothV; rw [hD]
  generalize refBothV a b = r at *
  refine Ct.of_V Try.func21 rfl (by simp [YtbciecmoadjigaaVm.ops, Try.f21]) ?_
  refine V.exec 400 ?_
  by_cases b1 : b.kind < 1
  · rw [if_pos (.inl b1)] at hR
    subst hR
    simp (config := {contextual := true}) only [go_sem, ↓reduceIte, reduceCtorEq, Bool.false_eq_true, Bool.true_eq_false, Nat.reduceAdd, Nat.reduceLT, Nat.reduceEqDiff, Nat.reduceLeDiff, Nat.reduceSub, Nat.reduceMul, Try.f21, Note.pv, b1]
  · by_cases b3 : 3 < b.kind
    · rw [if_pos (.inr b3)] at hR
      subst hR
      simp (config := {contextual := true}) only [go_sem, ↓reduceIte, reduceCtorEq, Bool.false_eq_true, Bool.true_eq_false, Nat.reduceAdd, Nat.reduceLT, Nat.reduceEqDiff, Nat.reduceLeDiff, Nat.reduceSub, Nat.reduceMul, Try.f21, Note.pv, b1, b3]
    · rw [if_neg (by omega)] at hR
      by_cases e3 : b.kind = 3
      · have z1 : ¬ (3 : Int) < 1 := by decide
        have z3 : ¬ (3 : Int) < 3 := by decide
        by_cases a1 : a.kind < 1
        · rw [if_pos (.inr (.inl a1))] at hR
          subst hR
          simp (config := {contextual := true}) only [go_sem, ↓reduceIte, reduceCtorEq, Bool.false_eq_true, Bool.true_eq_false, Nat.reduceAdd, Nat.reduceLT, Nat.reduceEqDiff, Nat.reduceLeDiff, Nat.reduceSub, Nat.reduceMul, Try.f21, Note.pv, e3, z1, z3, a1]
        · by_cases a3 : 3 < a.kind
          · rw [if_pos (.inr (.inr a3))] at hR
            subst hR
            simp (config := {contextual := true}) only [go_sem, ↓reduceIte, reduceCtorEq, Bool.false_eq_true, Bool.true_eq_false, Nat.reduceAdd, Nat.reduceLT, Nat.reduceEqDiff, Nat.reduceLeDiff, Nat.reduceSub, Nat.reduceMul, Try.f21, Note.pv, e3, z1, z3, a1, a3]
          · rw [if_neg (by omega)] at hR
            by_cases f3 : a.kind = 3
            · rw [if_pos f3] at hR
              subst hR
              simp (config := {contextual := true}) only [go_sem, ↓reduceIte, reduceCtorEq, Bool.false_eq_true, Bool.true_eq_false, Nat.reduceAdd, Nat.reduceLT, Nat.reduceEqDiff, Nat.reduceLeDiff, Nat.reduceSub, Nat.reduceMul, Try.f21, Note.pv, e3, z1, z3, f3]
            · rw [if_neg f3] at hR
              subst hR
              simp (config := {contextual := true}) only [go_sem, ↓reduceIte, reduceCtorEq, Bool.false_eq_true, Bool.true_eq_false, Nat.reduceAdd, Nat.reduceLT, Nat.reduceEqDiff, Nat.reduceLeDiff, Nat.reduceSub, Nat.reduceMul, Try.f21, Note.pv, e3, z1, z3, a1, a3, f3]
              refine V.call rfl rfl (by simp [dOK]) ⟨36, [], by simp only [go_sem, ↓reduceIte, reduceCtorEq, Bool.false_eq_true, Bool.true_eq_false, Nat.reduceAdd, Nat.reduceLT, Nat.reduceEqDiff, Nat.reduceLeDiff, Nat.reduceSub, Nat.reduceMul], ⟨_, rfl, rfl, rfl⟩, .inl ⟨[.str [], .bool (decide (false = true)), .row ([a, b].map Note.pv)], _, .inl (by simp only [go_sem, ↓reduceIte, reduceCtorEq, Bool.false_eq_true, Bool.true_eq_false, Nat.reduceAdd, Nat.reduceLT, Nat.reduceEqDiff, Nat.reduceLeDiff, Nat.reduceSub, Nat.reduceMul, Note.pv, List.map_cons, List.map_nil, decide_false, e3]), c, .inr (.inl ⟨_, rfl, rfl, rfl⟩)⟩⟩ ?_
              refine V.exec 400 ?_
              simp (config := {contextual := true}) only [go_sem, ↓reduceIte, reduceCtorEq, Bool.false_eq_true, Bool.true_eq_false, Nat.reduceAdd, Nat.reduceLT, Nat.reduceEqDiff, Nat.reduceLeDiff, Nat.reduceSub, Nat.reduceMul]
      · rw [if_pos (.inl e3)] at hR
        subst hR
        simp (config := {contextual := true}) only [go_sem, ↓reduceIte, reduceCtorEq, Bool.false_eq_true, Bool.true_eq_false, Nat.reduceAdd, Nat.reduceLT, Nat.reduceEqDiff, Nat.reduceLeDiff, Nat.reduceSub, Nat.reduceMul, Try.f21, Note.pv, b1, b3, e3]
theorem doneOne_key (st : List UInt8 × Bool) {x : Note} (h : x.kind = 1) : doneOne st x = (x.value, true) := by simp [doneOne, h]
theorem doneOne_del (st : List UInt8 × Bool) {x : Note} (h : x.kind = 2) : doneOne st x = ([], false) := by simp [doneOne, h]
/-- Of right notes both say the same. -/
theorem refBoth_eq {a b : Note} (ha : a.ok) (hb : b.ok) : refBothV a b = bothV a b := by
  obtain ⟨_, _, ka⟩ := ha
  obtain ⟨_, _, kb⟩ := hb
  unfold refBothV bothV
  rcases kb with kb | kb | kb
  · simp [kb.1]
  · simp [kb.1]
  · rcases ka with ka | ka | ka
    · simp [kb.1, ka.1, doneV_two, doneOne_key _ ka.1]
    · simp [kb.1, ka.1, doneV_two, doneOne_del _ ka.1]
    · cases b; cases a
      simp_all [Int.add_comm]
end Go.Proofs.Ytbciecmoadjigaa
