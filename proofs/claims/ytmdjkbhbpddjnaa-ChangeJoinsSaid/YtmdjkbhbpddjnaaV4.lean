/- A part of a proof: functions of the program, walked. -/
import Derived.Test.YtmdjkbhbpddjnaaGG
set_option linter.unusedVariables false
set_option linter.unusedSimpArgs false
namespace Go.Proofs.Ytmdjkbhbpddjnaa
open Go Go.Proofs Go.Proofs.YtmdjkbhbpddjnaaVm Go.Proofs.Ytmdjkbhbpddjnaa.Ty

set_option maxRecDepth 10000 in
set_option maxHeartbeats 32000000 in
theorem law_JoinsC (l : List Pair) (a b c : Change) (hl : l.length ≤ maxLen) :
    Ct Try.prog 7 (YtmdjkbhbpddjnaaVm.ops [.row (l.map Pair.pv), a.pv, b.pv, c.pv]) (.vals [.bool true]) := by
  have aw := law15_awake
  simp only [maxLen] at hl
  refine Ct.of_V Try.func7 rfl (by simp [YtmdjkbhbpddjnaaVm.ops, Try.f7]) ?_
  refine V.exec 400 ?_
  simp (config := {contextual := true}) only [go_sem, ↓reduceIte, reduceCtorEq, Bool.false_eq_true, Bool.true_eq_false, Nat.reduceAdd, Nat.reduceLT, Nat.reduceEqDiff, Nat.reduceLeDiff, Nat.reduceSub, Nat.reduceMul, Try.f7, Change.pv]
  refine V.call rfl rfl (by simp [dOK]) ⟨9, [], by simp only [go_sem, ↓reduceIte, reduceCtorEq, Bool.false_eq_true, Bool.true_eq_false, Nat.reduceAdd, Nat.reduceLT, Nat.reduceEqDiff, Nat.reduceLeDiff, Nat.reduceSub, Nat.reduceMul], ⟨_, rfl, rfl, rfl⟩, .inl ⟨[.row (l.map Pair.pv)], _, .inl (by simp only [go_sem, ↓reduceIte, reduceCtorEq, Bool.false_eq_true, Bool.true_eq_false, Nat.reduceAdd, Nat.reduceLT, Nat.reduceEqDiff, Nat.reduceLeDiff, Nat.reduceSub, Nat.reduceMul]), law15_small l (by omega), .inl ⟨_, rfl, rfl, rfl, rfl⟩⟩⟩ ?_
  refine V.exec 400 ?_
  by_cases h1 : smallP l
  · have hl60 := h1.1
    simp (config := {contextual := true}) only [go_sem, ↓reduceIte, reduceCtorEq, Bool.false_eq_true, Bool.true_eq_false, Nat.reduceAdd, Nat.reduceLT, Nat.reduceEqDiff, Nat.reduceLeDiff, Nat.reduceSub, Nat.reduceMul, h1, Change.pv]
    refine V.call rfl rfl (by simp [dOK]) ⟨10, [], by simp only [go_sem, ↓reduceIte, reduceCtorEq, Bool.false_eq_true, Bool.true_eq_false, Nat.reduceAdd, Nat.reduceLT, Nat.reduceEqDiff, Nat.reduceLeDiff, Nat.reduceSub, Nat.reduceMul], ⟨_, rfl, rfl, rfl⟩, .inl ⟨[.row ([a, b, c].map Change.pv)], _, .inl (by simp only [go_sem, ↓reduceIte, reduceCtorEq, Bool.false_eq_true, Bool.true_eq_false, Nat.reduceAdd, Nat.reduceLT, Nat.reduceEqDiff, Nat.reduceLeDiff, Nat.reduceSub, Nat.reduceMul, Change.pv, List.map_cons, List.map_nil]), law15_few [a, b, c] (by simp), .inl ⟨_, rfl, rfl, rfl, rfl⟩⟩⟩ ?_
    refine V.exec 400 ?_
    by_cases h2 : fewC [a, b, c]
    · have c1 := change_Join a b
      have c2 := change_Join b c
      have z1 : ¬ ((1 : Int) = 0) := by decide
      have z3 : ¬ ((3 : Int) = 0) := by decide
      simp (config := {contextual := true}) only [go_sem, ↓reduceIte, reduceCtorEq, Bool.false_eq_true, Bool.true_eq_false, Nat.reduceAdd, Nat.reduceLT, Nat.reduceEqDiff, Nat.reduceLeDiff, Nat.reduceSub, Nat.reduceMul, h2, Change.pv]
      rcases joinV_cases a b with ⟨hx, jx, nx⟩ | hx
      · rw [hx] at c1
        have kx := joinC_ok jx nx
        have hk : (joinC a b).key = a.key := jx.2.2.1.symm
        have c3 := change_Do l [a, b] (by omega) (by simp)
        have c4 := change_Do l [joinC a b] (by omega) (by simp)
        have n3 := doV_len l [a, b]
        have key : (∃ p, doV l [a, b] = (p, 0) ∧ doV l [joinC a b] = (p, 0)) ∨ doV l [a, b] = (l, 1) := by
          rcases doV_cases l [a, b] with ⟨p, hp⟩ | hp
          · obtain ⟨g1, g2⟩ := doV_zero.1 hp
            exact .inl ⟨p, hp, doV_zero.2 ⟨g1, join_does g1 jx nx g2⟩⟩
          · exact .inr hp
        have has := @join_assoc a b c
        have xs : (joinC a b).seq = b.seq := rfl
        have xk : (joinC a b).key = b.key := rfl
        generalize joinC a b = X at *
        have hf0 := joinV_cases b c
        obtain ⟨Y, f, hY⟩ : ∃ y f, joinV b c = (y, f) := ⟨_, _, rfl⟩
        rw [hY] at c2
        simp only [List.length_cons, List.length_nil] at c1 c2 n3
        refine V.call rfl rfl (by simp [dOK]) ⟨14, [], by simp only [go_sem, ↓reduceIte, reduceCtorEq, Bool.false_eq_true, Bool.true_eq_false, Nat.reduceAdd, Nat.reduceLT, Nat.reduceEqDiff, Nat.reduceLeDiff, Nat.reduceSub, Nat.reduceMul], ⟨_, rfl, rfl, rfl⟩, .inl ⟨[a.pv, b.pv], _, .inl (by simp only [go_sem, ↓reduceIte, reduceCtorEq, Bool.false_eq_true, Bool.true_eq_false, Nat.reduceAdd, Nat.reduceLT, Nat.reduceEqDiff, Nat.reduceLeDiff, Nat.reduceSub, Nat.reduceMul, Change.pv]), c1, .inr (.inl ⟨_, rfl, rfl, rfl⟩)⟩⟩ ?_
        refine V.exec 400 ?_
        simp (config := {contextual := true}) only [go_sem, ↓reduceIte, reduceCtorEq, Bool.false_eq_true, Bool.true_eq_false, Nat.reduceAdd, Nat.reduceLT, Nat.reduceEqDiff, Nat.reduceLeDiff, Nat.reduceSub, Nat.reduceMul, Change.pv]
        refine V.call rfl rfl (by simp [dOK]) ⟨14, [], by simp only [go_sem, ↓reduceIte, reduceCtorEq, Bool.false_eq_true, Bool.true_eq_false, Nat.reduceAdd, Nat.reduceLT, Nat.reduceEqDiff, Nat.reduceLeDiff, Nat.reduceSub, Nat.reduceMul], ⟨_, rfl, rfl, rfl⟩, .inl ⟨[b.pv, c.pv], _, .inl (by simp only [go_sem, ↓reduceIte, reduceCtorEq, Bool.false_eq_true, Bool.true_eq_false, Nat.reduceAdd, Nat.reduceLT, Nat.reduceEqDiff, Nat.reduceLeDiff, Nat.reduceSub, Nat.reduceMul, Change.pv]), c2, .inr (.inl ⟨_, rfl, rfl, rfl⟩)⟩⟩ ?_
        refine V.exec 400 ?_
        simp (config := {contextual := true}) only [go_sem, ↓reduceIte, reduceCtorEq, Bool.false_eq_true, Bool.true_eq_false, Nat.reduceAdd, Nat.reduceLT, Nat.reduceEqDiff, Nat.reduceLeDiff, Nat.reduceSub, Nat.reduceMul, Change.pv]
        rcases key with ⟨p, hp, hq⟩ | hp
        · rw [hp] at c3 n3
          rw [hq] at c4
          simp only at c3 c4 n3
          refine V.call rfl rfl (by simp [dOK]) ⟨16, [], by simp only [go_sem, ↓reduceIte, reduceCtorEq, Bool.false_eq_true, Bool.true_eq_false, Nat.reduceAdd, Nat.reduceLT, Nat.reduceEqDiff, Nat.reduceLeDiff, Nat.reduceSub, Nat.reduceMul], ⟨_, rfl, rfl, rfl⟩, .inl ⟨[.row (l.map Pair.pv), .row ([a, b].map Change.pv)], _, .inl (by simp only [go_sem, ↓reduceIte, reduceCtorEq, Bool.false_eq_true, Bool.true_eq_false, Nat.reduceAdd, Nat.reduceLT, Nat.reduceEqDiff, Nat.reduceLeDiff, Nat.reduceSub, Nat.reduceMul, Change.pv, List.map_cons, List.map_nil]), c3, .inr (.inl ⟨_, rfl, rfl, rfl⟩)⟩⟩ ?_
          refine V.exec 400 ?_
          simp (config := {contextual := true}) only [go_sem, ↓reduceIte, reduceCtorEq, Bool.false_eq_true, Bool.true_eq_false, Nat.reduceAdd, Nat.reduceLT, Nat.reduceEqDiff, Nat.reduceLeDiff, Nat.reduceSub, Nat.reduceMul, Change.pv]
          refine V.call rfl rfl (by simp [dOK]) ⟨16, [], by simp only [go_sem, ↓reduceIte, reduceCtorEq, Bool.false_eq_true, Bool.true_eq_false, Nat.reduceAdd, Nat.reduceLT, Nat.reduceEqDiff, Nat.reduceLeDiff, Nat.reduceSub, Nat.reduceMul], ⟨_, rfl, rfl, rfl⟩, .inl ⟨[.row (l.map Pair.pv), .row ([X].map Change.pv)], _, .inl (by simp only [go_sem, ↓reduceIte, reduceCtorEq, Bool.false_eq_true, Bool.true_eq_false, Nat.reduceAdd, Nat.reduceLT, Nat.reduceEqDiff, Nat.reduceLeDiff, Nat.reduceSub, Nat.reduceMul, Change.pv, List.map_cons, List.map_nil]), c4, .inr (.inl ⟨_, rfl, rfl, rfl⟩)⟩⟩ ?_
          refine V.exec 400 ?_
          simp (config := {contextual := true}) only [go_sem, ↓reduceIte, reduceCtorEq, Bool.false_eq_true, Bool.true_eq_false, Nat.reduceAdd, Nat.reduceLT, Nat.reduceEqDiff, Nat.reduceLeDiff, Nat.reduceSub, Nat.reduceMul]
          refine V.call rfl rfl (by simp [dOK]) ⟨20, [], by simp only [go_sem, ↓reduceIte, reduceCtorEq, Bool.false_eq_true, Bool.true_eq_false, Nat.reduceAdd, Nat.reduceLT, Nat.reduceEqDiff, Nat.reduceLeDiff, Nat.reduceSub, Nat.reduceMul], ⟨_, rfl, rfl, rfl⟩, .inl ⟨[.row (p.map Pair.pv), .row (p.map Pair.pv)], _, .inl (by simp only [go_sem, ↓reduceIte, reduceCtorEq, Bool.false_eq_true, Bool.true_eq_false, Nat.reduceAdd, Nat.reduceLT, Nat.reduceEqDiff, Nat.reduceLeDiff, Nat.reduceSub, Nat.reduceMul]), ref03_Same p p (by omega), .inl ⟨_, rfl, rfl, rfl, rfl⟩⟩⟩ ?_
          refine V.exec 400 ?_
          simp (config := {contextual := true}) only [go_sem, ↓reduceIte, reduceCtorEq, Bool.false_eq_true, Bool.true_eq_false, Nat.reduceAdd, Nat.reduceLT, Nat.reduceEqDiff, Nat.reduceLeDiff, Nat.reduceSub, Nat.reduceMul, decide_true, not_true_eq_false, xs, xk, jx.2.2.1]
          refine ⟨fun hf => ?_, fun hf => ?_⟩
          · refine V.call rfl rfl (by simp [dOK]) ⟨11, [], by simp only [go_sem, ↓reduceIte, reduceCtorEq, Bool.false_eq_true, Bool.true_eq_false, Nat.reduceAdd, Nat.reduceLT, Nat.reduceEqDiff, Nat.reduceLeDiff, Nat.reduceSub, Nat.reduceMul], ⟨_, rfl, rfl, rfl⟩, .inl ⟨[], _, .inl (by simp only [go_sem, ↓reduceIte, reduceCtorEq, Bool.false_eq_true, Bool.true_eq_false, Nat.reduceAdd, Nat.reduceLT, Nat.reduceEqDiff, Nat.reduceLeDiff, Nat.reduceSub, Nat.reduceMul]), aw, .inl ⟨_, rfl, rfl, rfl, rfl⟩⟩⟩ ?_
            refine V.exec 400 ?_
            simp (config := {contextual := true}) only [go_sem, ↓reduceIte, reduceCtorEq, Bool.false_eq_true, Bool.true_eq_false, Nat.reduceAdd, Nat.reduceLT, Nat.reduceEqDiff, Nat.reduceLeDiff, Nat.reduceSub, Nat.reduceMul]
          · have hY2 : Y = joinC b c := by
              rcases hf0 with ⟨e1, _⟩ | ⟨e1, _⟩ | ⟨e1, _⟩
              · rw [hY] at e1; exact congrArg Prod.fst e1
              · rw [hY] at e1; exact absurd (congrArg Prod.snd e1) (by simp only; rw [hf]; decide)
              · rw [hY] at e1; exact absurd (congrArg Prod.snd e1) (by simp only; rw [hf]; decide)
            have hj := has hx (by rw [hY, hf, ← hY2])
            rw [← hY2] at hj
            have c5 := change_Join X c
            have c6 := change_Join a Y
            rw [hj] at c5
            generalize joinV a Y = M at *
            refine V.call rfl rfl (by simp [dOK]) ⟨14, [], by simp only [go_sem, ↓reduceIte, reduceCtorEq, Bool.false_eq_true, Bool.true_eq_false, Nat.reduceAdd, Nat.reduceLT, Nat.reduceEqDiff, Nat.reduceLeDiff, Nat.reduceSub, Nat.reduceMul], ⟨_, rfl, rfl, rfl⟩, .inl ⟨[X.pv, c.pv], _, .inl (by simp only [go_sem, ↓reduceIte, reduceCtorEq, Bool.false_eq_true, Bool.true_eq_false, Nat.reduceAdd, Nat.reduceLT, Nat.reduceEqDiff, Nat.reduceLeDiff, Nat.reduceSub, Nat.reduceMul, Change.pv, xs, xk]), c5, .inr (.inl ⟨_, rfl, rfl, rfl⟩)⟩⟩ ?_
            refine V.exec 400 ?_
            simp (config := {contextual := true}) only [go_sem, ↓reduceIte, reduceCtorEq, Bool.false_eq_true, Bool.true_eq_false, Nat.reduceAdd, Nat.reduceLT, Nat.reduceEqDiff, Nat.reduceLeDiff, Nat.reduceSub, Nat.reduceMul, Change.pv]
            refine V.call rfl rfl (by simp [dOK]) ⟨14, [], by simp only [go_sem, ↓reduceIte, reduceCtorEq, Bool.false_eq_true, Bool.true_eq_false, Nat.reduceAdd, Nat.reduceLT, Nat.reduceEqDiff, Nat.reduceLeDiff, Nat.reduceSub, Nat.reduceMul], ⟨_, rfl, rfl, rfl⟩, .inl ⟨[a.pv, Y.pv], _, .inl (by simp only [go_sem, ↓reduceIte, reduceCtorEq, Bool.false_eq_true, Bool.true_eq_false, Nat.reduceAdd, Nat.reduceLT, Nat.reduceEqDiff, Nat.reduceLeDiff, Nat.reduceSub, Nat.reduceMul, Change.pv, jx.2.2.1]), c6, .inr (.inl ⟨_, rfl, rfl, rfl⟩)⟩⟩ ?_
            refine V.exec 400 ?_
            simp (config := {contextual := true}) only [go_sem, ↓reduceIte, reduceCtorEq, Bool.false_eq_true, Bool.true_eq_false, Nat.reduceAdd, Nat.reduceLT, Nat.reduceEqDiff, Nat.reduceLeDiff, Nat.reduceSub, Nat.reduceMul, Change.pv, eqChange, decide_true]
            refine V.call rfl rfl (by simp [dOK]) ⟨11, [], by simp only [go_sem, ↓reduceIte, reduceCtorEq, Bool.false_eq_true, Bool.true_eq_false, Nat.reduceAdd, Nat.reduceLT, Nat.reduceEqDiff, Nat.reduceLeDiff, Nat.reduceSub, Nat.reduceMul], ⟨_, rfl, rfl, rfl⟩, .inl ⟨[], _, .inl (by simp only [go_sem, ↓reduceIte, reduceCtorEq, Bool.false_eq_true, Bool.true_eq_false, Nat.reduceAdd, Nat.reduceLT, Nat.reduceEqDiff, Nat.reduceLeDiff, Nat.reduceSub, Nat.reduceMul]), aw, .inl ⟨_, rfl, rfl, rfl, rfl⟩⟩⟩ ?_
            refine V.exec 400 ?_
            simp (config := {contextual := true}) only [go_sem, ↓reduceIte, reduceCtorEq, Bool.false_eq_true, Bool.true_eq_false, Nat.reduceAdd, Nat.reduceLT, Nat.reduceEqDiff, Nat.reduceLeDiff, Nat.reduceSub, Nat.reduceMul]
        · rw [hp] at c3
          obtain ⟨Q, h, hQ⟩ : ∃ y f, doV l [X] = (y, f) := ⟨_, _, rfl⟩
          rw [hQ] at c4
          simp only at c3 c4
          refine V.call rfl rfl (by simp [dOK]) ⟨16, [], by simp only [go_sem, ↓reduceIte, reduceCtorEq, Bool.false_eq_true, Bool.true_eq_false, Nat.reduceAdd, Nat.reduceLT, Nat.reduceEqDiff, Nat.reduceLeDiff, Nat.reduceSub, Nat.reduceMul], ⟨_, rfl, rfl, rfl⟩, .inl ⟨[.row (l.map Pair.pv), .row ([a, b].map Change.pv)], _, .inl (by simp only [go_sem, ↓reduceIte, reduceCtorEq, Bool.false_eq_true, Bool.true_eq_false, Nat.reduceAdd, Nat.reduceLT, Nat.reduceEqDiff, Nat.reduceLeDiff, Nat.reduceSub, Nat.reduceMul, Change.pv, List.map_cons, List.map_nil]), c3, .inr (.inl ⟨_, rfl, rfl, rfl⟩)⟩⟩ ?_
          refine V.exec 400 ?_
          simp (config := {contextual := true}) only [go_sem, ↓reduceIte, reduceCtorEq, Bool.false_eq_true, Bool.true_eq_false, Nat.reduceAdd, Nat.reduceLT, Nat.reduceEqDiff, Nat.reduceLeDiff, Nat.reduceSub, Nat.reduceMul, Change.pv]
          refine V.call rfl rfl (by simp [dOK]) ⟨16, [], by simp only [go_sem, ↓reduceIte, reduceCtorEq, Bool.false_eq_true, Bool.true_eq_false, Nat.reduceAdd, Nat.reduceLT, Nat.reduceEqDiff, Nat.reduceLeDiff, Nat.reduceSub, Nat.reduceMul], ⟨_, rfl, rfl, rfl⟩, .inl ⟨[.row (l.map Pair.pv), .row ([X].map Change.pv)], _, .inl (by simp only [go_sem, ↓reduceIte, reduceCtorEq, Bool.false_eq_true, Bool.true_eq_false, Nat.reduceAdd, Nat.reduceLT, Nat.reduceEqDiff, Nat.reduceLeDiff, Nat.reduceSub, Nat.reduceMul, Change.pv, List.map_cons, List.map_nil]), c4, .inr (.inl ⟨_, rfl, rfl, rfl⟩)⟩⟩ ?_
          refine V.exec 400 ?_
          simp (config := {contextual := true}) only [go_sem, ↓reduceIte, reduceCtorEq, Bool.false_eq_true, Bool.true_eq_false, Nat.reduceAdd, Nat.reduceLT, Nat.reduceEqDiff, Nat.reduceLeDiff, Nat.reduceSub, Nat.reduceMul, z1, decide_false, decide_true, not_true_eq_false, xs, xk, jx.2.2.1]
          refine ⟨fun hf => ?_, fun hf => ?_⟩
          · refine V.call rfl rfl (by simp [dOK]) ⟨11, [], by simp only [go_sem, ↓reduceIte, reduceCtorEq, Bool.false_eq_true, Bool.true_eq_false, Nat.reduceAdd, Nat.reduceLT, Nat.reduceEqDiff, Nat.reduceLeDiff, Nat.reduceSub, Nat.reduceMul], ⟨_, rfl, rfl, rfl⟩, .inl ⟨[], _, .inl (by simp only [go_sem, ↓reduceIte, reduceCtorEq, Bool.false_eq_true, Bool.true_eq_false, Nat.reduceAdd, Nat.reduceLT, Nat.reduceEqDiff, Nat.reduceLeDiff, Nat.reduceSub, Nat.reduceMul]), aw, .inl ⟨_, rfl, rfl, rfl, rfl⟩⟩⟩ ?_
            refine V.exec 400 ?_
            simp (config := {contextual := true}) only [go_sem, ↓reduceIte, reduceCtorEq, Bool.false_eq_true, Bool.true_eq_false, Nat.reduceAdd, Nat.reduceLT, Nat.reduceEqDiff, Nat.reduceLeDiff, Nat.reduceSub, Nat.reduceMul]
          · have hY2 : Y = joinC b c := by
              rcases hf0 with ⟨e1, _⟩ | ⟨e1, _⟩ | ⟨e1, _⟩
              · rw [hY] at e1; exact congrArg Prod.fst e1
              · rw [hY] at e1; exact absurd (congrArg Prod.snd e1) (by simp only; rw [hf]; decide)
              · rw [hY] at e1; exact absurd (congrArg Prod.snd e1) (by simp only; rw [hf]; decide)
            have hj := has hx (by rw [hY, hf, ← hY2])
            rw [← hY2] at hj
            have c5 := change_Join X c
            have c6 := change_Join a Y
            rw [hj] at c5
            generalize joinV a Y = M at *
            refine V.call rfl rfl (by simp [dOK]) ⟨14, [], by simp only [go_sem, ↓reduceIte, reduceCtorEq, Bool.false_eq_true, Bool.true_eq_false, Nat.reduceAdd, Nat.reduceLT, Nat.reduceEqDiff, Nat.reduceLeDiff, Nat.reduceSub, Nat.reduceMul], ⟨_, rfl, rfl, rfl⟩, .inl ⟨[X.pv, c.pv], _, .inl (by simp only [go_sem, ↓reduceIte, reduceCtorEq, Bool.false_eq_true, Bool.true_eq_false, Nat.reduceAdd, Nat.reduceLT, Nat.reduceEqDiff, Nat.reduceLeDiff, Nat.reduceSub, Nat.reduceMul, Change.pv, xs, xk]), c5, .inr (.inl ⟨_, rfl, rfl, rfl⟩)⟩⟩ ?_
            refine V.exec 400 ?_
            simp (config := {contextual := true}) only [go_sem, ↓reduceIte, reduceCtorEq, Bool.false_eq_true, Bool.true_eq_false, Nat.reduceAdd, Nat.reduceLT, Nat.reduceEqDiff, Nat.reduceLeDiff, Nat.reduceSub, Nat.reduceMul, Change.pv]
            refine V.call rfl rfl (by simp [dOK]) ⟨14, [], by simp only [go_sem, ↓reduceIte, reduceCtorEq, Bool.false_eq_true, Bool.true_eq_false, Nat.reduceAdd, Nat.reduceLT, Nat.reduceEqDiff, Nat.reduceLeDiff, Nat.reduceSub, Nat.reduceMul], ⟨_, rfl, rfl, rfl⟩, .inl ⟨[a.pv, Y.pv], _, .inl (by simp only [go_sem, ↓reduceIte, reduceCtorEq, Bool.false_eq_true, Bool.true_eq_false, Nat.reduceAdd, Nat.reduceLT, Nat.reduceEqDiff, Nat.reduceLeDiff, Nat.reduceSub, Nat.reduceMul, Change.pv, jx.2.2.1]), c6, .inr (.inl ⟨_, rfl, rfl, rfl⟩)⟩⟩ ?_
            refine V.exec 400 ?_
            simp (config := {contextual := true}) only [go_sem, ↓reduceIte, reduceCtorEq, Bool.false_eq_true, Bool.true_eq_false, Nat.reduceAdd, Nat.reduceLT, Nat.reduceEqDiff, Nat.reduceLeDiff, Nat.reduceSub, Nat.reduceMul, Change.pv, eqChange, decide_true]
            refine V.call rfl rfl (by simp [dOK]) ⟨11, [], by simp only [go_sem, ↓reduceIte, reduceCtorEq, Bool.false_eq_true, Bool.true_eq_false, Nat.reduceAdd, Nat.reduceLT, Nat.reduceEqDiff, Nat.reduceLeDiff, Nat.reduceSub, Nat.reduceMul], ⟨_, rfl, rfl, rfl⟩, .inl ⟨[], _, .inl (by simp only [go_sem, ↓reduceIte, reduceCtorEq, Bool.false_eq_true, Bool.true_eq_false, Nat.reduceAdd, Nat.reduceLT, Nat.reduceEqDiff, Nat.reduceLeDiff, Nat.reduceSub, Nat.reduceMul]), aw, .inl ⟨_, rfl, rfl, rfl, rfl⟩⟩⟩ ?_
            refine V.exec 400 ?_
            simp (config := {contextual := true}) only [go_sem, ↓reduceIte, reduceCtorEq, Bool.false_eq_true, Bool.true_eq_false, Nat.reduceAdd, Nat.reduceLT, Nat.reduceEqDiff, Nat.reduceLeDiff, Nat.reduceSub, Nat.reduceMul]
      · obtain ⟨X, e, hX, he⟩ : ∃ X e, joinV a b = (X, e) ∧ ¬ e = 0 := by
          rcases hx with ⟨hx, _⟩ | ⟨hx, _⟩
          · exact ⟨_, _, hx, z3⟩
          · exact ⟨_, _, hx, z1⟩
        rw [hX] at c1
        simp only at c1
        generalize joinV b c = M at *
        refine V.call rfl rfl (by simp [dOK]) ⟨14, [], by simp only [go_sem, ↓reduceIte, reduceCtorEq, Bool.false_eq_true, Bool.true_eq_false, Nat.reduceAdd, Nat.reduceLT, Nat.reduceEqDiff, Nat.reduceLeDiff, Nat.reduceSub, Nat.reduceMul], ⟨_, rfl, rfl, rfl⟩, .inl ⟨[a.pv, b.pv], _, .inl (by simp only [go_sem, ↓reduceIte, reduceCtorEq, Bool.false_eq_true, Bool.true_eq_false, Nat.reduceAdd, Nat.reduceLT, Nat.reduceEqDiff, Nat.reduceLeDiff, Nat.reduceSub, Nat.reduceMul, Change.pv]), c1, .inr (.inl ⟨_, rfl, rfl, rfl⟩)⟩⟩ ?_
        refine V.exec 400 ?_
        simp (config := {contextual := true}) only [go_sem, ↓reduceIte, reduceCtorEq, Bool.false_eq_true, Bool.true_eq_false, Nat.reduceAdd, Nat.reduceLT, Nat.reduceEqDiff, Nat.reduceLeDiff, Nat.reduceSub, Nat.reduceMul, Change.pv]
        refine V.call rfl rfl (by simp [dOK]) ⟨14, [], by simp only [go_sem, ↓reduceIte, reduceCtorEq, Bool.false_eq_true, Bool.true_eq_false, Nat.reduceAdd, Nat.reduceLT, Nat.reduceEqDiff, Nat.reduceLeDiff, Nat.reduceSub, Nat.reduceMul], ⟨_, rfl, rfl, rfl⟩, .inl ⟨[b.pv, c.pv], _, .inl (by simp only [go_sem, ↓reduceIte, reduceCtorEq, Bool.false_eq_true, Bool.true_eq_false, Nat.reduceAdd, Nat.reduceLT, Nat.reduceEqDiff, Nat.reduceLeDiff, Nat.reduceSub, Nat.reduceMul, Change.pv]), c2, .inr (.inl ⟨_, rfl, rfl, rfl⟩)⟩⟩ ?_
        refine V.exec 400 ?_
        simp (config := {contextual := true}) only [go_sem, ↓reduceIte, reduceCtorEq, Bool.false_eq_true, Bool.true_eq_false, Nat.reduceAdd, Nat.reduceLT, Nat.reduceEqDiff, Nat.reduceLeDiff, Nat.reduceSub, Nat.reduceMul, Change.pv, he, decide_false]
        refine V.call rfl rfl (by simp [dOK]) ⟨11, [], by simp only [go_sem, ↓reduceIte, reduceCtorEq, Bool.false_eq_true, Bool.true_eq_false, Nat.reduceAdd, Nat.reduceLT, Nat.reduceEqDiff, Nat.reduceLeDiff, Nat.reduceSub, Nat.reduceMul], ⟨_, rfl, rfl, rfl⟩, .inl ⟨[], _, .inl (by simp only [go_sem, ↓reduceIte, reduceCtorEq, Bool.false_eq_true, Bool.true_eq_false, Nat.reduceAdd, Nat.reduceLT, Nat.reduceEqDiff, Nat.reduceLeDiff, Nat.reduceSub, Nat.reduceMul]), aw, .inl ⟨_, rfl, rfl, rfl, rfl⟩⟩⟩ ?_
        refine V.exec 400 ?_
        simp (config := {contextual := true}) only [go_sem, ↓reduceIte, reduceCtorEq, Bool.false_eq_true, Bool.true_eq_false, Nat.reduceAdd, Nat.reduceLT, Nat.reduceEqDiff, Nat.reduceLeDiff, Nat.reduceSub, Nat.reduceMul]
    · simp (config := {contextual := true}) only [go_sem, ↓reduceIte, reduceCtorEq, Bool.false_eq_true, Bool.true_eq_false, Nat.reduceAdd, Nat.reduceLT, Nat.reduceEqDiff, Nat.reduceLeDiff, Nat.reduceSub, Nat.reduceMul, h2, Change.pv]
      refine V.call rfl rfl (by simp [dOK]) ⟨11, [], by simp only [go_sem, ↓reduceIte, reduceCtorEq, Bool.false_eq_true, Bool.true_eq_false, Nat.reduceAdd, Nat.reduceLT, Nat.reduceEqDiff, Nat.reduceLeDiff, Nat.reduceSub, Nat.reduceMul], ⟨_, rfl, rfl, rfl⟩, .inl ⟨[], _, .inl (by simp only [go_sem, ↓reduceIte, reduceCtorEq, Bool.false_eq_true, Bool.true_eq_false, Nat.reduceAdd, Nat.reduceLT, Nat.reduceEqDiff, Nat.reduceLeDiff, Nat.reduceSub, Nat.reduceMul]), aw, .inl ⟨_, rfl, rfl, rfl, rfl⟩⟩⟩ ?_
      refine V.exec 400 ?_
      simp (config := {contextual := true}) only [go_sem, ↓reduceIte, reduceCtorEq, Bool.false_eq_true, Bool.true_eq_false, Nat.reduceAdd, Nat.reduceLT, Nat.reduceEqDiff, Nat.reduceLeDiff, Nat.reduceSub, Nat.reduceMul]
  · simp (config := {contextual := true}) only [go_sem, ↓reduceIte, reduceCtorEq, Bool.false_eq_true, Bool.true_eq_false, Nat.reduceAdd, Nat.reduceLT, Nat.reduceEqDiff, Nat.reduceLeDiff, Nat.reduceSub, Nat.reduceMul, h1, Change.pv]
    refine V.call rfl rfl (by simp [dOK]) ⟨11, [], by simp only [go_sem, ↓reduceIte, reduceCtorEq, Bool.false_eq_true, Bool.true_eq_false, Nat.reduceAdd, Nat.reduceLT, Nat.reduceEqDiff, Nat.reduceLeDiff, Nat.reduceSub, Nat.reduceMul], ⟨_, rfl, rfl, rfl⟩, .inl ⟨[], _, .inl (by simp only [go_sem, ↓reduceIte, reduceCtorEq, Bool.false_eq_true, Bool.true_eq_false, Nat.reduceAdd, Nat.reduceLT, Nat.reduceEqDiff, Nat.reduceLeDiff, Nat.reduceSub, Nat.reduceMul]), aw, .inl ⟨_, rfl, rfl, rfl, rfl⟩⟩⟩ ?_
    refine V.exec 400 ?_
    simp (config := {contextual := true}) only [go_sem, ↓reduceIte, reduceCtorEq, Bool.false_eq_true, Bool.true_eq_false, Nat.reduceAdd, Nat.reduceLT, Nat.reduceEqDiff, Nat.reduceLeDiff, Nat.reduceSub, Nat.reduceMul]
theorem ctJoinsC (xs0 : List PV) (l0 : xs0.length ≤ maxLen) (h0 : ∀ x ∈ xs0, ∃ qs, x = .agg qs ∧ qs.map PV.kd = [.str, .str] ∧ ∀ q ∈ qs, q.wfv)
    (xs1 : List PV) (h1 : xs1.map PV.kd = [.int .i64, .str, .bool, .str, .bool, .str]) (w1 : ∀ q ∈ xs1, q.wfv) (xs2 : List PV) (h2 : xs2.map PV.kd = [.int .i64, .str, .bool, .str, .bool, .str]) (w2 : ∀ q ∈ xs2, q.wfv)
    (xs3 : List PV) (h3 : xs3.map PV.kd = [.int .i64, .str, .bool, .str, .bool, .str]) (w3 : ∀ q ∈ xs3, q.wfv) :
    Ct Try.prog 7 (YtmdjkbhbpddjnaaVm.ops [.row xs0, .agg xs1, .agg xs2, .agg xs3]) (.vals [.bool true]) := by
  obtain ⟨l, rfl⟩ := pair_of xs0 h0
  obtain ⟨a, ha⟩ := change_one xs1 h1
  obtain ⟨b, hb⟩ := change_one xs2 h2
  obtain ⟨c, hc⟩ := change_one xs3 h3
  rw [ha, hb, hc]
  exact law_JoinsC l a b c (by simpa using l0)
end Go.Proofs.Ytmdjkbhbpddjnaa
