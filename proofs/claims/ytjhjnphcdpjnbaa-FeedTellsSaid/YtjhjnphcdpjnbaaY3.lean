/- A part of a proof: functions of the program, walked. -/
import Derived.Test.YtjhjnphcdpjnbaaGI
set_option linter.unusedVariables false
set_option linter.unusedSimpArgs false
set_option maxRecDepth 8000
namespace Go.Proofs.Ytjhjnphcdpjnbaa
open Go Go.Proofs Go.Proofs.YtjhjnphcdpjnbaaVm Go.Proofs.Ytjhjnphcdpjnbaa.Ty

theorem pollV_len (s : Sub) (l : List Pair) (t : List Change) (floor most : Int) : (pollV s l t floor most).1.ps.length ≤ l.length + t.length ∧ (pollV s l t floor most).1.cs.length ≤ t.length := by
  have h1 := leftV_len s l t floor
  have h2 := sinceA_len t s
  unfold pollV
  split
  · split
    · split
      · simp only [List.length_nil, List.length_take]; omega
      · simp only [List.length_nil, List.length_take]; omega
    · simp [Chunk.zero]
  · simp [Chunk.zero]

set_option maxRecDepth 10000 in
set_option maxHeartbeats 16000000 in
theorem law_TellsF (s : Sub) (l : List Pair) (t : List Change) (floor most head : Int) (hl : l.length ≤ maxLen) (ht : t.length ≤ maxLen) :
    Ct Try.prog 3 (YtjhjnphcdpjnbaaVm.ops [s.pv, .row (l.map Pair.pv), .row (t.map Change.pv), .int .i64 floor, .int .i64 most, .int .i64 head]) (.vals [.bool true]) := by
  have aw := law19_awake
  simp only [maxLen] at hl ht
  refine Ct.of_V Try.func3 rfl (by simp [YtjhjnphcdpjnbaaVm.ops, Try.f3]) ?_
  refine V.exec 400 ?_
  simp (config := {contextual := true}) only [go_sem, ↓reduceIte, reduceCtorEq, Bool.false_eq_true, Bool.true_eq_false, Nat.reduceAdd, Nat.reduceLT, Nat.reduceEqDiff, Nat.reduceLeDiff, Nat.reduceSub, Nat.reduceMul, Try.f3, Sub.pv]
  refine V.call rfl rfl (by simp [dOK]) ⟨8, [], by simp only [go_sem, ↓reduceIte, reduceCtorEq, Bool.false_eq_true, Bool.true_eq_false, Nat.reduceAdd, Nat.reduceLT, Nat.reduceEqDiff, Nat.reduceLeDiff, Nat.reduceSub, Nat.reduceMul], ⟨_, rfl, rfl, rfl⟩, .inl ⟨[.row (l.map Pair.pv), .row (t.map Change.pv)], _, .inl (by simp only [go_sem, ↓reduceIte, reduceCtorEq, Bool.false_eq_true, Bool.true_eq_false, Nat.reduceAdd, Nat.reduceLT, Nat.reduceEqDiff, Nat.reduceLeDiff, Nat.reduceSub, Nat.reduceMul]), law19_small l t (by omega) (by omega), .inl ⟨_, rfl, rfl, rfl, rfl⟩⟩⟩ ?_
  refine V.exec 400 ?_
  by_cases h1 : smallPC l t
  · have hl60 := h1.1
    have ht60 := h1.2.1
    by_cases h2 : (300 : Int) < (s.r.lo.length : Int)
    · simp (config := {contextual := true}) only [go_sem, ↓reduceIte, reduceCtorEq, Bool.false_eq_true, Bool.true_eq_false, Nat.reduceAdd, Nat.reduceLT, Nat.reduceEqDiff, Nat.reduceLeDiff, Nat.reduceSub, Nat.reduceMul, h1, h2]
      refine V.call rfl rfl (by simp [dOK]) ⟨9, [], by simp only [go_sem, ↓reduceIte, reduceCtorEq, Bool.false_eq_true, Bool.true_eq_false, Nat.reduceAdd, Nat.reduceLT, Nat.reduceEqDiff, Nat.reduceLeDiff, Nat.reduceSub, Nat.reduceMul], ⟨_, rfl, rfl, rfl⟩, .inl ⟨[], _, .inl (by simp only [go_sem, ↓reduceIte, reduceCtorEq, Bool.false_eq_true, Bool.true_eq_false, Nat.reduceAdd, Nat.reduceLT, Nat.reduceEqDiff, Nat.reduceLeDiff, Nat.reduceSub, Nat.reduceMul]), aw, .inl ⟨_, rfl, rfl, rfl, rfl⟩⟩⟩ ?_
      refine V.exec 400 ?_
      simp (config := {contextual := true}) only [go_sem, ↓reduceIte, reduceCtorEq, Bool.false_eq_true, Bool.true_eq_false, Nat.reduceAdd, Nat.reduceLT, Nat.reduceEqDiff, Nat.reduceLeDiff, Nat.reduceSub, Nat.reduceMul]
    · by_cases h3 : (300 : Int) < (s.r.hi.length : Int)
      · simp (config := {contextual := true}) only [go_sem, ↓reduceIte, reduceCtorEq, Bool.false_eq_true, Bool.true_eq_false, Nat.reduceAdd, Nat.reduceLT, Nat.reduceEqDiff, Nat.reduceLeDiff, Nat.reduceSub, Nat.reduceMul, h1, h2, h3]
        refine V.call rfl rfl (by simp [dOK]) ⟨9, [], by simp only [go_sem, ↓reduceIte, reduceCtorEq, Bool.false_eq_true, Bool.true_eq_false, Nat.reduceAdd, Nat.reduceLT, Nat.reduceEqDiff, Nat.reduceLeDiff, Nat.reduceSub, Nat.reduceMul], ⟨_, rfl, rfl, rfl⟩, .inl ⟨[], _, .inl (by simp only [go_sem, ↓reduceIte, reduceCtorEq, Bool.false_eq_true, Bool.true_eq_false, Nat.reduceAdd, Nat.reduceLT, Nat.reduceEqDiff, Nat.reduceLeDiff, Nat.reduceSub, Nat.reduceMul]), aw, .inl ⟨_, rfl, rfl, rfl, rfl⟩⟩⟩ ?_
        refine V.exec 400 ?_
        simp (config := {contextual := true}) only [go_sem, ↓reduceIte, reduceCtorEq, Bool.false_eq_true, Bool.true_eq_false, Nat.reduceAdd, Nat.reduceLT, Nat.reduceEqDiff, Nat.reduceLeDiff, Nat.reduceSub, Nat.reduceMul]
      · by_cases h4 : (300 : Int) < (s.next.length : Int)
        · simp (config := {contextual := true}) only [go_sem, ↓reduceIte, reduceCtorEq, Bool.false_eq_true, Bool.true_eq_false, Nat.reduceAdd, Nat.reduceLT, Nat.reduceEqDiff, Nat.reduceLeDiff, Nat.reduceSub, Nat.reduceMul, h1, h2, h3, h4]
          refine V.call rfl rfl (by simp [dOK]) ⟨9, [], by simp only [go_sem, ↓reduceIte, reduceCtorEq, Bool.false_eq_true, Bool.true_eq_false, Nat.reduceAdd, Nat.reduceLT, Nat.reduceEqDiff, Nat.reduceLeDiff, Nat.reduceSub, Nat.reduceMul], ⟨_, rfl, rfl, rfl⟩, .inl ⟨[], _, .inl (by simp only [go_sem, ↓reduceIte, reduceCtorEq, Bool.false_eq_true, Bool.true_eq_false, Nat.reduceAdd, Nat.reduceLT, Nat.reduceEqDiff, Nat.reduceLeDiff, Nat.reduceSub, Nat.reduceMul]), aw, .inl ⟨_, rfl, rfl, rfl, rfl⟩⟩⟩ ?_
          refine V.exec 400 ?_
          simp (config := {contextual := true}) only [go_sem, ↓reduceIte, reduceCtorEq, Bool.false_eq_true, Bool.true_eq_false, Nat.reduceAdd, Nat.reduceLT, Nat.reduceEqDiff, Nat.reduceLeDiff, Nat.reduceSub, Nat.reduceMul]
        · have d1 := feed_Poll s l t floor most (by omega) (by omega)
          have d2 := ref19_Poll s l t floor most (by omega) (by omega)
          have d3 := feed_Took s l t floor most (by omega) (by omega)
          have d4 := ref19_Took s l t floor most (by omega) (by omega)
          have d5 := feed_Ack s head most
          have d6 := ref19_Ack s head most
          have hpl := pollV_len s l t floor most
          obtain ⟨c, e, hc⟩ : ∃ u v, pollV s l t floor most = (u, v) := ⟨_, _, rfl⟩
          obtain ⟨u, g, hu⟩ : ∃ u v, tookV s l t floor most = (u, v) := ⟨_, _, rfl⟩
          obtain ⟨w, i, hw⟩ : ∃ u v, ackV s head most = (u, v) := ⟨_, _, rfl⟩
          rw [hc] at d1 d2 hpl
          rw [hu] at d3 d4
          rw [hw] at d5 d6
          simp only at d1 d2 d3 d4 d5 d6 hpl
          simp (config := {contextual := true}) only [go_sem, ↓reduceIte, reduceCtorEq, Bool.false_eq_true, Bool.true_eq_false, Nat.reduceAdd, Nat.reduceLT, Nat.reduceEqDiff, Nat.reduceLeDiff, Nat.reduceSub, Nat.reduceMul, h1, h2, h3, h4]
          refine V.call rfl rfl (by simp [dOK]) ⟨10, [], by simp only [go_sem, ↓reduceIte, reduceCtorEq, Bool.false_eq_true, Bool.true_eq_false, Nat.reduceAdd, Nat.reduceLT, Nat.reduceEqDiff, Nat.reduceLeDiff, Nat.reduceSub, Nat.reduceMul], ⟨_, rfl, rfl, rfl⟩, .inl ⟨[s.pv, .row (l.map Pair.pv), .row (t.map Change.pv), .int .i64 floor, .int .i64 most], _, .inl (by simp only [go_sem, ↓reduceIte, reduceCtorEq, Bool.false_eq_true, Bool.true_eq_false, Nat.reduceAdd, Nat.reduceLT, Nat.reduceEqDiff, Nat.reduceLeDiff, Nat.reduceSub, Nat.reduceMul, Sub.pv]), d1, .inr (.inl ⟨_, rfl, rfl, rfl⟩)⟩⟩ ?_
          refine V.exec 400 ?_
          simp (config := {contextual := true}) only [go_sem, ↓reduceIte, reduceCtorEq, Bool.false_eq_true, Bool.true_eq_false, Nat.reduceAdd, Nat.reduceLT, Nat.reduceEqDiff, Nat.reduceLeDiff, Nat.reduceSub, Nat.reduceMul, Sub.pv, Chunk.pv]
          refine V.call rfl rfl (by simp [dOK]) ⟨11, [], by simp only [go_sem, ↓reduceIte, reduceCtorEq, Bool.false_eq_true, Bool.true_eq_false, Nat.reduceAdd, Nat.reduceLT, Nat.reduceEqDiff, Nat.reduceLeDiff, Nat.reduceSub, Nat.reduceMul], ⟨_, rfl, rfl, rfl⟩, .inl ⟨[s.pv, .row (l.map Pair.pv), .row (t.map Change.pv), .int .i64 floor, .int .i64 most], _, .inl (by simp only [go_sem, ↓reduceIte, reduceCtorEq, Bool.false_eq_true, Bool.true_eq_false, Nat.reduceAdd, Nat.reduceLT, Nat.reduceEqDiff, Nat.reduceLeDiff, Nat.reduceSub, Nat.reduceMul, Sub.pv]), d2, .inr (.inl ⟨_, rfl, rfl, rfl⟩)⟩⟩ ?_
          refine V.exec 400 ?_
          simp (config := {contextual := true}) only [go_sem, ↓reduceIte, reduceCtorEq, Bool.false_eq_true, Bool.true_eq_false, Nat.reduceAdd, Nat.reduceLT, Nat.reduceEqDiff, Nat.reduceLeDiff, Nat.reduceSub, Nat.reduceMul, Sub.pv, Chunk.pv]
          refine V.call rfl rfl (by simp [dOK]) ⟨12, [], by simp only [go_sem, ↓reduceIte, reduceCtorEq, Bool.false_eq_true, Bool.true_eq_false, Nat.reduceAdd, Nat.reduceLT, Nat.reduceEqDiff, Nat.reduceLeDiff, Nat.reduceSub, Nat.reduceMul], ⟨_, rfl, rfl, rfl⟩, .inl ⟨[s.pv, .row (l.map Pair.pv), .row (t.map Change.pv), .int .i64 floor, .int .i64 most], _, .inl (by simp only [go_sem, ↓reduceIte, reduceCtorEq, Bool.false_eq_true, Bool.true_eq_false, Nat.reduceAdd, Nat.reduceLT, Nat.reduceEqDiff, Nat.reduceLeDiff, Nat.reduceSub, Nat.reduceMul, Sub.pv]), d3, .inr (.inl ⟨_, rfl, rfl, rfl⟩)⟩⟩ ?_
          refine V.exec 400 ?_
          simp (config := {contextual := true}) only [go_sem, ↓reduceIte, reduceCtorEq, Bool.false_eq_true, Bool.true_eq_false, Nat.reduceAdd, Nat.reduceLT, Nat.reduceEqDiff, Nat.reduceLeDiff, Nat.reduceSub, Nat.reduceMul, Sub.pv, Chunk.pv]
          refine V.call rfl rfl (by simp [dOK]) ⟨13, [], by simp only [go_sem, ↓reduceIte, reduceCtorEq, Bool.false_eq_true, Bool.true_eq_false, Nat.reduceAdd, Nat.reduceLT, Nat.reduceEqDiff, Nat.reduceLeDiff, Nat.reduceSub, Nat.reduceMul], ⟨_, rfl, rfl, rfl⟩, .inl ⟨[s.pv, .row (l.map Pair.pv), .row (t.map Change.pv), .int .i64 floor, .int .i64 most], _, .inl (by simp only [go_sem, ↓reduceIte, reduceCtorEq, Bool.false_eq_true, Bool.true_eq_false, Nat.reduceAdd, Nat.reduceLT, Nat.reduceEqDiff, Nat.reduceLeDiff, Nat.reduceSub, Nat.reduceMul, Sub.pv]), d4, .inr (.inl ⟨_, rfl, rfl, rfl⟩)⟩⟩ ?_
          refine V.exec 400 ?_
          simp (config := {contextual := true}) only [go_sem, ↓reduceIte, reduceCtorEq, Bool.false_eq_true, Bool.true_eq_false, Nat.reduceAdd, Nat.reduceLT, Nat.reduceEqDiff, Nat.reduceLeDiff, Nat.reduceSub, Nat.reduceMul, Sub.pv, Chunk.pv]
          refine V.call rfl rfl (by simp [dOK]) ⟨14, [], by simp only [go_sem, ↓reduceIte, reduceCtorEq, Bool.false_eq_true, Bool.true_eq_false, Nat.reduceAdd, Nat.reduceLT, Nat.reduceEqDiff, Nat.reduceLeDiff, Nat.reduceSub, Nat.reduceMul], ⟨_, rfl, rfl, rfl⟩, .inl ⟨[s.pv, .int .i64 head, .int .i64 most], _, .inl (by simp only [go_sem, ↓reduceIte, reduceCtorEq, Bool.false_eq_true, Bool.true_eq_false, Nat.reduceAdd, Nat.reduceLT, Nat.reduceEqDiff, Nat.reduceLeDiff, Nat.reduceSub, Nat.reduceMul, Sub.pv]), d5, .inr (.inl ⟨_, rfl, rfl, rfl⟩)⟩⟩ ?_
          refine V.exec 400 ?_
          simp (config := {contextual := true}) only [go_sem, ↓reduceIte, reduceCtorEq, Bool.false_eq_true, Bool.true_eq_false, Nat.reduceAdd, Nat.reduceLT, Nat.reduceEqDiff, Nat.reduceLeDiff, Nat.reduceSub, Nat.reduceMul, Sub.pv, Chunk.pv]
          refine V.call rfl rfl (by simp [dOK]) ⟨15, [], by simp only [go_sem, ↓reduceIte, reduceCtorEq, Bool.false_eq_true, Bool.true_eq_false, Nat.reduceAdd, Nat.reduceLT, Nat.reduceEqDiff, Nat.reduceLeDiff, Nat.reduceSub, Nat.reduceMul], ⟨_, rfl, rfl, rfl⟩, .inl ⟨[s.pv, .int .i64 head, .int .i64 most], _, .inl (by simp only [go_sem, ↓reduceIte, reduceCtorEq, Bool.false_eq_true, Bool.true_eq_false, Nat.reduceAdd, Nat.reduceLT, Nat.reduceEqDiff, Nat.reduceLeDiff, Nat.reduceSub, Nat.reduceMul, Sub.pv]), d6, .inr (.inl ⟨_, rfl, rfl, rfl⟩)⟩⟩ ?_
          refine V.exec 400 ?_
          simp (config := {contextual := true}) only [go_sem, ↓reduceIte, reduceCtorEq, Bool.false_eq_true, Bool.true_eq_false, Nat.reduceAdd, Nat.reduceLT, Nat.reduceEqDiff, Nat.reduceLeDiff, Nat.reduceSub, Nat.reduceMul, Sub.pv, Chunk.pv]
          refine DV.call [] [] (by simp only [go_sem, ↓reduceIte, reduceCtorEq, Bool.false_eq_true, Bool.true_eq_false, Nat.reduceAdd, Nat.reduceLT, Nat.reduceEqDiff, Nat.reduceLeDiff, Nat.reduceSub, Nat.reduceMul, Sub.pv]) (by simp [dOK]) ⟨16, [], by simp only [go_sem, ↓reduceIte, reduceCtorEq, Bool.false_eq_true, Bool.true_eq_false, Nat.reduceAdd, Nat.reduceLT, Nat.reduceEqDiff, Nat.reduceLeDiff, Nat.reduceSub, Nat.reduceMul, Sub.pv], ⟨_, rfl, rfl, rfl⟩, .inl ⟨[s.pv], _, .inl (by simp only [go_sem, ↓reduceIte, reduceCtorEq, Bool.false_eq_true, Bool.true_eq_false, Nat.reduceAdd, Nat.reduceLT, Nat.reduceEqDiff, Nat.reduceLeDiff, Nat.reduceSub, Nat.reduceMul, Sub.pv]), feed_Right s, .inl ⟨_, rfl, rfl, rfl, rfl⟩⟩⟩ (by simp only [go_sem, ↓reduceIte, reduceCtorEq, Bool.false_eq_true, Bool.true_eq_false, Nat.reduceAdd, Nat.reduceLT, Nat.reduceEqDiff, Nat.reduceLeDiff, Nat.reduceSub, Nat.reduceMul, Sub.pv]) (by simp only [go_sem, ↓reduceIte, reduceCtorEq, Bool.false_eq_true, Bool.true_eq_false, Nat.reduceAdd, Nat.reduceLT, Nat.reduceEqDiff, Nat.reduceLeDiff, Nat.reduceSub, Nat.reduceMul, Sub.pv]) (by simp only [go_sem, ↓reduceIte, reduceCtorEq, Bool.false_eq_true, Bool.true_eq_false, Nat.reduceAdd, Nat.reduceLT, Nat.reduceEqDiff, Nat.reduceLeDiff, Nat.reduceSub, Nat.reduceMul, Sub.pv]) (by simp) ?_
          refine DV.exec 400 ?_
          simp (config := {contextual := true}) only [go_sem, ↓reduceIte, reduceCtorEq, Bool.false_eq_true, Bool.true_eq_false, Nat.reduceAdd, Nat.reduceLT, Nat.reduceEqDiff, Nat.reduceLeDiff, Nat.reduceSub, Nat.reduceMul, Sub.pv]
          refine DV.call [] [] (by simp only [go_sem, ↓reduceIte, reduceCtorEq, Bool.false_eq_true, Bool.true_eq_false, Nat.reduceAdd, Nat.reduceLT, Nat.reduceEqDiff, Nat.reduceLeDiff, Nat.reduceSub, Nat.reduceMul, Sub.pv]) (by simp [dOK]) ⟨17, [], by simp only [go_sem, ↓reduceIte, reduceCtorEq, Bool.false_eq_true, Bool.true_eq_false, Nat.reduceAdd, Nat.reduceLT, Nat.reduceEqDiff, Nat.reduceLeDiff, Nat.reduceSub, Nat.reduceMul, Sub.pv], ⟨_, rfl, rfl, rfl⟩, .inl ⟨[s.pv], _, .inl (by simp only [go_sem, ↓reduceIte, reduceCtorEq, Bool.false_eq_true, Bool.true_eq_false, Nat.reduceAdd, Nat.reduceLT, Nat.reduceEqDiff, Nat.reduceLeDiff, Nat.reduceSub, Nat.reduceMul, Sub.pv]), ref19_Right s, .inl ⟨_, rfl, rfl, rfl, rfl⟩⟩⟩ (by simp only [go_sem, ↓reduceIte, reduceCtorEq, Bool.false_eq_true, Bool.true_eq_false, Nat.reduceAdd, Nat.reduceLT, Nat.reduceEqDiff, Nat.reduceLeDiff, Nat.reduceSub, Nat.reduceMul, Sub.pv]) (by simp only [go_sem, ↓reduceIte, reduceCtorEq, Bool.false_eq_true, Bool.true_eq_false, Nat.reduceAdd, Nat.reduceLT, Nat.reduceEqDiff, Nat.reduceLeDiff, Nat.reduceSub, Nat.reduceMul, Sub.pv]) (by simp only [go_sem, ↓reduceIte, reduceCtorEq, Bool.false_eq_true, Bool.true_eq_false, Nat.reduceAdd, Nat.reduceLT, Nat.reduceEqDiff, Nat.reduceLeDiff, Nat.reduceSub, Nat.reduceMul, Sub.pv]) (by simp) ?_
          refine DV.exec 400 ?_
          simp (config := {contextual := true}) only [go_sem, ↓reduceIte, reduceCtorEq, Bool.false_eq_true, Bool.true_eq_false, Nat.reduceAdd, Nat.reduceLT, Nat.reduceEqDiff, Nat.reduceLeDiff, Nat.reduceSub, Nat.reduceMul, Chunk.pv, beq_self_eq_true]
          refine DV.call [] [] (by simp only [go_sem, ↓reduceIte, reduceCtorEq, Bool.false_eq_true, Bool.true_eq_false, Nat.reduceAdd, Nat.reduceLT, Nat.reduceEqDiff, Nat.reduceLeDiff, Nat.reduceSub, Nat.reduceMul, Chunk.pv]) (by simp [dOK]) ⟨19, [], by simp only [go_sem, ↓reduceIte, reduceCtorEq, Bool.false_eq_true, Bool.true_eq_false, Nat.reduceAdd, Nat.reduceLT, Nat.reduceEqDiff, Nat.reduceLeDiff, Nat.reduceSub, Nat.reduceMul, Chunk.pv], ⟨_, rfl, rfl, rfl⟩, .inl ⟨[c.pv], _, .inl (by simp only [go_sem, ↓reduceIte, reduceCtorEq, Bool.false_eq_true, Bool.true_eq_false, Nat.reduceAdd, Nat.reduceLT, Nat.reduceEqDiff, Nat.reduceLeDiff, Nat.reduceSub, Nat.reduceMul, Chunk.pv]), law19_ref c, .inr (.inl ⟨_, rfl, rfl, rfl⟩)⟩⟩ (by simp only [go_sem, ↓reduceIte, reduceCtorEq, Bool.false_eq_true, Bool.true_eq_false, Nat.reduceAdd, Nat.reduceLT, Nat.reduceEqDiff, Nat.reduceLeDiff, Nat.reduceSub, Nat.reduceMul, Chunk.pv]) (by simp only [go_sem, ↓reduceIte, reduceCtorEq, Bool.false_eq_true, Bool.true_eq_false, Nat.reduceAdd, Nat.reduceLT, Nat.reduceEqDiff, Nat.reduceLeDiff, Nat.reduceSub, Nat.reduceMul, Chunk.pv]) (by simp only [go_sem, ↓reduceIte, reduceCtorEq, Bool.false_eq_true, Bool.true_eq_false, Nat.reduceAdd, Nat.reduceLT, Nat.reduceEqDiff, Nat.reduceLeDiff, Nat.reduceSub, Nat.reduceMul, Chunk.pv]) (by simp) ?_
          refine DV.exec 400 ?_
          simp (config := {contextual := true}) only [go_sem, ↓reduceIte, reduceCtorEq, Bool.false_eq_true, Bool.true_eq_false, Nat.reduceAdd, Nat.reduceLT, Nat.reduceEqDiff, Nat.reduceLeDiff, Nat.reduceSub, Nat.reduceMul, Chunk.pv]
          refine DV.call [] [] (by simp only [go_sem, ↓reduceIte, reduceCtorEq, Bool.false_eq_true, Bool.true_eq_false, Nat.reduceAdd, Nat.reduceLT, Nat.reduceEqDiff, Nat.reduceLeDiff, Nat.reduceSub, Nat.reduceMul, Chunk.pv]) (by simp [dOK]) ⟨18, [], by simp only [go_sem, ↓reduceIte, reduceCtorEq, Bool.false_eq_true, Bool.true_eq_false, Nat.reduceAdd, Nat.reduceLT, Nat.reduceEqDiff, Nat.reduceLeDiff, Nat.reduceSub, Nat.reduceMul, Chunk.pv], ⟨_, rfl, rfl, rfl⟩, .inl ⟨[c.pv, c.pv], _, .inl (by simp only [go_sem, ↓reduceIte, reduceCtorEq, Bool.false_eq_true, Bool.true_eq_false, Nat.reduceAdd, Nat.reduceLT, Nat.reduceEqDiff, Nat.reduceLeDiff, Nat.reduceSub, Nat.reduceMul, Chunk.pv]), law19_same c c (by omega) (by omega), .inl ⟨_, rfl, rfl, rfl, rfl⟩⟩⟩ (by simp only [go_sem, ↓reduceIte, reduceCtorEq, Bool.false_eq_true, Bool.true_eq_false, Nat.reduceAdd, Nat.reduceLT, Nat.reduceEqDiff, Nat.reduceLeDiff, Nat.reduceSub, Nat.reduceMul, Chunk.pv]) (by simp only [go_sem, ↓reduceIte, reduceCtorEq, Bool.false_eq_true, Bool.true_eq_false, Nat.reduceAdd, Nat.reduceLT, Nat.reduceEqDiff, Nat.reduceLeDiff, Nat.reduceSub, Nat.reduceMul, Chunk.pv]) (by simp only [go_sem, ↓reduceIte, reduceCtorEq, Bool.false_eq_true, Bool.true_eq_false, Nat.reduceAdd, Nat.reduceLT, Nat.reduceEqDiff, Nat.reduceLeDiff, Nat.reduceSub, Nat.reduceMul, Chunk.pv]) (by simp) ?_
          refine DV.exec 400 ?_
          simp (config := {contextual := true}) only [go_sem, ↓reduceIte, reduceCtorEq, Bool.false_eq_true, Bool.true_eq_false, Nat.reduceAdd, Nat.reduceLT, Nat.reduceEqDiff, Nat.reduceLeDiff, Nat.reduceSub, Nat.reduceMul, Sub.pv, decide_true]
          refine DV.call [] [] (by simp only [go_sem, ↓reduceIte, reduceCtorEq, Bool.false_eq_true, Bool.true_eq_false, Nat.reduceAdd, Nat.reduceLT, Nat.reduceEqDiff, Nat.reduceLeDiff, Nat.reduceSub, Nat.reduceMul]) (by simp [dOK]) ⟨9, [], by simp only [go_sem, ↓reduceIte, reduceCtorEq, Bool.false_eq_true, Bool.true_eq_false, Nat.reduceAdd, Nat.reduceLT, Nat.reduceEqDiff, Nat.reduceLeDiff, Nat.reduceSub, Nat.reduceMul], ⟨_, rfl, rfl, rfl⟩, .inl ⟨[], _, .inl (by simp only [go_sem, ↓reduceIte, reduceCtorEq, Bool.false_eq_true, Bool.true_eq_false, Nat.reduceAdd, Nat.reduceLT, Nat.reduceEqDiff, Nat.reduceLeDiff, Nat.reduceSub, Nat.reduceMul]), aw, .inl ⟨_, rfl, rfl, rfl, rfl⟩⟩⟩ (by simp only [go_sem, ↓reduceIte, reduceCtorEq, Bool.false_eq_true, Bool.true_eq_false, Nat.reduceAdd, Nat.reduceLT, Nat.reduceEqDiff, Nat.reduceLeDiff, Nat.reduceSub, Nat.reduceMul]) (by simp only [go_sem, ↓reduceIte, reduceCtorEq, Bool.false_eq_true, Bool.true_eq_false, Nat.reduceAdd, Nat.reduceLT, Nat.reduceEqDiff, Nat.reduceLeDiff, Nat.reduceSub, Nat.reduceMul]) (by simp only [go_sem, ↓reduceIte, reduceCtorEq, Bool.false_eq_true, Bool.true_eq_false, Nat.reduceAdd, Nat.reduceLT, Nat.reduceEqDiff, Nat.reduceLeDiff, Nat.reduceSub, Nat.reduceMul]) (by simp) ?_
          refine DV.exec 400 ?_
          simp (config := {contextual := true}) only [go_sem, ↓reduceIte, reduceCtorEq, Bool.false_eq_true, Bool.true_eq_false, Nat.reduceAdd, Nat.reduceLT, Nat.reduceEqDiff, Nat.reduceLeDiff, Nat.reduceSub, Nat.reduceMul]
          kernel_rfl
  · simp (config := {contextual := true}) only [go_sem, ↓reduceIte, reduceCtorEq, Bool.false_eq_true, Bool.true_eq_false, Nat.reduceAdd, Nat.reduceLT, Nat.reduceEqDiff, Nat.reduceLeDiff, Nat.reduceSub, Nat.reduceMul, h1]
    refine V.call rfl rfl (by simp [dOK]) ⟨9, [], by simp only [go_sem, ↓reduceIte, reduceCtorEq, Bool.false_eq_true, Bool.true_eq_false, Nat.reduceAdd, Nat.reduceLT, Nat.reduceEqDiff, Nat.reduceLeDiff, Nat.reduceSub, Nat.reduceMul], ⟨_, rfl, rfl, rfl⟩, .inl ⟨[], _, .inl (by simp only [go_sem, ↓reduceIte, reduceCtorEq, Bool.false_eq_true, Bool.true_eq_false, Nat.reduceAdd, Nat.reduceLT, Nat.reduceEqDiff, Nat.reduceLeDiff, Nat.reduceSub, Nat.reduceMul]), aw, .inl ⟨_, rfl, rfl, rfl, rfl⟩⟩⟩ ?_
    refine V.exec 400 ?_
    simp (config := {contextual := true}) only [go_sem, ↓reduceIte, reduceCtorEq, Bool.false_eq_true, Bool.true_eq_false, Nat.reduceAdd, Nat.reduceLT, Nat.reduceEqDiff, Nat.reduceLeDiff, Nat.reduceSub, Nat.reduceMul]
theorem ctTellsF (xs0 : List PV) (h0 : xs0.map PV.kd = [.int .i64, .str, .str, .bool, .bool, .str, .int .i64]) (w0 : ∀ q ∈ xs0, q.wfv)
    (xs1 : List PV) (l1 : xs1.length ≤ maxLen) (h1 : ∀ x ∈ xs1, ∃ qs, x = .agg qs ∧ qs.map PV.kd = [.str, .str] ∧ ∀ q ∈ qs, q.wfv)
    (xs2 : List PV) (l2 : xs2.length ≤ maxLen) (h2 : ∀ x ∈ xs2, ∃ qs, x = .agg qs ∧ qs.map PV.kd = [.int .i64, .str, .bool, .str, .bool, .str] ∧ ∀ q ∈ qs, q.wfv)
    (a3 : Int) (w3 : (Lit.int .i64 a3).wf = true) (a4 : Int) (w4 : (Lit.int .i64 a4).wf = true) (a5 : Int) (w5 : (Lit.int .i64 a5).wf = true) :
    Ct Try.prog 3 (YtjhjnphcdpjnbaaVm.ops [.agg xs0, .row xs1, .row xs2, .int .i64 a3, .int .i64 a4, .int .i64 a5]) (.vals [.bool true]) := by
  obtain ⟨s, hs⟩ := sub_one xs0 h0
  obtain ⟨l, rfl⟩ := pair_of xs1 h1
  obtain ⟨t, rfl⟩ := change_of' xs2 h2
  rw [hs]
  exact law_TellsF s l t a3 a4 a5 (by simpa using l1) (by simpa using l2)
end Go.Proofs.Ytjhjnphcdpjnbaa
