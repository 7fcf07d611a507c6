/- A part of a proof: functions of the program, walked. -/
import Derived.Test.YtglpemnejngkaaaL17Q4
import Derived.Test.YtglpemnejngkaaaL17R3b
set_option linter.unusedVariables false
set_option linter.unusedSimpArgs false
namespace Go.Proofs.Ytglpemnejngkaaa
open Go Go.Proofs Go.Proofs.YtglpemnejngkaaaVm Go.Proofs.Ytglpemnejngkaaa.Ty

theorem refFindP_neg {l : List Pair} {k : List UInt8} (h : getL l k = none) : refFindP l k = -1 := by
  unfold refFindP
  have : l.findIdx? (fun s => decide (s.key = k)) = none := by
    rw [List.findIdx?_eq_none_iff]
    intro x hx
    unfold getL at h
    rw [List.find?_eq_none] at h
    simpa using h x hx
  rw [this]
theorem refFindP_some {l : List Pair} (hs : Sorted l) {k : List UInt8} {p : Pair} (h : getL l k = some p) : ∃ i : Nat, refFindP l k = (i : Int) ∧ l[i]? = some p ∧ i < l.length := by
  have hm := getL_mem h
  unfold refFindP
  cases hf : l.findIdx? (fun s => decide (s.key = k)) with
  | none =>
    rw [List.findIdx?_eq_none_iff] at hf
    have := hf p hm.1
    simp [hm.2] at this
  | some i =>
    rw [List.findIdx?_eq_some_iff_getElem] at hf
    obtain ⟨hi, hk, _⟩ := hf
    refine ⟨i, rfl, ?_, hi⟩
    have hk' : l[i].key = k := by simpa using hk
    have := getL_of_mem hs (List.getElem_mem hi)
    rw [hk', h] at this
    rw [List.getElem?_eq_getElem hi, this]

set_option maxRecDepth 4000 in
set_option maxHeartbeats 8000000 in
theorem ref15_Of (l : List Pair) (seq : Int) (n : Note) (hl : l.length ≤ 1000000) : Ct Try.prog 30 (YtglpemnejngkaaaVm.ops [.row (l.map Pair.pv), .int .i64 seq, n.pv]) (.vals [(ofV l seq n).1.pv, .int .i64 (ofV l seq n).2]) := by
  have hbad : ¬ (pairsOk l ∧ n.ok ∧ 1 ≤ seq ∧ seq ≤ 2147483647) → ofV l seq n = (Change.zero, 1) := fun h => by unfold ofV; rw [if_neg h]
  refine Ct.of_V Try.func30 rfl (by simp [YtglpemnejngkaaaVm.ops, Try.f30]) ?_
  refine V.exec 400 ?_
  simp (config := {contextual := true}) only [go_sem, ↓reduceIte, reduceCtorEq, Bool.false_eq_true, Bool.true_eq_false, Nat.reduceAdd, Nat.reduceLT, Nat.reduceEqDiff, Nat.reduceLeDiff, Nat.reduceSub, Nat.reduceMul, Try.f30, Note.pv]
  refine DV.call [] [] (by simp only [go_sem, ↓reduceIte, reduceCtorEq, Bool.false_eq_true, Bool.true_eq_false, Nat.reduceAdd, Nat.reduceLT, Nat.reduceEqDiff, Nat.reduceLeDiff, Nat.reduceSub, Nat.reduceMul]) (by simp [dOK]) ⟨29, [], by simp only [go_sem, ↓reduceIte, reduceCtorEq, Bool.false_eq_true, Bool.true_eq_false, Nat.reduceAdd, Nat.reduceLT, Nat.reduceEqDiff, Nat.reduceLeDiff, Nat.reduceSub, Nat.reduceMul], ⟨_, rfl, rfl, rfl⟩, .inl ⟨[.row (l.map Pair.pv)], _, .inl (by simp only [go_sem, ↓reduceIte, reduceCtorEq, Bool.false_eq_true, Bool.true_eq_false, Nat.reduceAdd, Nat.reduceLT, Nat.reduceEqDiff, Nat.reduceLeDiff, Nat.reduceSub, Nat.reduceMul]), ref10_Right l hl, .inl ⟨_, rfl, rfl, rfl, rfl⟩⟩⟩ (by simp only [go_sem, ↓reduceIte, reduceCtorEq, Bool.false_eq_true, Bool.true_eq_false, Nat.reduceAdd, Nat.reduceLT, Nat.reduceEqDiff, Nat.reduceLeDiff, Nat.reduceSub, Nat.reduceMul]) (by simp only [go_sem, ↓reduceIte, reduceCtorEq, Bool.false_eq_true, Bool.true_eq_false, Nat.reduceAdd, Nat.reduceLT, Nat.reduceEqDiff, Nat.reduceLeDiff, Nat.reduceSub, Nat.reduceMul]) (by simp only [go_sem, ↓reduceIte, reduceCtorEq, Bool.false_eq_true, Bool.true_eq_false, Nat.reduceAdd, Nat.reduceLT, Nat.reduceEqDiff, Nat.reduceLeDiff, Nat.reduceSub, Nat.reduceMul]) (by simp) ?_
  refine DV.exec 400 ?_
  simp (config := {contextual := true}) only [go_sem, ↓reduceIte, reduceCtorEq, Bool.false_eq_true, Bool.true_eq_false, Nat.reduceAdd, Nat.reduceLT, Nat.reduceEqDiff, Nat.reduceLeDiff, Nat.reduceSub, Nat.reduceMul, Note.pv]
  refine DV.call [] [] (by simp only [go_sem, ↓reduceIte, reduceCtorEq, Bool.false_eq_true, Bool.true_eq_false, Nat.reduceAdd, Nat.reduceLT, Nat.reduceEqDiff, Nat.reduceLeDiff, Nat.reduceSub, Nat.reduceMul, Note.pv]) (by simp [dOK]) ⟨35, [], by simp only [go_sem, ↓reduceIte, reduceCtorEq, Bool.false_eq_true, Bool.true_eq_false, Nat.reduceAdd, Nat.reduceLT, Nat.reduceEqDiff, Nat.reduceLeDiff, Nat.reduceSub, Nat.reduceMul, Note.pv], ⟨_, rfl, rfl, rfl⟩, .inl ⟨[n.pv], _, .inl (by simp only [go_sem, ↓reduceIte, reduceCtorEq, Bool.false_eq_true, Bool.true_eq_false, Nat.reduceAdd, Nat.reduceLT, Nat.reduceEqDiff, Nat.reduceLeDiff, Nat.reduceSub, Nat.reduceMul, Note.pv]), ref09_Right n, .inl ⟨_, rfl, rfl, rfl, rfl⟩⟩⟩ (by simp only [go_sem, ↓reduceIte, reduceCtorEq, Bool.false_eq_true, Bool.true_eq_false, Nat.reduceAdd, Nat.reduceLT, Nat.reduceEqDiff, Nat.reduceLeDiff, Nat.reduceSub, Nat.reduceMul, Note.pv]) (by simp only [go_sem, ↓reduceIte, reduceCtorEq, Bool.false_eq_true, Bool.true_eq_false, Nat.reduceAdd, Nat.reduceLT, Nat.reduceEqDiff, Nat.reduceLeDiff, Nat.reduceSub, Nat.reduceMul, Note.pv]) (by simp only [go_sem, ↓reduceIte, reduceCtorEq, Bool.false_eq_true, Bool.true_eq_false, Nat.reduceAdd, Nat.reduceLT, Nat.reduceEqDiff, Nat.reduceLeDiff, Nat.reduceSub, Nat.reduceMul, Note.pv]) (by simp) ?_
  refine DV.exec 400 ?_
  by_cases hok : pairsOk l
  · by_cases hn : n.ok
    · by_cases h1 : seq < 1
      · have hv := hbad fun h => by omega
        simp (config := {contextual := true}) only [go_sem, ↓reduceIte, reduceCtorEq, Bool.false_eq_true, Bool.true_eq_false, Nat.reduceAdd, Nat.reduceLT, Nat.reduceEqDiff, Nat.reduceLeDiff, Nat.reduceSub, Nat.reduceMul, hok, hn, h1, hv, Change.zero, Change.pv, decide_false, decide_true]
        kernel_rfl
      · by_cases h2 : 2147483647 < seq
        · have hv := hbad fun h => by omega
          simp (config := {contextual := true}) only [go_sem, ↓reduceIte, reduceCtorEq, Bool.false_eq_true, Bool.true_eq_false, Nat.reduceAdd, Nat.reduceLT, Nat.reduceEqDiff, Nat.reduceLeDiff, Nat.reduceSub, Nat.reduceMul, hok, hn, h1, h2, hv, Change.zero, Change.pv, decide_false, decide_true]
          kernel_rfl
        · have hs := ((pairsOk_iff l).1 hok).1
          have hv : ofV l seq n = madeV seq n.key (getV l n.key) (doneV (getV l n.key).1 (getV l n.key).2 [n]) := by
            unfold ofV madeV; rw [if_pos ⟨hok, hn, by omega, by omega⟩]
          simp (config := {contextual := true}) only [go_sem, ↓reduceIte, reduceCtorEq, Bool.false_eq_true, Bool.true_eq_false, Nat.reduceAdd, Nat.reduceLT, Nat.reduceEqDiff, Nat.reduceLeDiff, Nat.reduceSub, Nat.reduceMul, hok, hn, h1, h2, decide_true]
          refine ⟨by kernel_rfl, ?_⟩
          cases hg : getL l n.key with
          | none =>
            have hgv : getV l n.key = ([], false) := by unfold getV; rw [if_pos hok, hg]
            have cf := ref10_Find l n.key hl
            rw [refFindP_neg hg] at cf
            have cd := ref09_Done [] false [n] (by simp)
            rw [hgv] at hv
            simp only at hv
            obtain ⟨dv, dh, hD⟩ : ∃ a b, doneV [] false [n] = (a, b) := ⟨_, _, rfl⟩
            rw [hD] at cd hv
            simp only at cd hv
            have hm1 : ¬ (0 : Int) ≤ -1 := by decide
            refine V.call rfl rfl (by simp [dOK]) ⟨47, [], by simp only [go_sem, ↓reduceIte, reduceCtorEq, Bool.false_eq_true, Bool.true_eq_false, Nat.reduceAdd, Nat.reduceLT, Nat.reduceEqDiff, Nat.reduceLeDiff, Nat.reduceSub, Nat.reduceMul], ⟨_, rfl, rfl, rfl⟩, .inl ⟨[.row (l.map Pair.pv), .str n.key], _, .inl (by simp only [go_sem, ↓reduceIte, reduceCtorEq, Bool.false_eq_true, Bool.true_eq_false, Nat.reduceAdd, Nat.reduceLT, Nat.reduceEqDiff, Nat.reduceLeDiff, Nat.reduceSub, Nat.reduceMul]), cf, .inl ⟨_, rfl, rfl, rfl, rfl⟩⟩⟩ ?_
            refine V.exec 400 ?_
            simp (config := {contextual := true}) only [go_sem, ↓reduceIte, reduceCtorEq, Bool.false_eq_true, Bool.true_eq_false, Nat.reduceAdd, Nat.reduceLT, Nat.reduceEqDiff, Nat.reduceLeDiff, Nat.reduceSub, Nat.reduceMul, hm1, Note.pv]
            refine V.call rfl rfl (by simp [dOK]) ⟨48, [], by simp only [go_sem, ↓reduceIte, reduceCtorEq, Bool.false_eq_true, Bool.true_eq_false, Nat.reduceAdd, Nat.reduceLT, Nat.reduceEqDiff, Nat.reduceLeDiff, Nat.reduceSub, Nat.reduceMul], ⟨_, rfl, rfl, rfl⟩, .inl ⟨[.str [], .bool (decide (false = true)), .row ([n].map Note.pv)], _, .inl (by simp only [go_sem, ↓reduceIte, reduceCtorEq, Bool.false_eq_true, Bool.true_eq_false, Nat.reduceAdd, Nat.reduceLT, Nat.reduceEqDiff, Nat.reduceLeDiff, Nat.reduceSub, Nat.reduceMul, Note.pv, List.map_cons, List.map_nil, decide_false]), cd, .inr (.inl ⟨_, rfl, rfl, rfl⟩)⟩⟩ ?_
            refine V.exec 400 ?_
            cases dh with
            | true =>
              have e : madeV seq n.key ([], false) (dv, true) = (⟨seq, n.key, false, [], true, dv⟩, 0) := rfl
              rw [hv, e]
              simp (config := {contextual := true}) only [go_sem, ↓reduceIte, reduceCtorEq, Bool.false_eq_true, Bool.true_eq_false, Nat.reduceAdd, Nat.reduceLT, Nat.reduceEqDiff, Nat.reduceLeDiff, Nat.reduceSub, Nat.reduceMul, decide_true, decide_false, Change.pv]
            | false =>
              have e : madeV seq n.key ([], false) (dv, false) = (Change.zero, 3) := rfl
              rw [hv, e]
              simp (config := {contextual := true}) only [go_sem, ↓reduceIte, reduceCtorEq, Bool.false_eq_true, Bool.true_eq_false, Nat.reduceAdd, Nat.reduceLT, Nat.reduceEqDiff, Nat.reduceLeDiff, Nat.reduceSub, Nat.reduceMul, decide_true, decide_false, Change.pv, Change.zero]
          | some p =>
            have hgv : getV l n.key = (p.value, true) := by unfold getV; rw [if_pos hok, hg]
            obtain ⟨i, hfi, hpi, hil⟩ := refFindP_some hs hg
            have cf := ref10_Find l n.key hl
            rw [hfi] at cf
            have cd := ref09_Done p.value true [n] (by simp)
            rw [hgv] at hv
            simp only at hv
            obtain ⟨dv, dh, hD⟩ : ∃ a b, doneV p.value true [n] = (a, b) := ⟨_, _, rfl⟩
            rw [hD] at cd hv
            simp only at cd hv
            have hil' : (i : Int) < (l.length : Int) := by omega
            refine V.call rfl rfl (by simp [dOK]) ⟨47, [], by simp only [go_sem, ↓reduceIte, reduceCtorEq, Bool.false_eq_true, Bool.true_eq_false, Nat.reduceAdd, Nat.reduceLT, Nat.reduceEqDiff, Nat.reduceLeDiff, Nat.reduceSub, Nat.reduceMul], ⟨_, rfl, rfl, rfl⟩, .inl ⟨[.row (l.map Pair.pv), .str n.key], _, .inl (by simp only [go_sem, ↓reduceIte, reduceCtorEq, Bool.false_eq_true, Bool.true_eq_false, Nat.reduceAdd, Nat.reduceLT, Nat.reduceEqDiff, Nat.reduceLeDiff, Nat.reduceSub, Nat.reduceMul]), cf, .inl ⟨_, rfl, rfl, rfl, rfl⟩⟩⟩ ?_
            refine V.exec 400 ?_
            simp (config := {contextual := true}) only [go_sem, ↓reduceIte, reduceCtorEq, Bool.false_eq_true, Bool.true_eq_false, Nat.reduceAdd, Nat.reduceLT, Nat.reduceEqDiff, Nat.reduceLeDiff, Nat.reduceSub, Nat.reduceMul, hpi, hil', Note.pv, Pair.pv]
            refine V.call rfl rfl (by simp [dOK]) ⟨48, [], by simp only [go_sem, ↓reduceIte, reduceCtorEq, Bool.false_eq_true, Bool.true_eq_false, Nat.reduceAdd, Nat.reduceLT, Nat.reduceEqDiff, Nat.reduceLeDiff, Nat.reduceSub, Nat.reduceMul], ⟨_, rfl, rfl, rfl⟩, .inl ⟨[.str p.value, .bool (decide (true = true)), .row ([n].map Note.pv)], _, .inl (by simp only [go_sem, ↓reduceIte, reduceCtorEq, Bool.false_eq_true, Bool.true_eq_false, Nat.reduceAdd, Nat.reduceLT, Nat.reduceEqDiff, Nat.reduceLeDiff, Nat.reduceSub, Nat.reduceMul, Note.pv, List.map_cons, List.map_nil, decide_true]), cd, .inr (.inl ⟨_, rfl, rfl, rfl⟩)⟩⟩ ?_
            refine V.exec 400 ?_
            have e : madeV seq n.key (p.value, true) (dv, dh) = (⟨seq, n.key, true, p.value, dh, dv⟩, 0) := rfl
            rw [hv, e]
            simp (config := {contextual := true}) only [go_sem, ↓reduceIte, reduceCtorEq, Bool.false_eq_true, Bool.true_eq_false, Nat.reduceAdd, Nat.reduceLT, Nat.reduceEqDiff, Nat.reduceLeDiff, Nat.reduceSub, Nat.reduceMul, decide_true, decide_false, Change.pv]
    · have hv := hbad fun h => hn h.2.1
      simp (config := {contextual := true}) only [go_sem, ↓reduceIte, reduceCtorEq, Bool.false_eq_true, Bool.true_eq_false, Nat.reduceAdd, Nat.reduceLT, Nat.reduceEqDiff, Nat.reduceLeDiff, Nat.reduceSub, Nat.reduceMul, hok, hn, hv, Change.zero, Change.pv, decide_false, decide_true]
      kernel_rfl
  · have hv := hbad fun h => hok h.1
    simp (config := {contextual := true}) only [go_sem, ↓reduceIte, reduceCtorEq, Bool.false_eq_true, Bool.true_eq_false, Nat.reduceAdd, Nat.reduceLT, Nat.reduceEqDiff, Nat.reduceLeDiff, Nat.reduceSub, Nat.reduceMul, hok, hv, Change.zero, Change.pv, decide_false]
    kernel_rfl
end Go.Proofs.Ytglpemnejngkaaa
