/- A part of a proof: functions of the program, walked. -/
import Derived.Test.YtnofkhghgjdblaaL10M0
set_option linter.unusedVariables false
set_option linter.unusedSimpArgs false
namespace Go.Proofs.Ytnofkhghgjdblaa
open Go Go.Proofs Go.Proofs.YtnofkhghgjdblaaVm Go.Proofs.Ytnofkhghgjdblaa.Ty

theorem twice_law {l : List Pair} (h : pairsOk l) {x : Note} (hk : x.kind = 1 ∨ x.kind = 2) : applyV l [x, x] = applyV l [x] := by
  by_cases hx : x.ok
  · have h1 : notesOk [x] := (notesOk_one x).2 hx
    have h2 : notesOk [x, x] := by simp [notesOk, hx]
    rw [applyV_ok h h1, applyV_ok h h2]
    have hs := ((pairsOk_iff l).1 h).1
    congr 1
    refine val_ext (appV_sorted _ hs) (appV_sorted _ hs) fun k => ?_
    rw [appV_val _ hs, appV_val _ hs]
    simp only [List.foldl_cons, List.foldl_nil]
    split
    · rcases hk with hk | hk
      · rw [stepO_put _ hk, stepO_put _ hk]
      · rw [stepO_del _ hk, stepO_del _ hk]
    · rfl
  · have h1 : ¬ (pairsOk l ∧ notesOk [x]) := fun h => hx ((notesOk_one x).1 h.2)
    have h2 : ¬ (pairsOk l ∧ notesOk [x, x]) := fun h => hx (h.2 x (by simp))
    rw [applyV_bad h1, applyV_bad h2]
theorem back_law {l : List Pair} (h : pairsOk l) {x : Note} (hg : (getV l x.key).2 = false) (he : (applyV l [x]).2 = 0) : applyV (applyV l [x]).1 [⟨2, x.key, [], 0⟩] = (l, 0) := by
  by_cases hx : x.ok
  · have h1 : notesOk [x] := (notesOk_one x).2 hx
    rw [applyV_ok h h1]
    have hs := ((pairsOk_iff l).1 h).1
    have ho : pairsOk (appV l [x]) := appV_ok _ h h1
    have hd : notesOk [(⟨2, x.key, [], 0⟩ : Note)] := (notesOk_one _).2 ⟨hx.1, by simp, .inr (.inl ⟨rfl, rfl, rfl⟩)⟩
    rw [applyV_ok ho hd]
    have hs2 := appV_sorted [x] hs
    congr 1
    refine val_ext (appV_sorted _ hs2) hs fun k => ?_
    rw [appV_val _ hs2, appV_val _ hs]
    simp only [List.foldl_cons, List.foldl_nil]
    by_cases hk : k = x.key
    · subst hk
      rw [if_pos rfl, stepO_del _ rfl]
      rw [getV_val h] at hg
      cases hv : val l x.key with
      | none => rfl
      | some v => rw [hv] at hg; cases hg
    · rw [if_neg hk, if_neg hk]
  · have h1 : ¬ (pairsOk l ∧ notesOk [x]) := fun h => hx ((notesOk_one x).1 h.2)
    rw [applyV_bad h1] at he
    cases he

set_option maxRecDepth 10000 in
set_option maxHeartbeats 16000000 in
theorem law_Twice (l : List Pair) (x : Note) (hl : l.length ≤ maxLen) :
    Ct Try.prog 8 (YtnofkhghgjdblaaVm.ops [.row (l.map Pair.pv), x.pv]) (.vals [.bool true]) := by
  have aw := law10_awake
  refine Ct.of_V Try.func8 rfl (by simp [YtnofkhghgjdblaaVm.ops, Try.f8]) ?_
  refine V.exec 400 ?_
  simp (config := {contextual := true}) only [go_sem, ↓reduceIte, reduceCtorEq, Bool.false_eq_true, Bool.true_eq_false, Nat.reduceAdd, Nat.reduceLT, Nat.reduceEqDiff, Nat.reduceLeDiff, Nat.reduceSub, Nat.reduceMul, Try.f8, Note.pv]
  refine V.call rfl rfl (by simp [dOK]) ⟨9, [], by simp only [go_sem, ↓reduceIte, reduceCtorEq, Bool.false_eq_true, Bool.true_eq_false, Nat.reduceAdd, Nat.reduceLT, Nat.reduceEqDiff, Nat.reduceLeDiff, Nat.reduceSub, Nat.reduceMul], ⟨_, rfl, rfl, rfl⟩, .inl ⟨[.row (l.map Pair.pv)], _, .inl (by simp only [go_sem, ↓reduceIte, reduceCtorEq, Bool.false_eq_true, Bool.true_eq_false, Nat.reduceAdd, Nat.reduceLT, Nat.reduceEqDiff, Nat.reduceLeDiff, Nat.reduceSub, Nat.reduceMul]), law10_small l (by simp only [maxLen] at hl; omega), .inl ⟨_, rfl, rfl, rfl, rfl⟩⟩⟩ ?_
  refine V.exec 400 ?_
  by_cases h1 : smallP l
  · simp (config := {contextual := true}) only [go_sem, ↓reduceIte, reduceCtorEq, Bool.false_eq_true, Bool.true_eq_false, Nat.reduceAdd, Nat.reduceLT, Nat.reduceEqDiff, Nat.reduceLeDiff, Nat.reduceSub, Nat.reduceMul, h1]
    have hl60 := h1.1
    refine V.call rfl rfl (by simp [dOK]) ⟨18, [], by simp only [go_sem, ↓reduceIte, reduceCtorEq, Bool.false_eq_true, Bool.true_eq_false, Nat.reduceAdd, Nat.reduceLT, Nat.reduceEqDiff, Nat.reduceLeDiff, Nat.reduceSub, Nat.reduceMul], ⟨_, rfl, rfl, rfl⟩, .inl ⟨[.row (l.map Pair.pv)], _, .inl (by simp only [go_sem, ↓reduceIte, reduceCtorEq, Bool.false_eq_true, Bool.true_eq_false, Nat.reduceAdd, Nat.reduceLT, Nat.reduceEqDiff, Nat.reduceLeDiff, Nat.reduceSub, Nat.reduceMul]), leaf_Right l (by omega), .inl ⟨_, rfl, rfl, rfl, rfl⟩⟩⟩ ?_
    refine V.exec 400 ?_
    by_cases hok : pairsOk l
    · simp (config := {contextual := true}) only [go_sem, ↓reduceIte, reduceCtorEq, Bool.false_eq_true, Bool.true_eq_false, Nat.reduceAdd, Nat.reduceLT, Nat.reduceEqDiff, Nat.reduceLeDiff, Nat.reduceSub, Nat.reduceMul, hok]
      refine V.call rfl rfl (by simp [dOK]) ⟨10, [], by simp only [go_sem, ↓reduceIte, reduceCtorEq, Bool.false_eq_true, Bool.true_eq_false, Nat.reduceAdd, Nat.reduceLT, Nat.reduceEqDiff, Nat.reduceLeDiff, Nat.reduceSub, Nat.reduceMul], ⟨_, rfl, rfl, rfl⟩, .inl ⟨[.row ([x].map Note.pv)], _, .inl (by simp only [go_sem, ↓reduceIte, reduceCtorEq, Bool.false_eq_true, Bool.true_eq_false, Nat.reduceAdd, Nat.reduceLT, Nat.reduceEqDiff, Nat.reduceLeDiff, Nat.reduceSub, Nat.reduceMul, Note.pv, List.map_cons, List.map_nil]), law10_few [x] (by simp), .inl ⟨_, rfl, rfl, rfl, rfl⟩⟩⟩ ?_
      refine V.exec 400 ?_
      by_cases hf : fewN [x]
      · by_cases hk : x.kind = 1 ∨ x.kind = 2
        · have ht := twice_law hok hk
          have hb := back_law (x := x) hok
          have hal := applyV_len l [x]
          simp only [List.length_cons, List.length_nil] at hal
          have c1 := leaf_Apply l [x] (by omega) (by simp)
          have c2 := leaf_Apply l [x, x] (by omega) (by simp)
          have c3 := leaf_Get l x.key (by omega)
          have c4 := leaf_Apply (applyV l [x]).1 [⟨2, x.key, [], 0⟩] (by omega) (by simp)
          rw [ht] at c2
          obtain ⟨a, e, hA⟩ : ∃ a e, applyV l [x] = (a, e) := ⟨_, _, rfl⟩
          obtain ⟨v, th, hG⟩ : ∃ a e, getV l x.key = (a, e) := ⟨_, _, rfl⟩
          rw [hA] at c1 c2 c4 hal hb
          rw [hG] at c3 hb
          obtain ⟨c, g, hC⟩ : ∃ c g, applyV a [⟨2, x.key, [], 0⟩] = (c, g) := ⟨_, _, rfl⟩
          simp only at c1 c2 c3 c4 hal hb
          rw [hC] at c4 hb
          simp only at c4 hb
          have hkk : (x.kind = 1 → True) := fun _ => trivial
          rcases hk with hk | hk
          · simp (config := {contextual := true}) only [go_sem, ↓reduceIte, reduceCtorEq, Bool.false_eq_true, Bool.true_eq_false, Nat.reduceAdd, Nat.reduceLT, Nat.reduceEqDiff, Nat.reduceLeDiff, Nat.reduceSub, Nat.reduceMul, hf, hk]
            refine V.call rfl rfl (by simp [dOK]) ⟨12, [], by simp only [go_sem, ↓reduceIte, reduceCtorEq, Bool.false_eq_true, Bool.true_eq_false, Nat.reduceAdd, Nat.reduceLT, Nat.reduceEqDiff, Nat.reduceLeDiff, Nat.reduceSub, Nat.reduceMul], ⟨_, rfl, rfl, rfl⟩, .inl ⟨[.row (l.map Pair.pv), .row ([x].map Note.pv)], _, .inl (by simp only [go_sem, ↓reduceIte, reduceCtorEq, Bool.false_eq_true, Bool.true_eq_false, Nat.reduceAdd, Nat.reduceLT, Nat.reduceEqDiff, Nat.reduceLeDiff, Nat.reduceSub, Nat.reduceMul, Note.pv, List.map_cons, List.map_nil, hk]), c1, .inr (.inl ⟨_, rfl, rfl, rfl⟩)⟩⟩ ?_
            refine V.exec 400 ?_
            simp (config := {contextual := true}) only [go_sem, ↓reduceIte, reduceCtorEq, Bool.false_eq_true, Bool.true_eq_false, Nat.reduceAdd, Nat.reduceLT, Nat.reduceEqDiff, Nat.reduceLeDiff, Nat.reduceSub, Nat.reduceMul, hk]
            refine V.call rfl rfl (by simp [dOK]) ⟨12, [], by simp only [go_sem, ↓reduceIte, reduceCtorEq, Bool.false_eq_true, Bool.true_eq_false, Nat.reduceAdd, Nat.reduceLT, Nat.reduceEqDiff, Nat.reduceLeDiff, Nat.reduceSub, Nat.reduceMul], ⟨_, rfl, rfl, rfl⟩, .inl ⟨[.row (l.map Pair.pv), .row ([x, x].map Note.pv)], _, .inl (by simp only [go_sem, ↓reduceIte, reduceCtorEq, Bool.false_eq_true, Bool.true_eq_false, Nat.reduceAdd, Nat.reduceLT, Nat.reduceEqDiff, Nat.reduceLeDiff, Nat.reduceSub, Nat.reduceMul, Note.pv, List.map_cons, List.map_nil, hk]), c2, .inr (.inl ⟨_, rfl, rfl, rfl⟩)⟩⟩ ?_
            refine V.exec 400 ?_
            simp (config := {contextual := true}) only [go_sem, ↓reduceIte, reduceCtorEq, Bool.false_eq_true, Bool.true_eq_false, Nat.reduceAdd, Nat.reduceLT, Nat.reduceEqDiff, Nat.reduceLeDiff, Nat.reduceSub, Nat.reduceMul, hk]
            refine V.call rfl rfl (by simp [dOK]) ⟨19, [], by simp only [go_sem, ↓reduceIte, reduceCtorEq, Bool.false_eq_true, Bool.true_eq_false, Nat.reduceAdd, Nat.reduceLT, Nat.reduceEqDiff, Nat.reduceLeDiff, Nat.reduceSub, Nat.reduceMul], ⟨_, rfl, rfl, rfl⟩, .inl ⟨[.row (a.map Pair.pv), .row (a.map Pair.pv)], _, .inl (by simp only [go_sem, ↓reduceIte, reduceCtorEq, Bool.false_eq_true, Bool.true_eq_false, Nat.reduceAdd, Nat.reduceLT, Nat.reduceEqDiff, Nat.reduceLeDiff, Nat.reduceSub, Nat.reduceMul]), ref03_Same a a (by omega), .inl ⟨_, rfl, rfl, rfl, rfl⟩⟩⟩ ?_
            refine V.exec 400 ?_
            simp (config := {contextual := true}) only [go_sem, ↓reduceIte, reduceCtorEq, Bool.false_eq_true, Bool.true_eq_false, Nat.reduceAdd, Nat.reduceLT, Nat.reduceEqDiff, Nat.reduceLeDiff, Nat.reduceSub, Nat.reduceMul, decide_true]
            refine V.call rfl rfl (by simp [dOK]) ⟨14, [], by simp only [go_sem, ↓reduceIte, reduceCtorEq, Bool.false_eq_true, Bool.true_eq_false, Nat.reduceAdd, Nat.reduceLT, Nat.reduceEqDiff, Nat.reduceLeDiff, Nat.reduceSub, Nat.reduceMul], ⟨_, rfl, rfl, rfl⟩, .inl ⟨[.row (l.map Pair.pv), .str x.key], _, .inl (by simp only [go_sem, ↓reduceIte, reduceCtorEq, Bool.false_eq_true, Bool.true_eq_false, Nat.reduceAdd, Nat.reduceLT, Nat.reduceEqDiff, Nat.reduceLeDiff, Nat.reduceSub, Nat.reduceMul]), c3, .inr (.inl ⟨_, rfl, rfl, rfl⟩)⟩⟩ ?_
            refine V.exec 400 ?_
            simp (config := {contextual := true}) only [go_sem, ↓reduceIte, reduceCtorEq, Bool.false_eq_true, Bool.true_eq_false, Nat.reduceAdd, Nat.reduceLT, Nat.reduceEqDiff, Nat.reduceLeDiff, Nat.reduceSub, Nat.reduceMul, hk]
            refine V.call rfl rfl (by simp [dOK]) ⟨12, [], by simp only [go_sem, ↓reduceIte, reduceCtorEq, Bool.false_eq_true, Bool.true_eq_false, Nat.reduceAdd, Nat.reduceLT, Nat.reduceEqDiff, Nat.reduceLeDiff, Nat.reduceSub, Nat.reduceMul], ⟨_, rfl, rfl, rfl⟩, .inl ⟨[.row (a.map Pair.pv), .row ([(⟨2, x.key, [], 0⟩ : Note)].map Note.pv)], _, .inl (by simp only [go_sem, ↓reduceIte, reduceCtorEq, Bool.false_eq_true, Bool.true_eq_false, Nat.reduceAdd, Nat.reduceLT, Nat.reduceEqDiff, Nat.reduceLeDiff, Nat.reduceSub, Nat.reduceMul, Note.pv, List.map_cons, List.map_nil]), c4, .inr (.inl ⟨_, rfl, rfl, rfl⟩)⟩⟩ ?_
            refine V.exec 400 ?_
            cases th with
            | true =>
              simp (config := {contextual := true}) only [go_sem, ↓reduceIte, reduceCtorEq, Bool.false_eq_true, Bool.true_eq_false, Nat.reduceAdd, Nat.reduceLT, Nat.reduceEqDiff, Nat.reduceLeDiff, Nat.reduceSub, Nat.reduceMul, decide_true]
              refine V.call rfl rfl (by simp [dOK]) ⟨11, [], by simp only [go_sem, ↓reduceIte, reduceCtorEq, Bool.false_eq_true, Bool.true_eq_false, Nat.reduceAdd, Nat.reduceLT, Nat.reduceEqDiff, Nat.reduceLeDiff, Nat.reduceSub, Nat.reduceMul], ⟨_, rfl, rfl, rfl⟩, .inl ⟨[], _, .inl (by simp only [go_sem, ↓reduceIte, reduceCtorEq, Bool.false_eq_true, Bool.true_eq_false, Nat.reduceAdd, Nat.reduceLT, Nat.reduceEqDiff, Nat.reduceLeDiff, Nat.reduceSub, Nat.reduceMul]), aw, .inl ⟨_, rfl, rfl, rfl, rfl⟩⟩⟩ ?_
              refine V.exec 400 ?_
              simp (config := {contextual := true}) only [go_sem, ↓reduceIte, reduceCtorEq, Bool.false_eq_true, Bool.true_eq_false, Nat.reduceAdd, Nat.reduceLT, Nat.reduceEqDiff, Nat.reduceLeDiff, Nat.reduceSub, Nat.reduceMul]
            | false =>
              by_cases he : e = 0
              · have h := hb rfl he
                simp only [Prod.mk.injEq] at h
                obtain ⟨rfl, rfl⟩ := h
                simp (config := {contextual := true}) only [go_sem, ↓reduceIte, reduceCtorEq, Bool.false_eq_true, Bool.true_eq_false, Nat.reduceAdd, Nat.reduceLT, Nat.reduceEqDiff, Nat.reduceLeDiff, Nat.reduceSub, Nat.reduceMul, he, decide_false]
                refine V.call rfl rfl (by simp [dOK]) ⟨19, [], by simp only [go_sem, ↓reduceIte, reduceCtorEq, Bool.false_eq_true, Bool.true_eq_false, Nat.reduceAdd, Nat.reduceLT, Nat.reduceEqDiff, Nat.reduceLeDiff, Nat.reduceSub, Nat.reduceMul], ⟨_, rfl, rfl, rfl⟩, .inl ⟨[.row (c.map Pair.pv), .row (c.map Pair.pv)], _, .inl (by simp only [go_sem, ↓reduceIte, reduceCtorEq, Bool.false_eq_true, Bool.true_eq_false, Nat.reduceAdd, Nat.reduceLT, Nat.reduceEqDiff, Nat.reduceLeDiff, Nat.reduceSub, Nat.reduceMul]), ref03_Same c c (by omega), .inl ⟨_, rfl, rfl, rfl, rfl⟩⟩⟩ ?_
                refine V.exec 400 ?_
                simp (config := {contextual := true}) only [go_sem, ↓reduceIte, reduceCtorEq, Bool.false_eq_true, Bool.true_eq_false, Nat.reduceAdd, Nat.reduceLT, Nat.reduceEqDiff, Nat.reduceLeDiff, Nat.reduceSub, Nat.reduceMul, decide_true]
                refine V.call rfl rfl (by simp [dOK]) ⟨11, [], by simp only [go_sem, ↓reduceIte, reduceCtorEq, Bool.false_eq_true, Bool.true_eq_false, Nat.reduceAdd, Nat.reduceLT, Nat.reduceEqDiff, Nat.reduceLeDiff, Nat.reduceSub, Nat.reduceMul], ⟨_, rfl, rfl, rfl⟩, .inl ⟨[], _, .inl (by simp only [go_sem, ↓reduceIte, reduceCtorEq, Bool.false_eq_true, Bool.true_eq_false, Nat.reduceAdd, Nat.reduceLT, Nat.reduceEqDiff, Nat.reduceLeDiff, Nat.reduceSub, Nat.reduceMul]), aw, .inl ⟨_, rfl, rfl, rfl, rfl⟩⟩⟩ ?_
                refine V.exec 400 ?_
                simp (config := {contextual := true}) only [go_sem, ↓reduceIte, reduceCtorEq, Bool.false_eq_true, Bool.true_eq_false, Nat.reduceAdd, Nat.reduceLT, Nat.reduceEqDiff, Nat.reduceLeDiff, Nat.reduceSub, Nat.reduceMul]
              · simp (config := {contextual := true}) only [go_sem, ↓reduceIte, reduceCtorEq, Bool.false_eq_true, Bool.true_eq_false, Nat.reduceAdd, Nat.reduceLT, Nat.reduceEqDiff, Nat.reduceLeDiff, Nat.reduceSub, Nat.reduceMul, he, decide_false]
                refine V.call rfl rfl (by simp [dOK]) ⟨11, [], by simp only [go_sem, ↓reduceIte, reduceCtorEq, Bool.false_eq_true, Bool.true_eq_false, Nat.reduceAdd, Nat.reduceLT, Nat.reduceEqDiff, Nat.reduceLeDiff, Nat.reduceSub, Nat.reduceMul], ⟨_, rfl, rfl, rfl⟩, .inl ⟨[], _, .inl (by simp only [go_sem, ↓reduceIte, reduceCtorEq, Bool.false_eq_true, Bool.true_eq_false, Nat.reduceAdd, Nat.reduceLT, Nat.reduceEqDiff, Nat.reduceLeDiff, Nat.reduceSub, Nat.reduceMul]), aw, .inl ⟨_, rfl, rfl, rfl, rfl⟩⟩⟩ ?_
                refine V.exec 400 ?_
                simp (config := {contextual := true}) only [go_sem, ↓reduceIte, reduceCtorEq, Bool.false_eq_true, Bool.true_eq_false, Nat.reduceAdd, Nat.reduceLT, Nat.reduceEqDiff, Nat.reduceLeDiff, Nat.reduceSub, Nat.reduceMul]
          · have h21 : ¬ (2 : Int) = 1 := by decide
            simp (config := {contextual := true}) only [go_sem, ↓reduceIte, reduceCtorEq, Bool.false_eq_true, Bool.true_eq_false, Nat.reduceAdd, Nat.reduceLT, Nat.reduceEqDiff, Nat.reduceLeDiff, Nat.reduceSub, Nat.reduceMul, hf, hk, h21]
            refine V.call rfl rfl (by simp [dOK]) ⟨12, [], by simp only [go_sem, ↓reduceIte, reduceCtorEq, Bool.false_eq_true, Bool.true_eq_false, Nat.reduceAdd, Nat.reduceLT, Nat.reduceEqDiff, Nat.reduceLeDiff, Nat.reduceSub, Nat.reduceMul], ⟨_, rfl, rfl, rfl⟩, .inl ⟨[.row (l.map Pair.pv), .row ([x].map Note.pv)], _, .inl (by simp only [go_sem, ↓reduceIte, reduceCtorEq, Bool.false_eq_true, Bool.true_eq_false, Nat.reduceAdd, Nat.reduceLT, Nat.reduceEqDiff, Nat.reduceLeDiff, Nat.reduceSub, Nat.reduceMul, Note.pv, List.map_cons, List.map_nil, hk]), c1, .inr (.inl ⟨_, rfl, rfl, rfl⟩)⟩⟩ ?_
            refine V.exec 400 ?_
            simp (config := {contextual := true}) only [go_sem, ↓reduceIte, reduceCtorEq, Bool.false_eq_true, Bool.true_eq_false, Nat.reduceAdd, Nat.reduceLT, Nat.reduceEqDiff, Nat.reduceLeDiff, Nat.reduceSub, Nat.reduceMul, hk]
            refine V.call rfl rfl (by simp [dOK]) ⟨12, [], by simp only [go_sem, ↓reduceIte, reduceCtorEq, Bool.false_eq_true, Bool.true_eq_false, Nat.reduceAdd, Nat.reduceLT, Nat.reduceEqDiff, Nat.reduceLeDiff, Nat.reduceSub, Nat.reduceMul], ⟨_, rfl, rfl, rfl⟩, .inl ⟨[.row (l.map Pair.pv), .row ([x, x].map Note.pv)], _, .inl (by simp only [go_sem, ↓reduceIte, reduceCtorEq, Bool.false_eq_true, Bool.true_eq_false, Nat.reduceAdd, Nat.reduceLT, Nat.reduceEqDiff, Nat.reduceLeDiff, Nat.reduceSub, Nat.reduceMul, Note.pv, List.map_cons, List.map_nil, hk]), c2, .inr (.inl ⟨_, rfl, rfl, rfl⟩)⟩⟩ ?_
            refine V.exec 400 ?_
            simp (config := {contextual := true}) only [go_sem, ↓reduceIte, reduceCtorEq, Bool.false_eq_true, Bool.true_eq_false, Nat.reduceAdd, Nat.reduceLT, Nat.reduceEqDiff, Nat.reduceLeDiff, Nat.reduceSub, Nat.reduceMul, hk]
            refine V.call rfl rfl (by simp [dOK]) ⟨19, [], by simp only [go_sem, ↓reduceIte, reduceCtorEq, Bool.false_eq_true, Bool.true_eq_false, Nat.reduceAdd, Nat.reduceLT, Nat.reduceEqDiff, Nat.reduceLeDiff, Nat.reduceSub, Nat.reduceMul], ⟨_, rfl, rfl, rfl⟩, .inl ⟨[.row (a.map Pair.pv), .row (a.map Pair.pv)], _, .inl (by simp only [go_sem, ↓reduceIte, reduceCtorEq, Bool.false_eq_true, Bool.true_eq_false, Nat.reduceAdd, Nat.reduceLT, Nat.reduceEqDiff, Nat.reduceLeDiff, Nat.reduceSub, Nat.reduceMul]), ref03_Same a a (by omega), .inl ⟨_, rfl, rfl, rfl, rfl⟩⟩⟩ ?_
            refine V.exec 400 ?_
            simp (config := {contextual := true}) only [go_sem, ↓reduceIte, reduceCtorEq, Bool.false_eq_true, Bool.true_eq_false, Nat.reduceAdd, Nat.reduceLT, Nat.reduceEqDiff, Nat.reduceLeDiff, Nat.reduceSub, Nat.reduceMul, decide_true]
            refine V.call rfl rfl (by simp [dOK]) ⟨14, [], by simp only [go_sem, ↓reduceIte, reduceCtorEq, Bool.false_eq_true, Bool.true_eq_false, Nat.reduceAdd, Nat.reduceLT, Nat.reduceEqDiff, Nat.reduceLeDiff, Nat.reduceSub, Nat.reduceMul], ⟨_, rfl, rfl, rfl⟩, .inl ⟨[.row (l.map Pair.pv), .str x.key], _, .inl (by simp only [go_sem, ↓reduceIte, reduceCtorEq, Bool.false_eq_true, Bool.true_eq_false, Nat.reduceAdd, Nat.reduceLT, Nat.reduceEqDiff, Nat.reduceLeDiff, Nat.reduceSub, Nat.reduceMul]), c3, .inr (.inl ⟨_, rfl, rfl, rfl⟩)⟩⟩ ?_
            refine V.exec 400 ?_
            simp (config := {contextual := true}) only [go_sem, ↓reduceIte, reduceCtorEq, Bool.false_eq_true, Bool.true_eq_false, Nat.reduceAdd, Nat.reduceLT, Nat.reduceEqDiff, Nat.reduceLeDiff, Nat.reduceSub, Nat.reduceMul, hk]
            refine V.call rfl rfl (by simp [dOK]) ⟨12, [], by simp only [go_sem, ↓reduceIte, reduceCtorEq, Bool.false_eq_true, Bool.true_eq_false, Nat.reduceAdd, Nat.reduceLT, Nat.reduceEqDiff, Nat.reduceLeDiff, Nat.reduceSub, Nat.reduceMul], ⟨_, rfl, rfl, rfl⟩, .inl ⟨[.row (a.map Pair.pv), .row ([(⟨2, x.key, [], 0⟩ : Note)].map Note.pv)], _, .inl (by simp only [go_sem, ↓reduceIte, reduceCtorEq, Bool.false_eq_true, Bool.true_eq_false, Nat.reduceAdd, Nat.reduceLT, Nat.reduceEqDiff, Nat.reduceLeDiff, Nat.reduceSub, Nat.reduceMul, Note.pv, List.map_cons, List.map_nil]), c4, .inr (.inl ⟨_, rfl, rfl, rfl⟩)⟩⟩ ?_
            refine V.exec 400 ?_
            cases th with
            | true =>
              simp (config := {contextual := true}) only [go_sem, ↓reduceIte, reduceCtorEq, Bool.false_eq_true, Bool.true_eq_false, Nat.reduceAdd, Nat.reduceLT, Nat.reduceEqDiff, Nat.reduceLeDiff, Nat.reduceSub, Nat.reduceMul, decide_true]
              refine V.call rfl rfl (by simp [dOK]) ⟨11, [], by simp only [go_sem, ↓reduceIte, reduceCtorEq, Bool.false_eq_true, Bool.true_eq_false, Nat.reduceAdd, Nat.reduceLT, Nat.reduceEqDiff, Nat.reduceLeDiff, Nat.reduceSub, Nat.reduceMul], ⟨_, rfl, rfl, rfl⟩, .inl ⟨[], _, .inl (by simp only [go_sem, ↓reduceIte, reduceCtorEq, Bool.false_eq_true, Bool.true_eq_false, Nat.reduceAdd, Nat.reduceLT, Nat.reduceEqDiff, Nat.reduceLeDiff, Nat.reduceSub, Nat.reduceMul]), aw, .inl ⟨_, rfl, rfl, rfl, rfl⟩⟩⟩ ?_
              refine V.exec 400 ?_
              simp (config := {contextual := true}) only [go_sem, ↓reduceIte, reduceCtorEq, Bool.false_eq_true, Bool.true_eq_false, Nat.reduceAdd, Nat.reduceLT, Nat.reduceEqDiff, Nat.reduceLeDiff, Nat.reduceSub, Nat.reduceMul]
            | false =>
              by_cases he : e = 0
              · have h := hb rfl he
                simp only [Prod.mk.injEq] at h
                obtain ⟨rfl, rfl⟩ := h
                simp (config := {contextual := true}) only [go_sem, ↓reduceIte, reduceCtorEq, Bool.false_eq_true, Bool.true_eq_false, Nat.reduceAdd, Nat.reduceLT, Nat.reduceEqDiff, Nat.reduceLeDiff, Nat.reduceSub, Nat.reduceMul, he, decide_false]
                refine V.call rfl rfl (by simp [dOK]) ⟨19, [], by simp only [go_sem, ↓reduceIte, reduceCtorEq, Bool.false_eq_true, Bool.true_eq_false, Nat.reduceAdd, Nat.reduceLT, Nat.reduceEqDiff, Nat.reduceLeDiff, Nat.reduceSub, Nat.reduceMul], ⟨_, rfl, rfl, rfl⟩, .inl ⟨[.row (c.map Pair.pv), .row (c.map Pair.pv)], _, .inl (by simp only [go_sem, ↓reduceIte, reduceCtorEq, Bool.false_eq_true, Bool.true_eq_false, Nat.reduceAdd, Nat.reduceLT, Nat.reduceEqDiff, Nat.reduceLeDiff, Nat.reduceSub, Nat.reduceMul]), ref03_Same c c (by omega), .inl ⟨_, rfl, rfl, rfl, rfl⟩⟩⟩ ?_
                refine V.exec 400 ?_
                simp (config := {contextual := true}) only [go_sem, ↓reduceIte, reduceCtorEq, Bool.false_eq_true, Bool.true_eq_false, Nat.reduceAdd, Nat.reduceLT, Nat.reduceEqDiff, Nat.reduceLeDiff, Nat.reduceSub, Nat.reduceMul, decide_true]
                refine V.call rfl rfl (by simp [dOK]) ⟨11, [], by simp only [go_sem, ↓reduceIte, reduceCtorEq, Bool.false_eq_true, Bool.true_eq_false, Nat.reduceAdd, Nat.reduceLT, Nat.reduceEqDiff, Nat.reduceLeDiff, Nat.reduceSub, Nat.reduceMul], ⟨_, rfl, rfl, rfl⟩, .inl ⟨[], _, .inl (by simp only [go_sem, ↓reduceIte, reduceCtorEq, Bool.false_eq_true, Bool.true_eq_false, Nat.reduceAdd, Nat.reduceLT, Nat.reduceEqDiff, Nat.reduceLeDiff, Nat.reduceSub, Nat.reduceMul]), aw, .inl ⟨_, rfl, rfl, rfl, rfl⟩⟩⟩ ?_
                refine V.exec 400 ?_
                simp (config := {contextual := true}) only [go_sem, ↓reduceIte, reduceCtorEq, Bool.false_eq_true, Bool.true_eq_false, Nat.reduceAdd, Nat.reduceLT, Nat.reduceEqDiff, Nat.reduceLeDiff, Nat.reduceSub, Nat.reduceMul]
              · simp (config := {contextual := true}) only [go_sem, ↓reduceIte, reduceCtorEq, Bool.false_eq_true, Bool.true_eq_false, Nat.reduceAdd, Nat.reduceLT, Nat.reduceEqDiff, Nat.reduceLeDiff, Nat.reduceSub, Nat.reduceMul, he, decide_false]
                refine V.call rfl rfl (by simp [dOK]) ⟨11, [], by simp only [go_sem, ↓reduceIte, reduceCtorEq, Bool.false_eq_true, Bool.true_eq_false, Nat.reduceAdd, Nat.reduceLT, Nat.reduceEqDiff, Nat.reduceLeDiff, Nat.reduceSub, Nat.reduceMul], ⟨_, rfl, rfl, rfl⟩, .inl ⟨[], _, .inl (by simp only [go_sem, ↓reduceIte, reduceCtorEq, Bool.false_eq_true, Bool.true_eq_false, Nat.reduceAdd, Nat.reduceLT, Nat.reduceEqDiff, Nat.reduceLeDiff, Nat.reduceSub, Nat.reduceMul]), aw, .inl ⟨_, rfl, rfl, rfl, rfl⟩⟩⟩ ?_
                refine V.exec 400 ?_
                simp (config := {contextual := true}) only [go_sem, ↓reduceIte, reduceCtorEq, Bool.false_eq_true, Bool.true_eq_false, Nat.reduceAdd, Nat.reduceLT, Nat.reduceEqDiff, Nat.reduceLeDiff, Nat.reduceSub, Nat.reduceMul]
        · have hk1 : ¬ x.kind = 1 := fun h => hk (.inl h)
          have hk2 : ¬ x.kind = 2 := fun h => hk (.inr h)
          simp (config := {contextual := true}) only [go_sem, ↓reduceIte, reduceCtorEq, Bool.false_eq_true, Bool.true_eq_false, Nat.reduceAdd, Nat.reduceLT, Nat.reduceEqDiff, Nat.reduceLeDiff, Nat.reduceSub, Nat.reduceMul, hf, hk1, hk2]
          refine V.call rfl rfl (by simp [dOK]) ⟨11, [], by simp only [go_sem, ↓reduceIte, reduceCtorEq, Bool.false_eq_true, Bool.true_eq_false, Nat.reduceAdd, Nat.reduceLT, Nat.reduceEqDiff, Nat.reduceLeDiff, Nat.reduceSub, Nat.reduceMul], ⟨_, rfl, rfl, rfl⟩, .inl ⟨[], _, .inl (by simp only [go_sem, ↓reduceIte, reduceCtorEq, Bool.false_eq_true, Bool.true_eq_false, Nat.reduceAdd, Nat.reduceLT, Nat.reduceEqDiff, Nat.reduceLeDiff, Nat.reduceSub, Nat.reduceMul]), aw, .inl ⟨_, rfl, rfl, rfl, rfl⟩⟩⟩ ?_
          refine V.exec 400 ?_
          simp (config := {contextual := true}) only [go_sem, ↓reduceIte, reduceCtorEq, Bool.false_eq_true, Bool.true_eq_false, Nat.reduceAdd, Nat.reduceLT, Nat.reduceEqDiff, Nat.reduceLeDiff, Nat.reduceSub, Nat.reduceMul]
      · simp (config := {contextual := true}) only [go_sem, ↓reduceIte, reduceCtorEq, Bool.false_eq_true, Bool.true_eq_false, Nat.reduceAdd, Nat.reduceLT, Nat.reduceEqDiff, Nat.reduceLeDiff, Nat.reduceSub, Nat.reduceMul, hf]
        refine V.call rfl rfl (by simp [dOK]) ⟨11, [], by simp only [go_sem, ↓reduceIte, reduceCtorEq, Bool.false_eq_true, Bool.true_eq_false, Nat.reduceAdd, Nat.reduceLT, Nat.reduceEqDiff, Nat.reduceLeDiff, Nat.reduceSub, Nat.reduceMul], ⟨_, rfl, rfl, rfl⟩, .inl ⟨[], _, .inl (by simp only [go_sem, ↓reduceIte, reduceCtorEq, Bool.false_eq_true, Bool.true_eq_false, Nat.reduceAdd, Nat.reduceLT, Nat.reduceEqDiff, Nat.reduceLeDiff, Nat.reduceSub, Nat.reduceMul]), aw, .inl ⟨_, rfl, rfl, rfl, rfl⟩⟩⟩ ?_
        refine V.exec 400 ?_
        simp (config := {contextual := true}) only [go_sem, ↓reduceIte, reduceCtorEq, Bool.false_eq_true, Bool.true_eq_false, Nat.reduceAdd, Nat.reduceLT, Nat.reduceEqDiff, Nat.reduceLeDiff, Nat.reduceSub, Nat.reduceMul]
    · simp (config := {contextual := true}) only [go_sem, ↓reduceIte, reduceCtorEq, Bool.false_eq_true, Bool.true_eq_false, Nat.reduceAdd, Nat.reduceLT, Nat.reduceEqDiff, Nat.reduceLeDiff, Nat.reduceSub, Nat.reduceMul, hok]
      refine V.call rfl rfl (by simp [dOK]) ⟨11, [], by simp only [go_sem, ↓reduceIte, reduceCtorEq, Bool.false_eq_true, Bool.true_eq_false, Nat.reduceAdd, Nat.reduceLT, Nat.reduceEqDiff, Nat.reduceLeDiff, Nat.reduceSub, Nat.reduceMul], ⟨_, rfl, rfl, rfl⟩, .inl ⟨[], _, .inl (by simp only [go_sem, ↓reduceIte, reduceCtorEq, Bool.false_eq_true, Bool.true_eq_false, Nat.reduceAdd, Nat.reduceLT, Nat.reduceEqDiff, Nat.reduceLeDiff, Nat.reduceSub, Nat.reduceMul]), aw, .inl ⟨_, rfl, rfl, rfl, rfl⟩⟩⟩ ?_
      refine V.exec 400 ?_
      simp (config := {contextual := true}) only [go_sem, ↓reduceIte, reduceCtorEq, Bool.false_eq_true, Bool.true_eq_false, Nat.reduceAdd, Nat.reduceLT, Nat.reduceEqDiff, Nat.reduceLeDiff, Nat.reduceSub, Nat.reduceMul]
  · simp (config := {contextual := true}) only [go_sem, ↓reduceIte, reduceCtorEq, Bool.false_eq_true, Bool.true_eq_false, Nat.reduceAdd, Nat.reduceLT, Nat.reduceEqDiff, Nat.reduceLeDiff, Nat.reduceSub, Nat.reduceMul, h1]
    refine V.call rfl rfl (by simp [dOK]) ⟨11, [], by simp only [go_sem, ↓reduceIte, reduceCtorEq, Bool.false_eq_true, Bool.true_eq_false, Nat.reduceAdd, Nat.reduceLT, Nat.reduceEqDiff, Nat.reduceLeDiff, Nat.reduceSub, Nat.reduceMul], ⟨_, rfl, rfl, rfl⟩, .inl ⟨[], _, .inl (by simp only [go_sem, ↓reduceIte, reduceCtorEq, Bool.false_eq_true, Bool.true_eq_false, Nat.reduceAdd, Nat.reduceLT, Nat.reduceEqDiff, Nat.reduceLeDiff, Nat.reduceSub, Nat.reduceMul]), aw, .inl ⟨_, rfl, rfl, rfl, rfl⟩⟩⟩ ?_
    refine V.exec 400 ?_
    simp (config := {contextual := true}) only [go_sem, ↓reduceIte, reduceCtorEq, Bool.false_eq_true, Bool.true_eq_false, Nat.reduceAdd, Nat.reduceLT, Nat.reduceEqDiff, Nat.reduceLeDiff, Nat.reduceSub, Nat.reduceMul]

theorem ctTwice (xs0 : List PV) (l0 : xs0.length ≤ maxLen) (h0 : ∀ x ∈ xs0, ∃ qs, x = .agg qs ∧ qs.map PV.kd = [.str, .str] ∧ ∀ q ∈ qs, q.wfv)
    (xs1 : List PV) (h1 : xs1.map PV.kd = [.int .i64, .str, .str, .int .u64]) (w1 : ∀ q ∈ xs1, q.wfv) :
    Ct Try.prog 8 (YtnofkhghgjdblaaVm.ops [.row xs0, .agg xs1]) (.vals [.bool true]) := by
  obtain ⟨l, rfl⟩ := pair_of xs0 h0
  obtain ⟨s, hs⟩ := note_one xs1 h1
  rw [hs]
  exact law_Twice l s (by simpa using l0)
end Go.Proofs.Ytnofkhghgjdblaa
