/- A part of a proof: functions of the program, walked. -/
import Derived.Test.YtglpemnejngkaaaGH
set_option linter.unusedVariables false
set_option linter.unusedSimpArgs false
namespace Go.Proofs.Ytglpemnejngkaaa
open Go Go.Proofs Go.Proofs.YtglpemnejngkaaaVm Go.Proofs.Ytglpemnejngkaaa.Ty

theorem take_flat {bs : List (List Note)} {i : Nat} {b : List Note} (hx : bs[i]? = some b) : (bs.take (i + 1)).flatten = (bs.take i).flatten ++ b := by
  rw [List.take_add_one, hx, List.flatten_append]; simp

theorem allV_ends {l : List Pair} {seq : Int} {bs : List (List Note)} {a : List Change} {p : List Pair} {n : List Int} {e : Int} (h : allV l seq bs = (a, p, n, e)) (he : ¬ e = 0) : n = [] := by
  have h1 := allGo_err l bs l seq [] [] (by unfold allV at h; rw [h]; exact he)
  unfold allV at h
  rw [h1] at h
  simp only [Prod.mk.injEq] at h
  exact h.2.2.1.symm

set_option maxRecDepth 10000 in
set_option maxHeartbeats 16000000 in
theorem law_Leads (l : List Pair) (seq : Int) (bs : List (List Note)) (hl : l.length ≤ maxLen) (hn : bs.length ≤ maxLen) (hb : ∀ b ∈ bs, b.length ≤ maxLen) (hs0 : -9223372036854775808 ≤ seq) (hseq : seq ≤ 9223372036854775807) :
    Ct Try.prog 8 (YtglpemnejngkaaaVm.ops [.row (l.map Pair.pv), .int .i64 seq, .row (bs.map rowN)]) (.vals [.bool true]) := by
  have aw := law17_awake
  simp only [maxLen] at hl hn hb
  refine Ct.of_V Try.func8 rfl (by simp [YtglpemnejngkaaaVm.ops, Try.f8]) ?_
  refine V.exec 400 ?_
  simp (config := {contextual := true}) only [go_sem, ↓reduceIte, reduceCtorEq, Bool.false_eq_true, Bool.true_eq_false, Nat.reduceAdd, Nat.reduceLT, Nat.reduceEqDiff, Nat.reduceLeDiff, Nat.reduceSub, Nat.reduceMul, Try.f8]
  refine V.call rfl rfl (by simp [dOK]) ⟨9, [], by simp only [go_sem, ↓reduceIte, reduceCtorEq, Bool.false_eq_true, Bool.true_eq_false, Nat.reduceAdd, Nat.reduceLT, Nat.reduceEqDiff, Nat.reduceLeDiff, Nat.reduceSub, Nat.reduceMul], ⟨_, rfl, rfl, rfl⟩, .inl ⟨[.row (l.map Pair.pv)], _, .inl (by simp only [go_sem, ↓reduceIte, reduceCtorEq, Bool.false_eq_true, Bool.true_eq_false, Nat.reduceAdd, Nat.reduceLT, Nat.reduceEqDiff, Nat.reduceLeDiff, Nat.reduceSub, Nat.reduceMul]), law17_small l (by omega), .inl ⟨_, rfl, rfl, rfl, rfl⟩⟩⟩ ?_
  refine V.exec 400 ?_
  by_cases h1 : smallP l
  · have hl60 := h1.1
    by_cases h10 : bs.length ≤ 10
    · have h10' : ¬ (10 : Int) < (bs.length : Int) := by omega
      simp (config := {contextual := true}) only [go_sem, ↓reduceIte, reduceCtorEq, Bool.false_eq_true, Bool.true_eq_false, Nat.reduceAdd, Nat.reduceLT, Nat.reduceEqDiff, Nat.reduceLeDiff, Nat.reduceSub, Nat.reduceMul, h1, h10']
      refine V.loop (fun m ls os => ∃ (i : Nat), i ≤ bs.length ∧ m = bs.length - i ∧ (∀ b ∈ bs.take i, b.length ≤ 20) ∧ (bs.take i).flatten.length ≤ 20 * i ∧
          ls = [(0, .val (.row (l.map Pair.pv))), (1, .val (.int .i64 seq)), (2, .val (.row (bs.map rowN))), (7, .ref 0), (31, .val (.row (bs.map rowN))), (32, .val (.int .i64 bs.length)), (33, .val (.int .i64 i))] ∧ os = [.row 52 ((bs.take i).flatten.map Note.pv)]) 1 bs.length
        [(0, .val (.row (l.map Pair.pv))), (1, .val (.int .i64 seq)), (2, .val (.row (bs.map rowN))), (7, .ref 0), (31, .val (.row (bs.map rowN))), (32, .val (.int .i64 bs.length)), (33, .val (.int .i64 0))] [.row 52 []] [none]
        ⟨0, Nat.zero_le _, rfl, by simp, by simp, rfl, rfl⟩ (by simp only [go_sem, ↓reduceIte, reduceCtorEq, Bool.false_eq_true, Bool.true_eq_false, Nat.reduceAdd, Nat.reduceLT, Nat.reduceEqDiff, Nat.reduceLeDiff, Nat.reduceSub, Nat.reduceMul]; try decide) ?_
      rintro m ls os ⟨i, hi, rfl, hall, hfl, rfl, rfl⟩
      refine V.exec 400 ?_
      by_cases hlt : i < bs.length
      · have hlt' : (i : Int) < (bs.length : Int) := by omega
        obtain ⟨b, hx⟩ : ∃ x, bs[i]? = some x := ⟨_, List.getElem?_eq_getElem hlt⟩
        have hw : IntKind.i64.wrap ((i : Int) + 1) = ((i + 1 : Nat) : Int) := by rw [wrap_small3] <;> omega
        have hbl := hb b (List.mem_of_getElem? hx)
        simp (config := {contextual := true}) only [go_sem, ↓reduceIte, reduceCtorEq, Bool.false_eq_true, Bool.true_eq_false, Nat.reduceAdd, Nat.reduceLT, Nat.reduceEqDiff, Nat.reduceLeDiff, Nat.reduceSub, Nat.reduceMul, hlt', hx, rowN]
        refine V.call rfl rfl (by simp [dOK]) ⟨10, [], by simp only [go_sem, ↓reduceIte, reduceCtorEq, Bool.false_eq_true, Bool.true_eq_false, Nat.reduceAdd, Nat.reduceLT, Nat.reduceEqDiff, Nat.reduceLeDiff, Nat.reduceSub, Nat.reduceMul], ⟨_, rfl, rfl, rfl⟩, .inl ⟨[.row (b.map Note.pv)], _, .inl (by simp only [go_sem, ↓reduceIte, reduceCtorEq, Bool.false_eq_true, Bool.true_eq_false, Nat.reduceAdd, Nat.reduceLT, Nat.reduceEqDiff, Nat.reduceLeDiff, Nat.reduceSub, Nat.reduceMul]), law17_few b (by omega), .inl ⟨_, rfl, rfl, rfl, rfl⟩⟩⟩ ?_
        refine V.exec 400 ?_
        by_cases hf : fewN b
        · have hall' : ∀ b' ∈ bs.take (i + 1), b'.length ≤ 20 := fun b' hb' => by
            rw [List.take_add_one, hx] at hb'
            rcases List.mem_append.1 hb' with hb' | hb'
            · exact hall b' hb'
            · simp at hb'; subst hb'; exact hf.1
          have hb20 := hf.1
          have htf := take_flat hx
          generalize hnt : (bs.take i).flatten = nt at *
          simp (config := {contextual := true}) only [go_sem, ↓reduceIte, reduceCtorEq, Bool.false_eq_true, Bool.true_eq_false, Nat.reduceAdd, Nat.reduceLT, Nat.reduceEqDiff, Nat.reduceLeDiff, Nat.reduceSub, Nat.reduceMul, hf, hw]
          refine ⟨fun j _ => rfl, ⟨by omega, by omega⟩, bs.length - (i + 1), _, _, [some 10], by omega, ⟨i + 1, by omega, rfl, hall', by rw [htf, List.length_append]; omega, rfl, rfl⟩, ?_⟩
          simp only [go_sem, ↓reduceIte, reduceCtorEq, Bool.false_eq_true, Bool.true_eq_false, Nat.reduceAdd, Nat.reduceLT, Nat.reduceEqDiff, Nat.reduceLeDiff, Nat.reduceSub, Nat.reduceMul, htf, List.map_append]
          try decide
        · simp (config := {contextual := true}) only [go_sem, ↓reduceIte, reduceCtorEq, Bool.false_eq_true, Bool.true_eq_false, Nat.reduceAdd, Nat.reduceLT, Nat.reduceEqDiff, Nat.reduceLeDiff, Nat.reduceSub, Nat.reduceMul, hf]
          refine V.call rfl rfl (by simp [dOK]) ⟨11, [], by simp only [go_sem, ↓reduceIte, reduceCtorEq, Bool.false_eq_true, Bool.true_eq_false, Nat.reduceAdd, Nat.reduceLT, Nat.reduceEqDiff, Nat.reduceLeDiff, Nat.reduceSub, Nat.reduceMul], ⟨_, rfl, rfl, rfl⟩, .inl ⟨[], _, .inl (by simp only [go_sem, ↓reduceIte, reduceCtorEq, Bool.false_eq_true, Bool.true_eq_false, Nat.reduceAdd, Nat.reduceLT, Nat.reduceEqDiff, Nat.reduceLeDiff, Nat.reduceSub, Nat.reduceMul]), aw, .inl ⟨_, rfl, rfl, rfl, rfl⟩⟩⟩ ?_
          refine V.exec 400 ?_
          simp (config := {contextual := true}) only [go_sem, ↓reduceIte, reduceCtorEq, Bool.false_eq_true, Bool.true_eq_false, Nat.reduceAdd, Nat.reduceLT, Nat.reduceEqDiff, Nat.reduceLeDiff, Nat.reduceSub, Nat.reduceMul]
      · have hlt' : ¬ (i : Int) < (bs.length : Int) := by omega
        rw [List.take_of_length_le (by omega)] at hall hfl ⊢
        have c1 := batch_All l seq bs (by omega) (by omega) (fun b hb => Nat.le_trans (hall b hb) (by decide)) hseq
        have hlen := allV_len l seq bs
        have her := allV_err l seq bs
        have hsqa := allV_seq l seq bs
        have hfa := @allV_lead l seq bs
        have hri : ∀ b r, bs = b :: r → (allV l seq bs).2.2.2 = 0 → pairsOk l := fun b r hbr h0 => by
          subst hbr
          exact allV_right (h := by rw [← h0])
        generalize hnt : bs.flatten = nt at *
        obtain ⟨a, p, n, e, hR⟩ : ∃ x y z u, allV l seq bs = (x, y, z, u) := ⟨_, _, _, _, rfl⟩
        rw [hR] at c1 hlen her hfa hri hsqa
        simp only at c1 hlen her hfa hri hsqa
        simp (config := {contextual := true}) only [go_sem, ↓reduceIte, reduceCtorEq, Bool.false_eq_true, Bool.true_eq_false, Nat.reduceAdd, Nat.reduceLT, Nat.reduceEqDiff, Nat.reduceLeDiff, Nat.reduceSub, Nat.reduceMul, hlt']
        refine V.call rfl rfl (by simp [dOK]) ⟨18, [], by simp only [go_sem, ↓reduceIte, reduceCtorEq, Bool.false_eq_true, Bool.true_eq_false, Nat.reduceAdd, Nat.reduceLT, Nat.reduceEqDiff, Nat.reduceLeDiff, Nat.reduceSub, Nat.reduceMul], ⟨_, rfl, rfl, rfl⟩, .inl ⟨[.row (l.map Pair.pv), .int .i64 seq, .row (bs.map rowN)], _, .inl (by simp only [go_sem, ↓reduceIte, reduceCtorEq, Bool.false_eq_true, Bool.true_eq_false, Nat.reduceAdd, Nat.reduceLT, Nat.reduceEqDiff, Nat.reduceLeDiff, Nat.reduceSub, Nat.reduceMul]), c1, .inr (.inl ⟨_, rfl, rfl, rfl⟩)⟩⟩ ?_
        refine V.exec 400 ?_
        by_cases he : e = 0
        · subst he
          simp (config := {contextual := true}) only [go_sem, ↓reduceIte, reduceCtorEq, Bool.false_eq_true, Bool.true_eq_false, Nat.reduceAdd, Nat.reduceLT, Nat.reduceEqDiff, Nat.reduceLeDiff, Nat.reduceSub, Nat.reduceMul]
          refine V.call rfl rfl (by simp [dOK]) ⟨21, [], by simp only [go_sem, ↓reduceIte, reduceCtorEq, Bool.false_eq_true, Bool.true_eq_false, Nat.reduceAdd, Nat.reduceLT, Nat.reduceEqDiff, Nat.reduceLeDiff, Nat.reduceSub, Nat.reduceMul], ⟨_, rfl, rfl, rfl⟩, .inl ⟨[.row (l.map Pair.pv)], _, .inl (by simp only [go_sem, ↓reduceIte, reduceCtorEq, Bool.false_eq_true, Bool.true_eq_false, Nat.reduceAdd, Nat.reduceLT, Nat.reduceEqDiff, Nat.reduceLeDiff, Nat.reduceSub, Nat.reduceMul]), leaf_Right l (by omega), .inl ⟨_, rfl, rfl, rfl, rfl⟩⟩⟩ ?_
          refine V.exec 400 ?_
          by_cases hok : pairsOk l
          · obtain ⟨f1, f2, f3, f4, f5⟩ := (hfa hok rfl).facts
            have hsq := (hfa hok rfl).seqs
            have hel := (hfa hok rfl).elen
            rw [hnt] at f3
            have d1 := change_Do l a (by omega) (by omega)
            have d2 := change_Undo p a (by omega) (by omega)
            have d3 := leaf_Apply l nt (by omega) (by omega)
            rw [f1] at d1
            rw [f2] at d2
            rw [f3] at d3
            simp only at d1 d2 d3
            simp (config := {contextual := true}) only [go_sem, ↓reduceIte, reduceCtorEq, Bool.false_eq_true, Bool.true_eq_false, Nat.reduceAdd, Nat.reduceLT, Nat.reduceEqDiff, Nat.reduceLeDiff, Nat.reduceSub, Nat.reduceMul, hok]
            refine V.call rfl rfl (by simp [dOK]) ⟨23, [], by simp only [go_sem, ↓reduceIte, reduceCtorEq, Bool.false_eq_true, Bool.true_eq_false, Nat.reduceAdd, Nat.reduceLT, Nat.reduceEqDiff, Nat.reduceLeDiff, Nat.reduceSub, Nat.reduceMul], ⟨_, rfl, rfl, rfl⟩, .inl ⟨[.row (l.map Pair.pv), .row (a.map Change.pv)], _, .inl (by simp only [go_sem, ↓reduceIte, reduceCtorEq, Bool.false_eq_true, Bool.true_eq_false, Nat.reduceAdd, Nat.reduceLT, Nat.reduceEqDiff, Nat.reduceLeDiff, Nat.reduceSub, Nat.reduceMul]), d1, .inr (.inl ⟨_, rfl, rfl, rfl⟩)⟩⟩ ?_
            refine V.exec 400 ?_
            simp (config := {contextual := true}) only [go_sem, ↓reduceIte, reduceCtorEq, Bool.false_eq_true, Bool.true_eq_false, Nat.reduceAdd, Nat.reduceLT, Nat.reduceEqDiff, Nat.reduceLeDiff, Nat.reduceSub, Nat.reduceMul]
            refine V.call rfl rfl (by simp [dOK]) ⟨24, [], by simp only [go_sem, ↓reduceIte, reduceCtorEq, Bool.false_eq_true, Bool.true_eq_false, Nat.reduceAdd, Nat.reduceLT, Nat.reduceEqDiff, Nat.reduceLeDiff, Nat.reduceSub, Nat.reduceMul], ⟨_, rfl, rfl, rfl⟩, .inl ⟨[.row (p.map Pair.pv), .row (a.map Change.pv)], _, .inl (by simp only [go_sem, ↓reduceIte, reduceCtorEq, Bool.false_eq_true, Bool.true_eq_false, Nat.reduceAdd, Nat.reduceLT, Nat.reduceEqDiff, Nat.reduceLeDiff, Nat.reduceSub, Nat.reduceMul]), d2, .inr (.inl ⟨_, rfl, rfl, rfl⟩)⟩⟩ ?_
            refine V.exec 400 ?_
            simp (config := {contextual := true}) only [go_sem, ↓reduceIte, reduceCtorEq, Bool.false_eq_true, Bool.true_eq_false, Nat.reduceAdd, Nat.reduceLT, Nat.reduceEqDiff, Nat.reduceLeDiff, Nat.reduceSub, Nat.reduceMul]
            refine V.call rfl rfl (by simp [dOK]) ⟨25, [], by simp only [go_sem, ↓reduceIte, reduceCtorEq, Bool.false_eq_true, Bool.true_eq_false, Nat.reduceAdd, Nat.reduceLT, Nat.reduceEqDiff, Nat.reduceLeDiff, Nat.reduceSub, Nat.reduceMul], ⟨_, rfl, rfl, rfl⟩, .inl ⟨[.row (l.map Pair.pv), .row (nt.map Note.pv)], _, .inl (by simp only [go_sem, ↓reduceIte, reduceCtorEq, Bool.false_eq_true, Bool.true_eq_false, Nat.reduceAdd, Nat.reduceLT, Nat.reduceEqDiff, Nat.reduceLeDiff, Nat.reduceSub, Nat.reduceMul]), d3, .inr (.inl ⟨_, rfl, rfl, rfl⟩)⟩⟩ ?_
            refine V.exec 400 ?_
            simp (config := {contextual := true}) only [go_sem, ↓reduceIte, reduceCtorEq, Bool.false_eq_true, Bool.true_eq_false, Nat.reduceAdd, Nat.reduceLT, Nat.reduceEqDiff, Nat.reduceLeDiff, Nat.reduceSub, Nat.reduceMul]
            refine V.loop (fun m ls os => ∃ (j : Nat), j ≤ a.length ∧ m = a.length - j ∧ ls = [(0, .val (.row (l.map Pair.pv))), (1, .val (.int .i64 seq)), (2, .val (.row (bs.map rowN))), (10, .val (.row (a.map Change.pv))), (11, .val (.row (p.map Pair.pv))), (12, .val (.row (n.map pvZ))), (14, .val (.row (p.map Pair.pv))), (15, .val (.int .i64 0)), (16, .val (.row (l.map Pair.pv))), (17, .val (.int .i64 0)), (18, .val (.row (p.map Pair.pv))), (19, .val (.int .i64 0)), (97, .val (.row (a.map Change.pv))), (98, .val (.int .i64 a.length)), (99, .val (.int .i64 j))] ∧ os = []) 0 a.length
              [(0, .val (.row (l.map Pair.pv))), (1, .val (.int .i64 seq)), (2, .val (.row (bs.map rowN))), (10, .val (.row (a.map Change.pv))), (11, .val (.row (p.map Pair.pv))), (12, .val (.row (n.map pvZ))), (14, .val (.row (p.map Pair.pv))), (15, .val (.int .i64 0)), (16, .val (.row (l.map Pair.pv))), (17, .val (.int .i64 0)), (18, .val (.row (p.map Pair.pv))), (19, .val (.int .i64 0)), (97, .val (.row (a.map Change.pv))), (98, .val (.int .i64 a.length)), (99, .val (.int .i64 0))] [] []
              ⟨0, Nat.zero_le _, rfl, rfl, rfl⟩ (by simp only [go_sem, ↓reduceIte, reduceCtorEq, Bool.false_eq_true, Bool.true_eq_false, Nat.reduceAdd, Nat.reduceLT, Nat.reduceEqDiff, Nat.reduceLeDiff, Nat.reduceSub, Nat.reduceMul]) ?_
            rintro m ls os ⟨j, hj, rfl, rfl, rfl⟩
            refine V.exec 400 ?_
            by_cases hjt : j < a.length
            · have hjt' : (j : Int) < (a.length : Int) := by omega
              obtain ⟨x, hx⟩ : ∃ x, a[j]? = some x := ⟨_, List.getElem?_eq_getElem hjt⟩
              have hxs := hsq j x hx
              have hw : IntKind.i64.wrap ((j : Int) + 1) = ((j + 1 : Nat) : Int) := by rw [wrap_small3] <;> omega
              have hw4 : IntKind.i64.wrap (seq + (j : Int)) = seq + (j : Int) := by rw [wrap_small3] <;> omega
              have hw5 : IntKind.i64.wrap (seq + (j : Int) + 1) = seq + (j : Int) + 1 := by rw [wrap_small3] <;> omega
              simp (config := {contextual := true}) only [go_sem, ↓reduceIte, reduceCtorEq, Bool.false_eq_true, Bool.true_eq_false, Nat.reduceAdd, Nat.reduceLT, Nat.reduceEqDiff, Nat.reduceLeDiff, Nat.reduceSub, Nat.reduceMul, hjt', hx, Change.pv, hw, hw4, hw5, hxs]
              exact ⟨a.length - (j + 1), _, [], [], by omega, ⟨j + 1, by omega, rfl, rfl, rfl⟩, by simp only [go_sem, ↓reduceIte, reduceCtorEq, Bool.false_eq_true, Bool.true_eq_false, Nat.reduceAdd, Nat.reduceLT, Nat.reduceEqDiff, Nat.reduceLeDiff, Nat.reduceSub, Nat.reduceMul]⟩
            · have hjt' : ¬ (j : Int) < (a.length : Int) := by omega
              simp (config := {contextual := true}) only [go_sem, ↓reduceIte, reduceCtorEq, Bool.false_eq_true, Bool.true_eq_false, Nat.reduceAdd, Nat.reduceLT, Nat.reduceEqDiff, Nat.reduceLeDiff, Nat.reduceSub, Nat.reduceMul, hjt']
              refine V.call rfl rfl (by simp [dOK]) ⟨17, [], by simp only [go_sem, ↓reduceIte, reduceCtorEq, Bool.false_eq_true, Bool.true_eq_false, Nat.reduceAdd, Nat.reduceLT, Nat.reduceEqDiff, Nat.reduceLeDiff, Nat.reduceSub, Nat.reduceMul], ⟨_, rfl, rfl, rfl⟩, .inl ⟨[.row (p.map Pair.pv), .row (p.map Pair.pv)], _, .inl (by simp only [go_sem, ↓reduceIte, reduceCtorEq, Bool.false_eq_true, Bool.true_eq_false, Nat.reduceAdd, Nat.reduceLT, Nat.reduceEqDiff, Nat.reduceLeDiff, Nat.reduceSub, Nat.reduceMul]), ref03_Same p p (by omega), .inl ⟨_, rfl, rfl, rfl, rfl⟩⟩⟩ ?_
              refine V.exec 400 ?_
              simp (config := {contextual := true}) only [go_sem, ↓reduceIte, reduceCtorEq, Bool.false_eq_true, Bool.true_eq_false, Nat.reduceAdd, Nat.reduceLT, Nat.reduceEqDiff, Nat.reduceLeDiff, Nat.reduceSub, Nat.reduceMul, decide_true]
              refine V.call rfl rfl (by simp [dOK]) ⟨17, [], by simp only [go_sem, ↓reduceIte, reduceCtorEq, Bool.false_eq_true, Bool.true_eq_false, Nat.reduceAdd, Nat.reduceLT, Nat.reduceEqDiff, Nat.reduceLeDiff, Nat.reduceSub, Nat.reduceMul], ⟨_, rfl, rfl, rfl⟩, .inl ⟨[.row (l.map Pair.pv), .row (l.map Pair.pv)], _, .inl (by simp only [go_sem, ↓reduceIte, reduceCtorEq, Bool.false_eq_true, Bool.true_eq_false, Nat.reduceAdd, Nat.reduceLT, Nat.reduceEqDiff, Nat.reduceLeDiff, Nat.reduceSub, Nat.reduceMul]), ref03_Same l l (by omega), .inl ⟨_, rfl, rfl, rfl, rfl⟩⟩⟩ ?_
              refine V.exec 400 ?_
              simp (config := {contextual := true}) only [go_sem, ↓reduceIte, reduceCtorEq, Bool.false_eq_true, Bool.true_eq_false, Nat.reduceAdd, Nat.reduceLT, Nat.reduceEqDiff, Nat.reduceLeDiff, Nat.reduceSub, Nat.reduceMul, decide_true]
              refine V.call rfl rfl (by simp [dOK]) ⟨17, [], by simp only [go_sem, ↓reduceIte, reduceCtorEq, Bool.false_eq_true, Bool.true_eq_false, Nat.reduceAdd, Nat.reduceLT, Nat.reduceEqDiff, Nat.reduceLeDiff, Nat.reduceSub, Nat.reduceMul], ⟨_, rfl, rfl, rfl⟩, .inl ⟨[.row (p.map Pair.pv), .row (p.map Pair.pv)], _, .inl (by simp only [go_sem, ↓reduceIte, reduceCtorEq, Bool.false_eq_true, Bool.true_eq_false, Nat.reduceAdd, Nat.reduceLT, Nat.reduceEqDiff, Nat.reduceLeDiff, Nat.reduceSub, Nat.reduceMul]), ref03_Same p p (by omega), .inl ⟨_, rfl, rfl, rfl, rfl⟩⟩⟩ ?_
              refine V.exec 400 ?_
              simp (config := {contextual := true}) only [go_sem, ↓reduceIte, reduceCtorEq, Bool.false_eq_true, Bool.true_eq_false, Nat.reduceAdd, Nat.reduceLT, Nat.reduceEqDiff, Nat.reduceLeDiff, Nat.reduceSub, Nat.reduceMul, decide_true]
              refine V.call rfl rfl (by simp [dOK]) ⟨26, [], by simp only [go_sem, ↓reduceIte, reduceCtorEq, Bool.false_eq_true, Bool.true_eq_false, Nat.reduceAdd, Nat.reduceLT, Nat.reduceEqDiff, Nat.reduceLeDiff, Nat.reduceSub, Nat.reduceMul], ⟨_, rfl, rfl, rfl⟩, .inl ⟨[.row (a.map Change.pv)], _, .inl (by simp only [go_sem, ↓reduceIte, reduceCtorEq, Bool.false_eq_true, Bool.true_eq_false, Nat.reduceAdd, Nat.reduceLT, Nat.reduceEqDiff, Nat.reduceLeDiff, Nat.reduceSub, Nat.reduceMul]), trail_Right a (by omega), .inl ⟨_, rfl, rfl, rfl, rfl⟩⟩⟩ ?_
              refine V.exec 400 ?_
              have hel' : (n.length : Int) = (bs.length : Int) := by omega
              by_cases hb0 : bs = []
              · have hz : (bs.length : Int) = 0 := by simp [hb0]
                simp (config := {contextual := true}) only [go_sem, ↓reduceIte, reduceCtorEq, Bool.false_eq_true, Bool.true_eq_false, Nat.reduceAdd, Nat.reduceLT, Nat.reduceEqDiff, Nat.reduceLeDiff, Nat.reduceSub, Nat.reduceMul, f4, hel', hz, decide_true]
                refine V.call rfl rfl (by simp [dOK]) ⟨11, [], by simp only [go_sem, ↓reduceIte, reduceCtorEq, Bool.false_eq_true, Bool.true_eq_false, Nat.reduceAdd, Nat.reduceLT, Nat.reduceEqDiff, Nat.reduceLeDiff, Nat.reduceSub, Nat.reduceMul], ⟨_, rfl, rfl, rfl⟩, .inl ⟨[], _, .inl (by simp only [go_sem, ↓reduceIte, reduceCtorEq, Bool.false_eq_true, Bool.true_eq_false, Nat.reduceAdd, Nat.reduceLT, Nat.reduceEqDiff, Nat.reduceLeDiff, Nat.reduceSub, Nat.reduceMul]), aw, .inl ⟨_, rfl, rfl, rfl, rfl⟩⟩⟩ ?_
                refine V.exec 400 ?_
                simp (config := {contextual := true}) only [go_sem, ↓reduceIte, reduceCtorEq, Bool.false_eq_true, Bool.true_eq_false, Nat.reduceAdd, Nat.reduceLT, Nat.reduceEqDiff, Nat.reduceLeDiff, Nat.reduceSub, Nat.reduceMul]
              · have f6 := f5 hb0
                have hz : 0 < bs.length := by
                  cases hbs : bs with
                  | nil => exact absurd hbs hb0
                  | cons => simp
                have hnz : ¬ (bs.length : Int) = 0 := by omega
                have hw6 : IntKind.i64.wrap ((bs.length : Int) - 1) = ((n.length - 1 : Nat) : Int) := by rw [wrap_small3] <;> omega
                have hw7 : IntKind.i64.wrap (seq + (a.length : Int)) = seq + (a.length : Int) := by rw [wrap_small3] <;> omega
                simp (config := {contextual := true}) only [go_sem, ↓reduceIte, reduceCtorEq, Bool.false_eq_true, Bool.true_eq_false, Nat.reduceAdd, Nat.reduceLT, Nat.reduceEqDiff, Nat.reduceLeDiff, Nat.reduceSub, Nat.reduceMul, f4, hel', hnz, hw6, hw7, f6, pvZ, decide_true]
                refine V.call rfl rfl (by simp [dOK]) ⟨11, [], by simp only [go_sem, ↓reduceIte, reduceCtorEq, Bool.false_eq_true, Bool.true_eq_false, Nat.reduceAdd, Nat.reduceLT, Nat.reduceEqDiff, Nat.reduceLeDiff, Nat.reduceSub, Nat.reduceMul], ⟨_, rfl, rfl, rfl⟩, .inl ⟨[], _, .inl (by simp only [go_sem, ↓reduceIte, reduceCtorEq, Bool.false_eq_true, Bool.true_eq_false, Nat.reduceAdd, Nat.reduceLT, Nat.reduceEqDiff, Nat.reduceLeDiff, Nat.reduceSub, Nat.reduceMul]), aw, .inl ⟨_, rfl, rfl, rfl, rfl⟩⟩⟩ ?_
                refine V.exec 400 ?_
                simp (config := {contextual := true}) only [go_sem, ↓reduceIte, reduceCtorEq, Bool.false_eq_true, Bool.true_eq_false, Nat.reduceAdd, Nat.reduceLT, Nat.reduceEqDiff, Nat.reduceLeDiff, Nat.reduceSub, Nat.reduceMul]
          · have hbn : (bs.length : Int) = 0 := by
              cases hbs : bs with
              | nil => rfl
              | cons b r => exact absurd (hri b r hbs rfl) hok
            simp (config := {contextual := true}) only [go_sem, ↓reduceIte, reduceCtorEq, Bool.false_eq_true, Bool.true_eq_false, Nat.reduceAdd, Nat.reduceLT, Nat.reduceEqDiff, Nat.reduceLeDiff, Nat.reduceSub, Nat.reduceMul, hok, hbn]
            refine V.call rfl rfl (by simp [dOK]) ⟨11, [], by simp only [go_sem, ↓reduceIte, reduceCtorEq, Bool.false_eq_true, Bool.true_eq_false, Nat.reduceAdd, Nat.reduceLT, Nat.reduceEqDiff, Nat.reduceLeDiff, Nat.reduceSub, Nat.reduceMul], ⟨_, rfl, rfl, rfl⟩, .inl ⟨[], _, .inl (by simp only [go_sem, ↓reduceIte, reduceCtorEq, Bool.false_eq_true, Bool.true_eq_false, Nat.reduceAdd, Nat.reduceLT, Nat.reduceEqDiff, Nat.reduceLeDiff, Nat.reduceSub, Nat.reduceMul]), aw, .inl ⟨_, rfl, rfl, rfl, rfl⟩⟩⟩ ?_
            refine V.exec 400 ?_
            simp (config := {contextual := true}) only [go_sem, ↓reduceIte, reduceCtorEq, Bool.false_eq_true, Bool.true_eq_false, Nat.reduceAdd, Nat.reduceLT, Nat.reduceEqDiff, Nat.reduceLeDiff, Nat.reduceSub, Nat.reduceMul]
        · obtain ⟨rfl, rfl⟩ := her he
          have hn0 : n = [] := (allV_ends hR he)
          subst hn0
          have z00 : ((0 : Nat) : Int) = 0 := rfl
          have hwz : IntKind.i64.wrap ((0 : Int) + 0) = 0 := by decide
          simp (config := {contextual := true}) only [go_sem, ↓reduceIte, reduceCtorEq, Bool.false_eq_true, Bool.true_eq_false, Nat.reduceAdd, Nat.reduceLT, Nat.reduceEqDiff, Nat.reduceLeDiff, Nat.reduceSub, Nat.reduceMul, he, List.map_nil, List.length_nil, z00, hwz, decide_true]
          refine V.call rfl rfl (by simp [dOK]) ⟨17, [], by simp only [go_sem, ↓reduceIte, reduceCtorEq, Bool.false_eq_true, Bool.true_eq_false, Nat.reduceAdd, Nat.reduceLT, Nat.reduceEqDiff, Nat.reduceLeDiff, Nat.reduceSub, Nat.reduceMul], ⟨_, rfl, rfl, rfl⟩, .inl ⟨[.row (p.map Pair.pv), .row (p.map Pair.pv)], _, .inl (by simp only [go_sem, ↓reduceIte, reduceCtorEq, Bool.false_eq_true, Bool.true_eq_false, Nat.reduceAdd, Nat.reduceLT, Nat.reduceEqDiff, Nat.reduceLeDiff, Nat.reduceSub, Nat.reduceMul]), ref03_Same p p (by omega), .inl ⟨_, rfl, rfl, rfl, rfl⟩⟩⟩ ?_
          refine V.exec 400 ?_
          simp (config := {contextual := true}) only [go_sem, ↓reduceIte, reduceCtorEq, Bool.false_eq_true, Bool.true_eq_false, Nat.reduceAdd, Nat.reduceLT, Nat.reduceEqDiff, Nat.reduceLeDiff, Nat.reduceSub, Nat.reduceMul, decide_true]
          refine V.call rfl rfl (by simp [dOK]) ⟨11, [], by simp only [go_sem, ↓reduceIte, reduceCtorEq, Bool.false_eq_true, Bool.true_eq_false, Nat.reduceAdd, Nat.reduceLT, Nat.reduceEqDiff, Nat.reduceLeDiff, Nat.reduceSub, Nat.reduceMul], ⟨_, rfl, rfl, rfl⟩, .inl ⟨[], _, .inl (by simp only [go_sem, ↓reduceIte, reduceCtorEq, Bool.false_eq_true, Bool.true_eq_false, Nat.reduceAdd, Nat.reduceLT, Nat.reduceEqDiff, Nat.reduceLeDiff, Nat.reduceSub, Nat.reduceMul]), aw, .inl ⟨_, rfl, rfl, rfl, rfl⟩⟩⟩ ?_
          refine V.exec 400 ?_
          simp (config := {contextual := true}) only [go_sem, ↓reduceIte, reduceCtorEq, Bool.false_eq_true, Bool.true_eq_false, Nat.reduceAdd, Nat.reduceLT, Nat.reduceEqDiff, Nat.reduceLeDiff, Nat.reduceSub, Nat.reduceMul]
    · have h10' : (10 : Int) < (bs.length : Int) := by omega
      simp (config := {contextual := true}) only [go_sem, ↓reduceIte, reduceCtorEq, Bool.false_eq_true, Bool.true_eq_false, Nat.reduceAdd, Nat.reduceLT, Nat.reduceEqDiff, Nat.reduceLeDiff, Nat.reduceSub, Nat.reduceMul, h1, h10']
      refine V.call rfl rfl (by simp [dOK]) ⟨11, [], by simp only [go_sem, ↓reduceIte, reduceCtorEq, Bool.false_eq_true, Bool.true_eq_false, Nat.reduceAdd, Nat.reduceLT, Nat.reduceEqDiff, Nat.reduceLeDiff, Nat.reduceSub, Nat.reduceMul], ⟨_, rfl, rfl, rfl⟩, .inl ⟨[], _, .inl (by simp only [go_sem, ↓reduceIte, reduceCtorEq, Bool.false_eq_true, Bool.true_eq_false, Nat.reduceAdd, Nat.reduceLT, Nat.reduceEqDiff, Nat.reduceLeDiff, Nat.reduceSub, Nat.reduceMul]), aw, .inl ⟨_, rfl, rfl, rfl, rfl⟩⟩⟩ ?_
      refine V.exec 400 ?_
      simp (config := {contextual := true}) only [go_sem, ↓reduceIte, reduceCtorEq, Bool.false_eq_true, Bool.true_eq_false, Nat.reduceAdd, Nat.reduceLT, Nat.reduceEqDiff, Nat.reduceLeDiff, Nat.reduceSub, Nat.reduceMul]
  · simp (config := {contextual := true}) only [go_sem, ↓reduceIte, reduceCtorEq, Bool.false_eq_true, Bool.true_eq_false, Nat.reduceAdd, Nat.reduceLT, Nat.reduceEqDiff, Nat.reduceLeDiff, Nat.reduceSub, Nat.reduceMul, h1]
    refine V.call rfl rfl (by simp [dOK]) ⟨11, [], by simp only [go_sem, ↓reduceIte, reduceCtorEq, Bool.false_eq_true, Bool.true_eq_false, Nat.reduceAdd, Nat.reduceLT, Nat.reduceEqDiff, Nat.reduceLeDiff, Nat.reduceSub, Nat.reduceMul], ⟨_, rfl, rfl, rfl⟩, .inl ⟨[], _, .inl (by simp only [go_sem, ↓reduceIte, reduceCtorEq, Bool.false_eq_true, Bool.true_eq_false, Nat.reduceAdd, Nat.reduceLT, Nat.reduceEqDiff, Nat.reduceLeDiff, Nat.reduceSub, Nat.reduceMul]), aw, .inl ⟨_, rfl, rfl, rfl, rfl⟩⟩⟩ ?_
    refine V.exec 400 ?_
    simp (config := {contextual := true}) only [go_sem, ↓reduceIte, reduceCtorEq, Bool.false_eq_true, Bool.true_eq_false, Nat.reduceAdd, Nat.reduceLT, Nat.reduceEqDiff, Nat.reduceLeDiff, Nat.reduceSub, Nat.reduceMul]
theorem ctLeads (xs0 : List PV) (l0 : xs0.length ≤ maxLen) (h0 : ∀ x ∈ xs0, ∃ qs, x = .agg qs ∧ qs.map PV.kd = [.str, .str] ∧ ∀ q ∈ qs, q.wfv) (a1 : Int) (w1 : (Lit.int .i64 a1).wf = true)
    (xs2 : List (List PV)) (l2 : xs2.length ≤ maxLen) (h2 : ∀ xs ∈ xs2, xs.length ≤ maxLen ∧ ∀ x ∈ xs, ∃ qs, x = .agg qs ∧ qs.map PV.kd = [.int .i64, .str, .str, .int .u64] ∧ ∀ q ∈ qs, q.wfv) :
    Ct Try.prog 8 (YtglpemnejngkaaaVm.ops [.row xs0, .int .i64 a1, .row (xs2.map PV.row)]) (.vals [.bool true]) := by
  obtain ⟨l, rfl⟩ := pair_of xs0 h0
  obtain ⟨bs, hbs, hbl, hb⟩ := notes_rows xs2 h2
  rw [hbs]
  exact law_Leads l a1 bs (by simpa using l0) (by rw [hbl]; exact l2) hb (int_bot w1) (int_top w1)
end Go.Proofs.Ytglpemnejngkaaa
