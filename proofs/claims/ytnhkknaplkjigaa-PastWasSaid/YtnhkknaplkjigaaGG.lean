/- A part of a proof: functions of the program, walked. -/
import Derived.Test.YtnhkknaplkjigaaGF
import Derived.Test.YtnhkknaplkjigaaGE
set_option linter.unusedVariables false
set_option linter.unusedSimpArgs false
namespace Go.Proofs.Ytnhkknaplkjigaa
open Go Go.Proofs Go.Proofs.YtnhkknaplkjigaaVm Go.Proofs.Ytnhkknaplkjigaa.Ty

theorem eqSide : EqT Try.prog 88 [.bool, .str] := EqT.of (by kernel_rfl) (by kernel_rfl) (by kernel_rfl)
theorem side_inj (a b : List UInt8) (p q : Bool) : (PV.agg [.bool (decide (p = true)), .str a] = PV.agg [.bool (decide (q = true)), .str b]) = (a = b ∧ p = q) := by
  cases p <;> cases q <;> simp

set_option maxRecDepth 10000 in
set_option maxHeartbeats 16000000 in
theorem change_Do (l : List Pair) (cs : List Change) (hl : l.length ≤ 200000) (hn : cs.length ≤ 200000) : Ct Try.prog 32 (YtnhkknaplkjigaaVm.ops [.row (l.map Pair.pv), .row (cs.map Change.pv)]) (.vals [.row ((doV l cs).1.map Pair.pv), .int .i64 (doV l cs).2]) := by
  have h2 : ∀ (l : List Pair), ∀ x ∈ l.map Pair.pv, x.cells.length = 2 := fun l x hx => by
    obtain ⟨s, _, rfl⟩ := List.mem_map.1 hx
    rfl
  have ccl := (ClonePair (l.map Pair.pv) (h2 l) (by simp; omega)).forget
  refine Ct.of_V Try.func32 rfl (by simp [YtnhkknaplkjigaaVm.ops, Try.f32]) ?_
  refine V.exec 400 ?_
  simp (config := {contextual := true}) only [go_sem, ↓reduceIte, reduceCtorEq, Bool.false_eq_true, Bool.true_eq_false, Nat.reduceAdd, Nat.reduceLT, Nat.reduceEqDiff, Nat.reduceLeDiff, Nat.reduceSub, Nat.reduceMul, Try.f32]
  refine V.call rfl rfl (by simp [dOK]) ⟨40, [], by simp only [go_sem, ↓reduceIte, reduceCtorEq, Bool.false_eq_true, Bool.true_eq_false, Nat.reduceAdd, Nat.reduceLT, Nat.reduceEqDiff, Nat.reduceLeDiff, Nat.reduceSub, Nat.reduceMul], ⟨_, rfl, rfl, rfl⟩, .inl ⟨[.row (l.map Pair.pv)], _, .inl (by simp only [go_sem, ↓reduceIte, reduceCtorEq, Bool.false_eq_true, Bool.true_eq_false, Nat.reduceAdd, Nat.reduceLT, Nat.reduceEqDiff, Nat.reduceLeDiff, Nat.reduceSub, Nat.reduceMul]), ccl, .inr (.inl ⟨_, rfl, rfl, rfl⟩)⟩⟩ ?_
  refine V.exec 400 ?_
  simp (config := {contextual := true}) only [go_sem, ↓reduceIte, reduceCtorEq, Bool.false_eq_true, Bool.true_eq_false, Nat.reduceAdd, Nat.reduceLT, Nat.reduceEqDiff, Nat.reduceLeDiff, Nat.reduceSub, Nat.reduceMul]
  refine V.call rfl rfl (by simp [dOK]) ⟨18, [], by simp only [go_sem, ↓reduceIte, reduceCtorEq, Bool.false_eq_true, Bool.true_eq_false, Nat.reduceAdd, Nat.reduceLT, Nat.reduceEqDiff, Nat.reduceLeDiff, Nat.reduceSub, Nat.reduceMul], ⟨_, rfl, rfl, rfl⟩, .inl ⟨[.row (l.map Pair.pv)], _, .inl (by simp only [go_sem, ↓reduceIte, reduceCtorEq, Bool.false_eq_true, Bool.true_eq_false, Nat.reduceAdd, Nat.reduceLT, Nat.reduceEqDiff, Nat.reduceLeDiff, Nat.reduceSub, Nat.reduceMul]), leaf_Right l (by omega), .inl ⟨_, rfl, rfl, rfl, rfl⟩⟩⟩ ?_
  refine V.exec 400 ?_
  by_cases hok : pairsOk l
  · simp (config := {contextual := true}) only [go_sem, ↓reduceIte, reduceCtorEq, Bool.false_eq_true, Bool.true_eq_false, Nat.reduceAdd, Nat.reduceLT, Nat.reduceEqDiff, Nat.reduceLeDiff, Nat.reduceSub, Nat.reduceMul, hok]
    refine V.loop (fun m ls os => ∃ (i : Nat) (cur : List Pair), i ≤ cs.length ∧ m = cs.length - i ∧ pairsOk cur ∧ cur.length ≤ l.length + i ∧ doGo cur (cs.drop i) = doGo l cs ∧
        ls = [(0, .val (.row (l.map Pair.pv))), (6, .val (.row (cur.map Pair.pv))), (16, .val (.row (cs.map Change.pv))), (17, .val (.int .i64 cs.length)), (18, .val (.int .i64 i))] ∧ os = []) 0 cs.length
      [(0, .val (.row (l.map Pair.pv))), (6, .val (.row (l.map Pair.pv))), (16, .val (.row (cs.map Change.pv))), (17, .val (.int .i64 cs.length)), (18, .val (.int .i64 0))] [] []
      ⟨0, l, Nat.zero_le _, rfl, hok, Nat.le_refl _, rfl, rfl, rfl⟩ (by simp only [go_sem, ↓reduceIte, reduceCtorEq, Bool.false_eq_true, Bool.true_eq_false, Nat.reduceAdd, Nat.reduceLT, Nat.reduceEqDiff, Nat.reduceLeDiff, Nat.reduceSub, Nat.reduceMul]) ?_
    rintro m ls os ⟨i, cur, hi, rfl, hco, hcl, hca, rfl, rfl⟩
    refine V.exec 400 ?_
    by_cases hlt : i < cs.length
    · have hlt' : (i : Int) < (cs.length : Int) := by omega
      obtain ⟨x, hx⟩ : ∃ x, cs[i]? = some x := ⟨_, List.getElem?_eq_getElem hlt⟩
      have hw : IntKind.i64.wrap ((i : Int) + 1) = ((i + 1 : Nat) : Int) := by rw [wrap_small3] <;> omega
      rw [drop_of_get hx, doGo] at hca
      have hbad : ¬ (x.ok ∧ fitC cur x) → doV l cs = (l, 1) := fun h => by
        rw [if_neg h] at hca
        unfold doV; rw [if_pos hok, ← hca]
      have hgood := fun h : x.ok ∧ fitC cur x => if_pos h ▸ hca
      simp (config := {contextual := true}) only [go_sem, ↓reduceIte, reduceCtorEq, Bool.false_eq_true, Bool.true_eq_false, Nat.reduceAdd, Nat.reduceLT, Nat.reduceEqDiff, Nat.reduceLeDiff, Nat.reduceSub, Nat.reduceMul, hlt', hx, Change.pv]
      refine DV.call [] [] (by simp only [go_sem, ↓reduceIte, reduceCtorEq, Bool.false_eq_true, Bool.true_eq_false, Nat.reduceAdd, Nat.reduceLT, Nat.reduceEqDiff, Nat.reduceLeDiff, Nat.reduceSub, Nat.reduceMul, Change.pv]) (by simp [dOK]) ⟨29, [], by simp only [go_sem, ↓reduceIte, reduceCtorEq, Bool.false_eq_true, Bool.true_eq_false, Nat.reduceAdd, Nat.reduceLT, Nat.reduceEqDiff, Nat.reduceLeDiff, Nat.reduceSub, Nat.reduceMul, Change.pv], ⟨_, rfl, rfl, rfl⟩, .inl ⟨[x.pv], _, .inl (by simp only [go_sem, ↓reduceIte, reduceCtorEq, Bool.false_eq_true, Bool.true_eq_false, Nat.reduceAdd, Nat.reduceLT, Nat.reduceEqDiff, Nat.reduceLeDiff, Nat.reduceSub, Nat.reduceMul, Change.pv]), flat_May x, .inl ⟨_, rfl, rfl, rfl, rfl⟩⟩⟩ (by simp only [go_sem, ↓reduceIte, reduceCtorEq, Bool.false_eq_true, Bool.true_eq_false, Nat.reduceAdd, Nat.reduceLT, Nat.reduceEqDiff, Nat.reduceLeDiff, Nat.reduceSub, Nat.reduceMul, Change.pv]) (by simp only [go_sem, ↓reduceIte, reduceCtorEq, Bool.false_eq_true, Bool.true_eq_false, Nat.reduceAdd, Nat.reduceLT, Nat.reduceEqDiff, Nat.reduceLeDiff, Nat.reduceSub, Nat.reduceMul, Change.pv]) (by simp only [go_sem, ↓reduceIte, reduceCtorEq, Bool.false_eq_true, Bool.true_eq_false, Nat.reduceAdd, Nat.reduceLT, Nat.reduceEqDiff, Nat.reduceLeDiff, Nat.reduceSub, Nat.reduceMul, Change.pv]) (by simp) ?_
      refine DV.exec 400 ?_
      by_cases hm : x.ok
      · have co := change_of cur x.key (by omega)
        obtain ⟨gv, gh, hG⟩ : ∃ a b, getV cur x.key = (a, b) := ⟨_, _, rfl⟩
        rw [hG] at co
        simp (config := {contextual := true}) only [go_sem, ↓reduceIte, reduceCtorEq, Bool.false_eq_true, Bool.true_eq_false, Nat.reduceAdd, Nat.reduceLT, Nat.reduceEqDiff, Nat.reduceLeDiff, Nat.reduceSub, Nat.reduceMul, hm, Change.pv]
        refine DV.call [] [] (by simp only [go_sem, ↓reduceIte, reduceCtorEq, Bool.false_eq_true, Bool.true_eq_false, Nat.reduceAdd, Nat.reduceLT, Nat.reduceEqDiff, Nat.reduceLeDiff, Nat.reduceSub, Nat.reduceMul, sideV]) (by simp [dOK]) ⟨47, [], by simp only [go_sem, ↓reduceIte, reduceCtorEq, Bool.false_eq_true, Bool.true_eq_false, Nat.reduceAdd, Nat.reduceLT, Nat.reduceEqDiff, Nat.reduceLeDiff, Nat.reduceSub, Nat.reduceMul, sideV], ⟨_, rfl, rfl, rfl⟩, .inl ⟨[.row (cur.map Pair.pv), .str x.key], _, .inl (by simp only [go_sem, ↓reduceIte, reduceCtorEq, Bool.false_eq_true, Bool.true_eq_false, Nat.reduceAdd, Nat.reduceLT, Nat.reduceEqDiff, Nat.reduceLeDiff, Nat.reduceSub, Nat.reduceMul, sideV]), co, .inr (.inl ⟨_, rfl, rfl, rfl⟩)⟩⟩ (by simp only [go_sem, ↓reduceIte, reduceCtorEq, Bool.false_eq_true, Bool.true_eq_false, Nat.reduceAdd, Nat.reduceLT, Nat.reduceEqDiff, Nat.reduceLeDiff, Nat.reduceSub, Nat.reduceMul, sideV]) (by simp only [go_sem, ↓reduceIte, reduceCtorEq, Bool.false_eq_true, Bool.true_eq_false, Nat.reduceAdd, Nat.reduceLT, Nat.reduceEqDiff, Nat.reduceLeDiff, Nat.reduceSub, Nat.reduceMul, sideV]) (by simp only [go_sem, ↓reduceIte, reduceCtorEq, Bool.false_eq_true, Bool.true_eq_false, Nat.reduceAdd, Nat.reduceLT, Nat.reduceEqDiff, Nat.reduceLeDiff, Nat.reduceSub, Nat.reduceMul, sideV]) (by simp) ?_
        refine DV.exec 400 ?_
        simp (config := {contextual := true}) only [go_sem, ↓reduceIte, reduceCtorEq, Bool.false_eq_true, Bool.true_eq_false, Nat.reduceAdd, Nat.reduceLT, Nat.reduceEqDiff, Nat.reduceLeDiff, Nat.reduceSub, Nat.reduceMul, hm, Change.pv]
        refine DV.call [] [] (by simp only [go_sem, ↓reduceIte, reduceCtorEq, Bool.false_eq_true, Bool.true_eq_false, Nat.reduceAdd, Nat.reduceLT, Nat.reduceEqDiff, Nat.reduceLeDiff, Nat.reduceSub, Nat.reduceMul, sideV, Change.pv]) (by simp [dOK]) ⟨48, [], by simp only [go_sem, ↓reduceIte, reduceCtorEq, Bool.false_eq_true, Bool.true_eq_false, Nat.reduceAdd, Nat.reduceLT, Nat.reduceEqDiff, Nat.reduceLeDiff, Nat.reduceSub, Nat.reduceMul, sideV, Change.pv], ⟨_, rfl, rfl, rfl⟩, .inl ⟨[x.pv], _, .inl (by simp only [go_sem, ↓reduceIte, reduceCtorEq, Bool.false_eq_true, Bool.true_eq_false, Nat.reduceAdd, Nat.reduceLT, Nat.reduceEqDiff, Nat.reduceLeDiff, Nat.reduceSub, Nat.reduceMul, sideV, Change.pv]), change_ahead x, .inr (.inl ⟨_, rfl, rfl, rfl⟩)⟩⟩ (by simp only [go_sem, ↓reduceIte, reduceCtorEq, Bool.false_eq_true, Bool.true_eq_false, Nat.reduceAdd, Nat.reduceLT, Nat.reduceEqDiff, Nat.reduceLeDiff, Nat.reduceSub, Nat.reduceMul, sideV, Change.pv]) (by simp only [go_sem, ↓reduceIte, reduceCtorEq, Bool.false_eq_true, Bool.true_eq_false, Nat.reduceAdd, Nat.reduceLT, Nat.reduceEqDiff, Nat.reduceLeDiff, Nat.reduceSub, Nat.reduceMul, sideV, Change.pv]) (by simp only [go_sem, ↓reduceIte, reduceCtorEq, Bool.false_eq_true, Bool.true_eq_false, Nat.reduceAdd, Nat.reduceLT, Nat.reduceEqDiff, Nat.reduceLeDiff, Nat.reduceSub, Nat.reduceMul, sideV, Change.pv]) (by simp) ?_
        refine DV.exec 400 ?_
        by_cases hf : gv = x.bef ∧ gh = x.had
        · have hfit : fitC cur x := by unfold fitC; rw [hG, hf.1, hf.2]
          have hgo := hgood ⟨hm, hfit⟩
          have hnc := noteC_ok hm
          have ca := leaf_Apply cur [noteC x] (by omega) (by simp)
          rw [applyV_ok hco ((notesOk_one _).2 hnc)] at ca
          have e1 : appV cur [noteC x] = oneV cur (noteC x) := rfl
          rw [e1] at ca
          simp only at ca
          have hoo := oneV_pairsOk hco hnc
          have hol := oneV_len ((pairsOk_iff cur).1 hco).1 (noteC x)
          generalize oneV cur (noteC x) = nxt at *
          cases hh : x.has with
          | true =>
            have e2 : noteC x = ⟨1, x.key, x.aft, 0⟩ := by unfold noteC; rw [if_pos hh]
            rw [e2] at ca
            simp (config := {contextual := true}) only [go_sem, ↓reduceIte, reduceCtorEq, Bool.false_eq_true, Bool.true_eq_false, Nat.reduceAdd, Nat.reduceLT, Nat.reduceEqDiff, Nat.reduceLeDiff, Nat.reduceSub, Nat.reduceMul, hm, Change.pv, sideV, eqSide, side_inj, hf, hh, decide_true]
            refine ⟨by kernel_rfl, ?_⟩
            refine V.call rfl rfl (by simp [dOK]) ⟨49, [], by simp only [go_sem, ↓reduceIte, reduceCtorEq, Bool.false_eq_true, Bool.true_eq_false, Nat.reduceAdd, Nat.reduceLT, Nat.reduceEqDiff, Nat.reduceLeDiff, Nat.reduceSub, Nat.reduceMul], ⟨_, rfl, rfl, rfl⟩, .inl ⟨[.row (cur.map Pair.pv), .row ([(⟨1, x.key, x.aft, 0⟩ : Note)].map Note.pv)], _, .inl (by simp only [go_sem, ↓reduceIte, reduceCtorEq, Bool.false_eq_true, Bool.true_eq_false, Nat.reduceAdd, Nat.reduceLT, Nat.reduceEqDiff, Nat.reduceLeDiff, Nat.reduceSub, Nat.reduceMul, Note.pv, List.map_cons, List.map_nil]), ca, .inr (.inl ⟨_, rfl, rfl, rfl⟩)⟩⟩ ?_
            refine V.exec 400 ?_
            simp (config := {contextual := true}) only [go_sem, ↓reduceIte, reduceCtorEq, Bool.false_eq_true, Bool.true_eq_false, Nat.reduceAdd, Nat.reduceLT, Nat.reduceEqDiff, Nat.reduceLeDiff, Nat.reduceSub, Nat.reduceMul, hw]
            exact ⟨cs.length - (i + 1), _, [], [], by omega, ⟨i + 1, nxt, by omega, rfl, hoo, by omega, hgo, rfl, rfl⟩, by simp only [go_sem, ↓reduceIte, reduceCtorEq, Bool.false_eq_true, Bool.true_eq_false, Nat.reduceAdd, Nat.reduceLT, Nat.reduceEqDiff, Nat.reduceLeDiff, Nat.reduceSub, Nat.reduceMul]⟩
          | false =>
            have e2 : noteC x = ⟨2, x.key, [], 0⟩ := by unfold noteC; rw [if_neg (by rw [hh]; decide)]
            rw [e2] at ca
            simp (config := {contextual := true}) only [go_sem, ↓reduceIte, reduceCtorEq, Bool.false_eq_true, Bool.true_eq_false, Nat.reduceAdd, Nat.reduceLT, Nat.reduceEqDiff, Nat.reduceLeDiff, Nat.reduceSub, Nat.reduceMul, hm, Change.pv, sideV, eqSide, side_inj, hf, hh, decide_false]
            refine ⟨by kernel_rfl, ?_⟩
            refine V.call rfl rfl (by simp [dOK]) ⟨49, [], by simp only [go_sem, ↓reduceIte, reduceCtorEq, Bool.false_eq_true, Bool.true_eq_false, Nat.reduceAdd, Nat.reduceLT, Nat.reduceEqDiff, Nat.reduceLeDiff, Nat.reduceSub, Nat.reduceMul], ⟨_, rfl, rfl, rfl⟩, .inl ⟨[.row (cur.map Pair.pv), .row ([(⟨2, x.key, [], 0⟩ : Note)].map Note.pv)], _, .inl (by simp only [go_sem, ↓reduceIte, reduceCtorEq, Bool.false_eq_true, Bool.true_eq_false, Nat.reduceAdd, Nat.reduceLT, Nat.reduceEqDiff, Nat.reduceLeDiff, Nat.reduceSub, Nat.reduceMul, Note.pv, List.map_cons, List.map_nil]), ca, .inr (.inl ⟨_, rfl, rfl, rfl⟩)⟩⟩ ?_
            refine V.exec 400 ?_
            simp (config := {contextual := true}) only [go_sem, ↓reduceIte, reduceCtorEq, Bool.false_eq_true, Bool.true_eq_false, Nat.reduceAdd, Nat.reduceLT, Nat.reduceEqDiff, Nat.reduceLeDiff, Nat.reduceSub, Nat.reduceMul, hw]
            exact ⟨cs.length - (i + 1), _, [], [], by omega, ⟨i + 1, nxt, by omega, rfl, hoo, by omega, hgo, rfl, rfl⟩, by simp only [go_sem, ↓reduceIte, reduceCtorEq, Bool.false_eq_true, Bool.true_eq_false, Nat.reduceAdd, Nat.reduceLT, Nat.reduceEqDiff, Nat.reduceLeDiff, Nat.reduceSub, Nat.reduceMul]⟩
        · have hv := hbad fun h => hf (by have := h.2; unfold fitC at this; rw [hG, Prod.mk.injEq] at this; exact this)
          simp (config := {contextual := true}) only [go_sem, ↓reduceIte, reduceCtorEq, Bool.false_eq_true, Bool.true_eq_false, Nat.reduceAdd, Nat.reduceLT, Nat.reduceEqDiff, Nat.reduceLeDiff, Nat.reduceSub, Nat.reduceMul, hm, Change.pv, sideV, eqSide, side_inj, hf, hv]
          refine ⟨by kernel_rfl, ?_⟩
          refine V.call rfl rfl (by simp [dOK]) ⟨40, [], by simp only [go_sem, ↓reduceIte, reduceCtorEq, Bool.false_eq_true, Bool.true_eq_false, Nat.reduceAdd, Nat.reduceLT, Nat.reduceEqDiff, Nat.reduceLeDiff, Nat.reduceSub, Nat.reduceMul], ⟨_, rfl, rfl, rfl⟩, .inl ⟨[.row (l.map Pair.pv)], _, .inl (by simp only [go_sem, ↓reduceIte, reduceCtorEq, Bool.false_eq_true, Bool.true_eq_false, Nat.reduceAdd, Nat.reduceLT, Nat.reduceEqDiff, Nat.reduceLeDiff, Nat.reduceSub, Nat.reduceMul]), ccl, .inr (.inl ⟨_, rfl, rfl, rfl⟩)⟩⟩ ?_
          refine V.exec 400 ?_
          simp (config := {contextual := true}) only [go_sem, ↓reduceIte, reduceCtorEq, Bool.false_eq_true, Bool.true_eq_false, Nat.reduceAdd, Nat.reduceLT, Nat.reduceEqDiff, Nat.reduceLeDiff, Nat.reduceSub, Nat.reduceMul, hv]
      · have hv := hbad fun h => hm h.1
        simp (config := {contextual := true}) only [go_sem, ↓reduceIte, reduceCtorEq, Bool.false_eq_true, Bool.true_eq_false, Nat.reduceAdd, Nat.reduceLT, Nat.reduceEqDiff, Nat.reduceLeDiff, Nat.reduceSub, Nat.reduceMul, hm, Change.pv, hv]
        refine ⟨by kernel_rfl, ?_⟩
        refine V.call rfl rfl (by simp [dOK]) ⟨40, [], by simp only [go_sem, ↓reduceIte, reduceCtorEq, Bool.false_eq_true, Bool.true_eq_false, Nat.reduceAdd, Nat.reduceLT, Nat.reduceEqDiff, Nat.reduceLeDiff, Nat.reduceSub, Nat.reduceMul], ⟨_, rfl, rfl, rfl⟩, .inl ⟨[.row (l.map Pair.pv)], _, .inl (by simp only [go_sem, ↓reduceIte, reduceCtorEq, Bool.false_eq_true, Bool.true_eq_false, Nat.reduceAdd, Nat.reduceLT, Nat.reduceEqDiff, Nat.reduceLeDiff, Nat.reduceSub, Nat.reduceMul]), ccl, .inr (.inl ⟨_, rfl, rfl, rfl⟩)⟩⟩ ?_
        refine V.exec 400 ?_
        simp (config := {contextual := true}) only [go_sem, ↓reduceIte, reduceCtorEq, Bool.false_eq_true, Bool.true_eq_false, Nat.reduceAdd, Nat.reduceLT, Nat.reduceEqDiff, Nat.reduceLeDiff, Nat.reduceSub, Nat.reduceMul, hv]
    · have hlt' : ¬ (i : Int) < (cs.length : Int) := by omega
      have hd : cs.drop i = [] := List.drop_eq_nil_of_le (by omega)
      rw [hd, doGo] at hca
      have hv : doV l cs = (cur, 0) := by unfold doV; rw [if_pos hok, ← hca]
      simp (config := {contextual := true}) only [go_sem, ↓reduceIte, reduceCtorEq, Bool.false_eq_true, Bool.true_eq_false, Nat.reduceAdd, Nat.reduceLT, Nat.reduceEqDiff, Nat.reduceLeDiff, Nat.reduceSub, Nat.reduceMul, hlt', hv]
  · have hv : doV l cs = (l, 1) := by unfold doV; rw [if_neg hok]
    simp (config := {contextual := true}) only [go_sem, ↓reduceIte, reduceCtorEq, Bool.false_eq_true, Bool.true_eq_false, Nat.reduceAdd, Nat.reduceLT, Nat.reduceEqDiff, Nat.reduceLeDiff, Nat.reduceSub, Nat.reduceMul, hok, hv]

theorem batch_Right1 (x : Note) : Ct Try.prog 57 (YtnhkknaplkjigaaVm.ops [x.pv]) (.vals [.bool (decide (¬ x.ok))]) := by
  refine Ct.of_V Try.func57 rfl (by simp [YtnhkknaplkjigaaVm.ops, Try.f57]) ?_
  refine V.exec 400 ?_
  simp (config := {contextual := true}) only [go_sem, ↓reduceIte, reduceCtorEq, Bool.false_eq_true, Bool.true_eq_false, Nat.reduceAdd, Nat.reduceLT, Nat.reduceEqDiff, Nat.reduceLeDiff, Nat.reduceSub, Nat.reduceMul, Try.f57, Note.pv]
  refine V.call rfl rfl (by simp [dOK]) ⟨58, [], by simp only [go_sem, ↓reduceIte, reduceCtorEq, Bool.false_eq_true, Bool.true_eq_false, Nat.reduceAdd, Nat.reduceLT, Nat.reduceEqDiff, Nat.reduceLeDiff, Nat.reduceSub, Nat.reduceMul], ⟨_, rfl, rfl, rfl⟩, .inl ⟨[x.pv], _, .inl (by simp only [go_sem, ↓reduceIte, reduceCtorEq, Bool.false_eq_true, Bool.true_eq_false, Nat.reduceAdd, Nat.reduceLT, Nat.reduceEqDiff, Nat.reduceLeDiff, Nat.reduceSub, Nat.reduceMul, Note.pv]), note_Right x, .inl ⟨_, rfl, rfl, rfl, rfl⟩⟩⟩ ?_
  refine V.exec 400 ?_
  simp (config := {contextual := true}) only [go_sem, ↓reduceIte, reduceCtorEq, Bool.false_eq_true, Bool.true_eq_false, Nat.reduceAdd, Nat.reduceLT, Nat.reduceEqDiff, Nat.reduceLeDiff, Nat.reduceSub, Nat.reduceMul]
theorem Contains_badB (ns : List Note) (hl : ns.length ≤ 1000000) : Ct Try.prog 56 (YtnhkknaplkjigaaVm.ops [.row (ns.map Note.pv), .fn 57 []]) (.vals [.bool (decide (¬ notesAll ns))]) := by
  unfold notesAll
  obtain ⟨r, hr, hr1, hr2, hr3⟩ := first_of (fun y => decide (¬ (Note.of y).ok)) (ns.map Note.pv)
  have hi := IndexFuncNote (ns.map Note.pv) 57 [] (fun y => decide (¬ (Note.of y).ok)) (fun y hy => by
      obtain ⟨s, _, rfl⟩ := List.mem_map.1 hy
      exact ⟨rfl, rfl⟩) (by simpa using hl) ⟨_, rfl, rfl, rfl⟩ (fun y hy => by
      obtain ⟨s, _, rfl⟩ := List.mem_map.1 hy
      rw [Note.of_pv]
      simpa using batch_Right1 s) r hr hr1 hr2
  refine Ct.of_V Try.func56 rfl (by simp [YtnhkknaplkjigaaVm.ops, Try.f56]) ?_
  refine V.exec 400 ?_
  simp (config := {contextual := true}) only [go_sem, ↓reduceIte, reduceCtorEq, Bool.false_eq_true, Bool.true_eq_false, Nat.reduceAdd, Nat.reduceLT, Nat.reduceEqDiff, Nat.reduceLeDiff, Nat.reduceSub, Nat.reduceMul, Try.f56]
  refine V.call rfl rfl (by simp [dOK]) ⟨66, [], by simp only [go_sem, ↓reduceIte, reduceCtorEq, Bool.false_eq_true, Bool.true_eq_false, Nat.reduceAdd, Nat.reduceLT, Nat.reduceEqDiff, Nat.reduceLeDiff, Nat.reduceSub, Nat.reduceMul], ⟨_, rfl, rfl, rfl⟩, .inl ⟨[.row (ns.map Note.pv), .fn 57 []], _, .inl (by simp only [go_sem, ↓reduceIte, reduceCtorEq, Bool.false_eq_true, Bool.true_eq_false, Nat.reduceAdd, Nat.reduceLT, Nat.reduceEqDiff, Nat.reduceLeDiff, Nat.reduceSub, Nat.reduceMul]), hi, .inl ⟨_, rfl, rfl, rfl, rfl⟩⟩⟩ ?_
  refine V.exec 400 ?_
  simp (config := {contextual := true}) only [go_sem, ↓reduceIte, reduceCtorEq, Bool.false_eq_true, Bool.true_eq_false, Nat.reduceAdd, Nat.reduceLT, Nat.reduceEqDiff, Nat.reduceLeDiff, Nat.reduceSub, Nat.reduceMul]
  have e : (∃ y ∈ ns.map Note.pv, decide (¬ (Note.of y).ok) = true) ↔ ¬ ∀ x ∈ ns, x.ok := by
    constructor
    · rintro ⟨y, hy, hp⟩ hc
      obtain ⟨s, hs, rfl⟩ := List.mem_map.1 hy
      rw [Note.of_pv] at hp
      simp at hp
      exact hp (hc s hs)
    · intro h
      simp only [Classical.not_forall] at h
      obtain ⟨x, hx, hp⟩ := h
      exact ⟨x.pv, List.mem_map_of_mem hx, by rw [Note.of_pv]; simpa using hp⟩
  rw [e] at hr3
  rw [List.length_map] at hr3
  by_cases hc : ∀ x ∈ ns, x.ok
  · have : ¬ r < ns.length := fun h => (hr3.1 h) hc
    simp [this]
    exact hc
  · have h2 := hr3.2 hc
    simp [h2, hc]

theorem batch_Right (ns : List Note) (hl : ns.length ≤ 9223372036854775807) : Ct Try.prog 44 (YtnhkknaplkjigaaVm.ops [.row (ns.map Note.pv)]) (.vals [.bool (decide (batchOk ns))]) := by
  refine Ct.of_V Try.func44 rfl (by simp [YtnhkknaplkjigaaVm.ops, Try.f44]) ?_
  refine V.exec 400 ?_
  simp (config := {contextual := true}) only [go_sem, ↓reduceIte, reduceCtorEq, Bool.false_eq_true, Bool.true_eq_false, Nat.reduceAdd, Nat.reduceLT, Nat.reduceEqDiff, Nat.reduceLeDiff, Nat.reduceSub, Nat.reduceMul, Try.f44]
  by_cases h8 : ns.length ≤ 8
  · have h8' : (ns.length : Int) ≤ 8 := by omega
    simp (config := {contextual := true}) only [go_sem, ↓reduceIte, reduceCtorEq, Bool.false_eq_true, Bool.true_eq_false, Nat.reduceAdd, Nat.reduceLT, Nat.reduceEqDiff, Nat.reduceLeDiff, Nat.reduceSub, Nat.reduceMul, h8']
    refine V.call rfl rfl (by simp [dOK]) ⟨56, [], by simp only [go_sem, ↓reduceIte, reduceCtorEq, Bool.false_eq_true, Bool.true_eq_false, Nat.reduceAdd, Nat.reduceLT, Nat.reduceEqDiff, Nat.reduceLeDiff, Nat.reduceSub, Nat.reduceMul], ⟨_, rfl, rfl, rfl⟩, .inl ⟨[.row (ns.map Note.pv), .fn 57 []], _, .inl (by simp only [go_sem, ↓reduceIte, reduceCtorEq, Bool.false_eq_true, Bool.true_eq_false, Nat.reduceAdd, Nat.reduceLT, Nat.reduceEqDiff, Nat.reduceLeDiff, Nat.reduceSub, Nat.reduceMul]), Contains_badB ns (by omega), .inl ⟨_, rfl, rfl, rfl, rfl⟩⟩⟩ ?_
    refine V.exec 400 ?_
    simp (config := {contextual := true}) only [go_sem, ↓reduceIte, reduceCtorEq, Bool.false_eq_true, Bool.true_eq_false, Nat.reduceAdd, Nat.reduceLT, Nat.reduceEqDiff, Nat.reduceLeDiff, Nat.reduceSub, Nat.reduceMul]
    by_cases ha : notesAll ns
    · have : batchOk ns := ⟨h8, ha⟩
      simp [ha, this]
    · have : ¬ batchOk ns := fun h => ha h.2
      simp [ha, this]
  · have h8' : ¬ (ns.length : Int) ≤ 8 := by omega
    have : ¬ batchOk ns := fun h => h8 h.1
    simp (config := {contextual := true}) only [go_sem, ↓reduceIte, reduceCtorEq, Bool.false_eq_true, Bool.true_eq_false, Nat.reduceAdd, Nat.reduceLT, Nat.reduceEqDiff, Nat.reduceLeDiff, Nat.reduceSub, Nat.reduceMul, h8', this, decide_false]
end Go.Proofs.Ytnhkknaplkjigaa
set_option linter.unusedVariables false
set_option linter.unusedSimpArgs false
namespace Go.Proofs.Ytnhkknaplkjigaa
open Go Go.Proofs Go.Proofs.YtnhkknaplkjigaaVm Go.Proofs.Ytnhkknaplkjigaa.Ty

theorem Change.inj (s t : Change) : (s.pv = t.pv) = (s = t) := by
  obtain ⟨s1, s2, s3, s4, s5, s6⟩ := s
  obtain ⟨t1, t2, t3, t4, t5, t6⟩ := t
  cases s3 <;> cases s5 <;> cases t3 <;> cases t5 <;> simp [Change.pv]

theorem eqChange : EqT Try.prog 46 [.int .i64, .str, .bool, .str, .bool, .str] := EqT.of (by kernel_rfl) (by kernel_rfl) (by kernel_rfl)

theorem ofV_err {l : List Pair} {seq : Int} {n : Note} : (ofV l seq n).2 = 0 ∨ (ofV l seq n).2 = 1 ∨ (ofV l seq n).2 = 3 := by
  unfold ofV
  split
  · split
    · exact .inr (.inr rfl)
    · exact .inl rfl
  · exact .inr (.inl rfl)

set_option maxRecDepth 10000 in
set_option maxHeartbeats 16000000 in
theorem batch_Run (l : List Pair) (seq : Int) (ns : List Note) (hl : l.length ≤ 100000) (hn : ns.length ≤ 9223372036854775807) (hseq : seq ≤ 9223372036854775807) : Ct Try.prog 28 (YtnhkknaplkjigaaVm.ops [.row (l.map Pair.pv), .int .i64 seq, .row (ns.map Note.pv)]) (.vals [.row ((runV l seq ns).1.map Change.pv), .row ((runV l seq ns).2.1.map Pair.pv), .int .i64 (runV l seq ns).2.2]) := by
  have h2 : ∀ (l : List Pair), ∀ x ∈ l.map Pair.pv, x.cells.length = 2 := fun l x hx => by
    obtain ⟨s, _, rfl⟩ := List.mem_map.1 hx
    rfl
  have ccl := (ClonePair (l.map Pair.pv) (h2 l) (by simp; omega)).forget
  have hbad : ¬ (batchOk ns ∧ pairsOk l ∧ 0 ≤ seq ∧ seq ≤ 2147483647) → runV l seq ns = ([], l, 1) := fun h => by unfold runV; rw [if_neg h]
  refine Ct.of_V Try.func28 rfl (by simp [YtnhkknaplkjigaaVm.ops, Try.f28]) ?_
  refine V.exec 400 ?_
  simp (config := {contextual := true}) only [go_sem, ↓reduceIte, reduceCtorEq, Bool.false_eq_true, Bool.true_eq_false, Nat.reduceAdd, Nat.reduceLT, Nat.reduceEqDiff, Nat.reduceLeDiff, Nat.reduceSub, Nat.reduceMul, Try.f28]
  refine V.call rfl rfl (by simp [dOK]) ⟨44, [], by simp only [go_sem, ↓reduceIte, reduceCtorEq, Bool.false_eq_true, Bool.true_eq_false, Nat.reduceAdd, Nat.reduceLT, Nat.reduceEqDiff, Nat.reduceLeDiff, Nat.reduceSub, Nat.reduceMul], ⟨_, rfl, rfl, rfl⟩, .inl ⟨[.row (ns.map Note.pv)], _, .inl (by simp only [go_sem, ↓reduceIte, reduceCtorEq, Bool.false_eq_true, Bool.true_eq_false, Nat.reduceAdd, Nat.reduceLT, Nat.reduceEqDiff, Nat.reduceLeDiff, Nat.reduceSub, Nat.reduceMul]), batch_Right ns (by omega), .inl ⟨_, rfl, rfl, rfl, rfl⟩⟩⟩ ?_
  refine V.exec 400 ?_
  by_cases hb : batchOk ns
  · have hn8 : ns.length ≤ 8 := hb.1
    simp (config := {contextual := true}) only [go_sem, ↓reduceIte, reduceCtorEq, Bool.false_eq_true, Bool.true_eq_false, Nat.reduceAdd, Nat.reduceLT, Nat.reduceEqDiff, Nat.reduceLeDiff, Nat.reduceSub, Nat.reduceMul, hb]
    refine V.call rfl rfl (by simp [dOK]) ⟨18, [], by simp only [go_sem, ↓reduceIte, reduceCtorEq, Bool.false_eq_true, Bool.true_eq_false, Nat.reduceAdd, Nat.reduceLT, Nat.reduceEqDiff, Nat.reduceLeDiff, Nat.reduceSub, Nat.reduceMul], ⟨_, rfl, rfl, rfl⟩, .inl ⟨[.row (l.map Pair.pv)], _, .inl (by simp only [go_sem, ↓reduceIte, reduceCtorEq, Bool.false_eq_true, Bool.true_eq_false, Nat.reduceAdd, Nat.reduceLT, Nat.reduceEqDiff, Nat.reduceLeDiff, Nat.reduceSub, Nat.reduceMul]), leaf_Right l (by omega), .inl ⟨_, rfl, rfl, rfl, rfl⟩⟩⟩ ?_
    refine V.exec 400 ?_
    by_cases hok : pairsOk l
    · by_cases h1 : seq < 0
      · have hv := hbad fun h => by omega
        simp (config := {contextual := true}) only [go_sem, ↓reduceIte, reduceCtorEq, Bool.false_eq_true, Bool.true_eq_false, Nat.reduceAdd, Nat.reduceLT, Nat.reduceEqDiff, Nat.reduceLeDiff, Nat.reduceSub, Nat.reduceMul, hok, h1, hv, List.map_nil]
      · by_cases h2' : 2147483647 < seq
        · have hv := hbad fun h => by omega
          simp (config := {contextual := true}) only [go_sem, ↓reduceIte, reduceCtorEq, Bool.false_eq_true, Bool.true_eq_false, Nat.reduceAdd, Nat.reduceLT, Nat.reduceEqDiff, Nat.reduceLeDiff, Nat.reduceSub, Nat.reduceMul, hok, h1, h2', hv, List.map_nil]
        · have hwl : IntKind.i64.wrap (2147483647 - (ns.length : Int)) = 2147483647 - (ns.length : Int) := by rw [wrap_small3] <;> omega
          by_cases h3 : 2147483647 - (ns.length : Int) < seq
          · have hv : runV l seq ns = ([], l, 5) := by unfold runV; rw [if_pos ⟨hb, hok, by omega, by omega⟩, if_pos h3]
            simp (config := {contextual := true}) only [go_sem, ↓reduceIte, reduceCtorEq, Bool.false_eq_true, Bool.true_eq_false, Nat.reduceAdd, Nat.reduceLT, Nat.reduceEqDiff, Nat.reduceLeDiff, Nat.reduceSub, Nat.reduceMul, hok, h1, h2', hwl, h3, hv, List.map_nil]
          · have hv : runV l seq ns = ((runGo l seq [] ns).1, (runGo l seq [] ns).2, 0) := by unfold runV; rw [if_pos ⟨hb, hok, by omega, by omega⟩, if_neg h3]
            rw [hv]
            obtain ⟨RO, RP, hR⟩ : ∃ a b, runGo l seq [] ns = (a, b) := ⟨_, _, rfl⟩
            rw [hR]
            simp only
            simp (config := {contextual := true}) only [go_sem, ↓reduceIte, reduceCtorEq, Bool.false_eq_true, Bool.true_eq_false, Nat.reduceAdd, Nat.reduceLT, Nat.reduceEqDiff, Nat.reduceLeDiff, Nat.reduceSub, Nat.reduceMul, hok, h1, h2', hwl, h3]
            refine V.call rfl rfl (by simp [dOK]) ⟨40, [], by simp only [go_sem, ↓reduceIte, reduceCtorEq, Bool.false_eq_true, Bool.true_eq_false, Nat.reduceAdd, Nat.reduceLT, Nat.reduceEqDiff, Nat.reduceLeDiff, Nat.reduceSub, Nat.reduceMul], ⟨_, rfl, rfl, rfl⟩, .inl ⟨[.row (l.map Pair.pv)], _, .inl (by simp only [go_sem, ↓reduceIte, reduceCtorEq, Bool.false_eq_true, Bool.true_eq_false, Nat.reduceAdd, Nat.reduceLT, Nat.reduceEqDiff, Nat.reduceLeDiff, Nat.reduceSub, Nat.reduceMul]), ccl, .inr (.inl ⟨_, rfl, rfl, rfl⟩)⟩⟩ ?_
            refine V.exec 400 ?_
            simp (config := {contextual := true}) only [go_sem, ↓reduceIte, reduceCtorEq, Bool.false_eq_true, Bool.true_eq_false, Nat.reduceAdd, Nat.reduceLT, Nat.reduceEqDiff, Nat.reduceLeDiff, Nat.reduceSub, Nat.reduceMul]
            refine V.loop (fun m ls os => ∃ (i : Nat) (out : List Change) (cur : List Pair), i ≤ ns.length ∧ m = ns.length - i ∧ pairsOk cur ∧ cur.length ≤ l.length + i ∧ out.length ≤ i ∧ runGo cur seq out (ns.drop i) = (RO, RP) ∧
                ls = [(1, .val (.int .i64 seq)), (9, .ref 0), (10, .val (.row (cur.map Pair.pv))), (42, .val (.row (ns.map Note.pv))), (43, .val (.int .i64 ns.length)), (44, .val (.int .i64 i))] ∧ os = [.row 46 (out.map Change.pv)]) 1 ns.length
              [(1, .val (.int .i64 seq)), (9, .ref 0), (10, .val (.row (l.map Pair.pv))), (42, .val (.row (ns.map Note.pv))), (43, .val (.int .i64 ns.length)), (44, .val (.int .i64 0))] [.row 46 []] [none]
              ⟨0, [], l, Nat.zero_le _, rfl, hok, Nat.le_refl _, Nat.le_refl _, hR, rfl, rfl⟩ (by simp only [go_sem, ↓reduceIte, reduceCtorEq, Bool.false_eq_true, Bool.true_eq_false, Nat.reduceAdd, Nat.reduceLT, Nat.reduceEqDiff, Nat.reduceLeDiff, Nat.reduceSub, Nat.reduceMul]; try decide) ?_
            rintro m ls os ⟨i, out, cur, hi, rfl, hco, hcl, hol, hca, rfl, rfl⟩
            refine V.exec 400 ?_
            by_cases hlt : i < ns.length
            · have hlt' : (i : Int) < (ns.length : Int) := by omega
              obtain ⟨x, hx⟩ : ∃ x, ns[i]? = some x := ⟨_, List.getElem?_eq_getElem hlt⟩
              have hxo : x.ok := hb.2 x (List.mem_of_getElem? hx)
              have hw : IntKind.i64.wrap ((i : Int) + 1) = ((i + 1 : Nat) : Int) := by rw [wrap_small3] <;> omega
              have hw1 : IntKind.i64.wrap (seq + (out.length : Int)) = seq + (out.length : Int) := by rw [wrap_small3] <;> omega
              have hw2 : IntKind.i64.wrap (seq + (out.length : Int) + 1) = seq + (out.length : Int) + 1 := by rw [wrap_small3] <;> omega
              have co := change_Of cur (seq + (out.length : Int) + 1) x (by omega)
              have hdo := @ofV_does cur (seq + (out.length : Int) + 1) x
              rw [drop_of_get hx, runGo] at hca
              have hoo := oneV_pairsOk hco hxo
              have hol2 := oneV_len ((pairsOk_iff cur).1 hco).1 x
              obtain ⟨c, e, hC⟩ : ∃ a b, ofV cur (seq + (out.length : Int) + 1) x = (a, b) := ⟨_, _, rfl⟩
              rw [hC] at co hca hdo
              simp only at co hca hdo
              simp (config := {contextual := true}) only [go_sem, ↓reduceIte, reduceCtorEq, Bool.false_eq_true, Bool.true_eq_false, Nat.reduceAdd, Nat.reduceLT, Nat.reduceEqDiff, Nat.reduceLeDiff, Nat.reduceSub, Nat.reduceMul, hlt', hx, Note.pv, hw1, hw2]
              refine V.call rfl rfl (by simp [dOK]) ⟨45, [], by simp only [go_sem, ↓reduceIte, reduceCtorEq, Bool.false_eq_true, Bool.true_eq_false, Nat.reduceAdd, Nat.reduceLT, Nat.reduceEqDiff, Nat.reduceLeDiff, Nat.reduceSub, Nat.reduceMul], ⟨_, rfl, rfl, rfl⟩, .inl ⟨[.row (cur.map Pair.pv), .int .i64 (seq + (out.length : Int) + 1), x.pv], _, .inl (by simp only [go_sem, ↓reduceIte, reduceCtorEq, Bool.false_eq_true, Bool.true_eq_false, Nat.reduceAdd, Nat.reduceLT, Nat.reduceEqDiff, Nat.reduceLeDiff, Nat.reduceSub, Nat.reduceMul, Note.pv]), co, .inr (.inl ⟨_, rfl, rfl, rfl⟩)⟩⟩ ?_
              refine V.exec 400 ?_
              by_cases he : e = 0
              · rw [if_pos he] at hca
                have hdv := (hdo he).2.2.2.1
                have cd := change_Do cur [c] (by omega) (by simp)
                rw [hdv] at cd
                simp only at cd
                subst he
                simp (config := {contextual := true}) only [go_sem, ↓reduceIte, reduceCtorEq, Bool.false_eq_true, Bool.true_eq_false, Nat.reduceAdd, Nat.reduceLT, Nat.reduceEqDiff, Nat.reduceLeDiff, Nat.reduceSub, Nat.reduceMul, Change.pv]
                refine ⟨⟨by omega, by omega⟩, ?_⟩
                refine V.call rfl rfl (by simp [dOK]) ⟨32, [], by simp only [go_sem, ↓reduceIte, reduceCtorEq, Bool.false_eq_true, Bool.true_eq_false, Nat.reduceAdd, Nat.reduceLT, Nat.reduceEqDiff, Nat.reduceLeDiff, Nat.reduceSub, Nat.reduceMul], ⟨_, rfl, rfl, rfl⟩, .inl ⟨[.row (cur.map Pair.pv), .row ([c].map Change.pv)], _, .inl (by simp only [go_sem, ↓reduceIte, reduceCtorEq, Bool.false_eq_true, Bool.true_eq_false, Nat.reduceAdd, Nat.reduceLT, Nat.reduceEqDiff, Nat.reduceLeDiff, Nat.reduceSub, Nat.reduceMul, Change.pv, List.map_cons, List.map_nil]), cd, .inr (.inl ⟨_, rfl, rfl, rfl⟩)⟩⟩ ?_
                refine V.exec 400 ?_
                simp (config := {contextual := true}) only [go_sem, ↓reduceIte, reduceCtorEq, Bool.false_eq_true, Bool.true_eq_false, Nat.reduceAdd, Nat.reduceLT, Nat.reduceEqDiff, Nat.reduceLeDiff, Nat.reduceSub, Nat.reduceMul, hw]
                refine ⟨ns.length - (i + 1), _, _, [some 25], by omega, ⟨i + 1, out ++ [c], oneV cur x, by omega, rfl, hoo, by omega, by simp; omega, hca, rfl, rfl⟩, ?_⟩
                simp only [go_sem, ↓reduceIte, reduceCtorEq, Bool.false_eq_true, Bool.true_eq_false, Nat.reduceAdd, Nat.reduceLT, Nat.reduceEqDiff, Nat.reduceLeDiff, Nat.reduceSub, Nat.reduceMul, List.map_append, List.map_cons, List.map_nil, Change.pv]
                try decide
              · rw [if_neg he] at hca
                simp (config := {contextual := true}) only [go_sem, ↓reduceIte, reduceCtorEq, Bool.false_eq_true, Bool.true_eq_false, Nat.reduceAdd, Nat.reduceLT, Nat.reduceEqDiff, Nat.reduceLeDiff, Nat.reduceSub, Nat.reduceMul, Change.pv, he, hw]
                refine ⟨ns.length - (i + 1), _, _, [some 0], by omega, ⟨i + 1, out, cur, by omega, rfl, hco, by omega, by omega, hca, rfl, rfl⟩, ?_⟩
                simp only [go_sem, ↓reduceIte, reduceCtorEq, Bool.false_eq_true, Bool.true_eq_false, Nat.reduceAdd, Nat.reduceLT, Nat.reduceEqDiff, Nat.reduceLeDiff, Nat.reduceSub, Nat.reduceMul]
                try decide
            · have hlt' : ¬ (i : Int) < (ns.length : Int) := by omega
              have hd : ns.drop i = [] := List.drop_eq_nil_of_le (by omega)
              rw [hd, runGo, Prod.mk.injEq] at hca
              obtain ⟨rfl, rfl⟩ := hca
              simp (config := {contextual := true}) only [go_sem, ↓reduceIte, reduceCtorEq, Bool.false_eq_true, Bool.true_eq_false, Nat.reduceAdd, Nat.reduceLT, Nat.reduceEqDiff, Nat.reduceLeDiff, Nat.reduceSub, Nat.reduceMul, hlt']
    · have hv := hbad fun h => hok h.2.1
      simp (config := {contextual := true}) only [go_sem, ↓reduceIte, reduceCtorEq, Bool.false_eq_true, Bool.true_eq_false, Nat.reduceAdd, Nat.reduceLT, Nat.reduceEqDiff, Nat.reduceLeDiff, Nat.reduceSub, Nat.reduceMul, hok, hv, List.map_nil]
  · have hv := hbad fun h => hb h.1
    simp (config := {contextual := true}) only [go_sem, ↓reduceIte, reduceCtorEq, Bool.false_eq_true, Bool.true_eq_false, Nat.reduceAdd, Nat.reduceLT, Nat.reduceEqDiff, Nat.reduceLeDiff, Nat.reduceSub, Nat.reduceMul, hb, hv, List.map_nil]
end Go.Proofs.Ytnhkknaplkjigaa
set_option linter.unusedVariables false
set_option linter.unusedSimpArgs false
namespace Go.Proofs.Ytnhkknaplkjigaa
open Go Go.Proofs Go.Proofs.YtnhkknaplkjigaaVm Go.Proofs.Ytnhkknaplkjigaa.Ty

theorem refFindP_neg {l : List Pair} {k : List UInt8} (h : getL l k = none) : refFindP l k = -1 := by
  unfold refFindP
  have : l.findIdx? (fun s => decide (s.key = k)) = none := by
    rw [List.findIdx?_eq_none_iff]
    intro x hx
    unfold getL at h
    rw [List.find?_eq_none] at h
    simpa using h x hx
  rw [this]
theorem refFindP_some {l : List Pair} (hs : Sorted l) {k : List UInt8} {p : Pair} (h : getL l k = some p) : ∃ i : Nat, refFindP l k = (i : Int) ∧ l[i]? = some p ∧ i < l.length := by
  have hm := getL_mem h
  unfold refFindP
  cases hf : l.findIdx? (fun s => decide (s.key = k)) with
  | none =>
    rw [List.findIdx?_eq_none_iff] at hf
    have := hf p hm.1
    simp [hm.2] at this
  | some i =>
    rw [List.findIdx?_eq_some_iff_getElem] at hf
    obtain ⟨hi, hk, _⟩ := hf
    refine ⟨i, rfl, ?_, hi⟩
    have hk' : l[i].key = k := by simpa using hk
    have := getL_of_mem hs (List.getElem_mem hi)
    rw [hk', h] at this
    rw [List.getElem?_eq_getElem hi, this]

end Go.Proofs.Ytnhkknaplkjigaa
set_option linter.unusedVariables false
set_option linter.unusedSimpArgs false
namespace Go.Proofs.Ytnhkknaplkjigaa
open Go Go.Proofs Go.Proofs.YtnhkknaplkjigaaVm Go.Proofs.Ytnhkknaplkjigaa.Ty

theorem notes_all17 (ns : List Note) : notesOk' ns = notesAll ns := rfl
theorem one_slice {α : Type} {l : List α} {i : Nat} {x : α} (h : l[i]? = some x) : (l.take (i + 1)).drop i = [x] := by
  rw [List.take_add_one, h, List.drop_append_of_le_length (by have := (List.getElem?_eq_some_iff.1 h).1; simp; omega)]
  rw [List.drop_eq_nil_of_le (by simp; omega)]; rfl

end Go.Proofs.Ytnhkknaplkjigaa
set_option linter.unusedVariables false
set_option linter.unusedSimpArgs false
namespace Go.Proofs.Ytnhkknaplkjigaa
open Go Go.Proofs Go.Proofs.YtnhkknaplkjigaaVm Go.Proofs.Ytnhkknaplkjigaa.Ty

def pvZ (n : Int) : PV := .int .i64 n
def rowN (l : List Note) : PV := .row (l.map Note.pv)
theorem runGo_facts : ∀ (ns : List Note) (p : List Pair) (seq : Int) (out : List Change), pairsOk p → notesAll ns →
    (runGo p seq out ns).1.length ≤ out.length + ns.length ∧ (runGo p seq out ns).2.length ≤ p.length + ns.length ∧ pairsOk (runGo p seq out ns).2
  | [], p, seq, out, hp, _ => ⟨Nat.le_refl _, Nat.le_refl _, hp⟩
  | n :: r, p, seq, out, hp, hn => by
    have hx := hn n List.mem_cons_self
    have hr : notesAll r := fun y hy => hn y (List.mem_cons_of_mem _ hy)
    unfold runGo
    split
    · have ih := runGo_facts r (oneV p n) seq (out ++ [(ofV p (seq + out.length + 1) n).1]) (oneV_pairsOk hp hx) hr
      have hl := oneV_len ((pairsOk_iff p).1 hp).1 n
      rw [List.length_append, List.length_singleton] at ih
      rw [List.length_cons]
      exact ⟨by omega, by omega, ih.2.2⟩
    · have ih := runGo_facts r p seq out hp hr
      rw [List.length_cons]
      exact ⟨by omega, by omega, ih.2.2⟩
theorem runV_facts {l : List Pair} {seq : Int} {ns : List Note} (h : (runV l seq ns).2.2 = 0) :
    batchOk ns ∧ pairsOk l ∧ 0 ≤ seq ∧ seq + (ns.length : Int) ≤ 2147483647 ∧ (runV l seq ns).1.length ≤ ns.length ∧ (runV l seq ns).2.1.length ≤ l.length + ns.length ∧ pairsOk (runV l seq ns).2.1 ∧ runV l seq ns = ((runGo l seq [] ns).1, (runGo l seq [] ns).2, 0) := by
  unfold runV at *
  split at h
  · rename_i hc
    rw [if_pos hc]
    split at h
    · cases h
    · rename_i h3
      rw [if_neg h3]
      have hf := runGo_facts ns l seq [] hc.2.1 hc.1.2
      simp only [List.length_nil, Nat.zero_add] at hf
      exact ⟨hc.1, hc.2.1, hc.2.2.1, by omega, hf.1, hf.2.1, hf.2.2, rfl⟩
  · cases h
/-- Batches, one behind the other. -/
def allGo (l0 : List Pair) : List Pair → Int → List Change → List Int → List (List Note) → List Change × List Pair × List Int × Int
  | p, _, out, ends, [] => (out, p, ends, 0)
  | p, seq, out, ends, b :: r => if (runV p seq b).2.2 = 0 then allGo l0 (runV p seq b).2.1 (seq + ((runV p seq b).1.length : Int)) (out ++ (runV p seq b).1) (ends ++ [seq + ((runV p seq b).1.length : Int)]) r else ([], l0, [], (runV p seq b).2.2)
def allV (l : List Pair) (seq : Int) (bs : List (List Note)) : List Change × List Pair × List Int × Int := allGo l l seq [] [] bs

set_option maxRecDepth 10000 in
set_option maxHeartbeats 16000000 in
theorem batch_All (l : List Pair) (seq : Int) (bs : List (List Note)) (hl : l.length ≤ 1000) (hn : bs.length ≤ 1000) (hb : ∀ b ∈ bs, b.length ≤ 9223372036854775807) (hseq : seq ≤ 9223372036854775807) : Ct Try.prog 17 (YtnhkknaplkjigaaVm.ops [.row (l.map Pair.pv), .int .i64 seq, .row (bs.map rowN)]) (.vals [.row ((allV l seq bs).1.map Change.pv), .row ((allV l seq bs).2.1.map Pair.pv), .row ((allV l seq bs).2.2.1.map pvZ), .int .i64 (allV l seq bs).2.2.2]) := by
  obtain ⟨RO, RP, RE, re, hR⟩ : ∃ a b c d, allV l seq bs = (a, b, c, d) := ⟨_, _, _, _, rfl⟩
  rw [hR]
  unfold allV at hR
  simp only
  refine Ct.of_V Try.func17 rfl (by simp [YtnhkknaplkjigaaVm.ops, Try.f17]) ?_
  refine V.exec 400 ?_
  simp (config := {contextual := true}) only [go_sem, ↓reduceIte, reduceCtorEq, Bool.false_eq_true, Bool.true_eq_false, Nat.reduceAdd, Nat.reduceLT, Nat.reduceEqDiff, Nat.reduceLeDiff, Nat.reduceSub, Nat.reduceMul, Try.f17]
  refine V.loop (fun m ls os => ∃ (i : Nat) (out : List Change) (cur : List Pair) (ends : List Int) (sq : Int), i ≤ bs.length ∧ m = bs.length - i ∧ cur.length ≤ l.length + 8 * i ∧ out.length ≤ 8 * i ∧ ends.length ≤ i ∧ sq ≤ 9223372036854775807 ∧ allGo l cur sq out ends (bs.drop i) = (RO, RP, RE, re) ∧
      ls = [(0, .val (.row (l.map Pair.pv))), (1, .val (.int .i64 sq)), (10, .ref 0), (11, .ref 1), (12, .val (.row (cur.map Pair.pv))), (19, .val (.row (bs.map rowN))), (20, .val (.int .i64 bs.length)), (21, .val (.int .i64 i))] ∧ os = [.row 46 (out.map Change.pv), .row 3 (ends.map pvZ)]) 2 bs.length
    [(0, .val (.row (l.map Pair.pv))), (1, .val (.int .i64 seq)), (10, .ref 0), (11, .ref 1), (12, .val (.row (l.map Pair.pv))), (19, .val (.row (bs.map rowN))), (20, .val (.int .i64 bs.length)), (21, .val (.int .i64 0))] [.row 46 [], .row 3 []] [none, none]
    ⟨0, [], l, [], seq, Nat.zero_le _, rfl, Nat.le_refl _, Nat.le_refl _, Nat.le_refl _, hseq, hR, rfl, rfl⟩ (by simp only [go_sem, ↓reduceIte, reduceCtorEq, Bool.false_eq_true, Bool.true_eq_false, Nat.reduceAdd, Nat.reduceLT, Nat.reduceEqDiff, Nat.reduceLeDiff, Nat.reduceSub, Nat.reduceMul]; try decide) ?_
  rintro m ls os ⟨i, out, cur, ends, sq, hi, rfl, hcl, hol, hel, hsq, hca, rfl, rfl⟩
  refine V.exec 400 ?_
  by_cases hlt : i < bs.length
  · have hlt' : (i : Int) < (bs.length : Int) := by omega
    obtain ⟨b, hx⟩ : ∃ x, bs[i]? = some x := ⟨_, List.getElem?_eq_getElem hlt⟩
    have hbl := hb b (List.mem_of_getElem? hx)
    have hw : IntKind.i64.wrap ((i : Int) + 1) = ((i + 1 : Nat) : Int) := by rw [wrap_small3] <;> omega
    have cr := batch_Run cur sq b (by omega) (by omega) hsq
    rw [drop_of_get hx, allGo] at hca
    have hf := @runV_facts cur sq b
    obtain ⟨c, q, e, hC⟩ : ∃ a b' d, runV cur sq b = (a, b', d) := ⟨_, _, _, rfl⟩
    rw [hC] at cr hca hf
    simp only at cr hca hf
    simp (config := {contextual := true}) only [go_sem, ↓reduceIte, reduceCtorEq, Bool.false_eq_true, Bool.true_eq_false, Nat.reduceAdd, Nat.reduceLT, Nat.reduceEqDiff, Nat.reduceLeDiff, Nat.reduceSub, Nat.reduceMul, hlt', hx, rowN]
    refine V.call rfl rfl (by simp [dOK]) ⟨28, [], by simp only [go_sem, ↓reduceIte, reduceCtorEq, Bool.false_eq_true, Bool.true_eq_false, Nat.reduceAdd, Nat.reduceLT, Nat.reduceEqDiff, Nat.reduceLeDiff, Nat.reduceSub, Nat.reduceMul], ⟨_, rfl, rfl, rfl⟩, .inl ⟨[.row (cur.map Pair.pv), .int .i64 sq, .row (b.map Note.pv)], _, .inl (by simp only [go_sem, ↓reduceIte, reduceCtorEq, Bool.false_eq_true, Bool.true_eq_false, Nat.reduceAdd, Nat.reduceLT, Nat.reduceEqDiff, Nat.reduceLeDiff, Nat.reduceSub, Nat.reduceMul]), cr, .inr (.inl ⟨_, rfl, rfl, rfl⟩)⟩⟩ ?_
    refine V.exec 400 ?_
    by_cases he : e = 0
    · rw [if_pos he] at hca
      obtain ⟨f1, f2, f3, f4, f5, f6, f7, _⟩ := hf he
      have f8 := f1.1
      subst he
      have hw2 : IntKind.i64.wrap (sq + (c.length : Int)) = sq + (c.length : Int) := by rw [wrap_small3] <;> omega
      simp (config := {contextual := true}) only [go_sem, ↓reduceIte, reduceCtorEq, Bool.false_eq_true, Bool.true_eq_false, Nat.reduceAdd, Nat.reduceLT, Nat.reduceEqDiff, Nat.reduceLeDiff, Nat.reduceSub, Nat.reduceMul, hw, hw2]
      refine ⟨fun j _ => rfl, ⟨by omega, by omega⟩, ⟨by omega, by omega⟩, bs.length - (i + 1), _, _, [some 21, some 33], by omega, ⟨i + 1, out ++ c, q, ends ++ [sq + (c.length : Int)], sq + (c.length : Int), by omega, rfl, by omega, by simp; omega, by simp; omega, by omega, hca, rfl, rfl⟩, ?_⟩
      simp only [go_sem, ↓reduceIte, reduceCtorEq, Bool.false_eq_true, Bool.true_eq_false, Nat.reduceAdd, Nat.reduceLT, Nat.reduceEqDiff, Nat.reduceLeDiff, Nat.reduceSub, Nat.reduceMul, List.map_append, List.map_cons, List.map_nil, pvZ]
      try decide
    · rw [if_neg he, Prod.mk.injEq, Prod.mk.injEq, Prod.mk.injEq] at hca
      obtain ⟨rfl, rfl, rfl, rfl⟩ := hca
      simp (config := {contextual := true}) only [go_sem, ↓reduceIte, reduceCtorEq, Bool.false_eq_true, Bool.true_eq_false, Nat.reduceAdd, Nat.reduceLT, Nat.reduceEqDiff, Nat.reduceLeDiff, Nat.reduceSub, Nat.reduceMul, he, List.map_nil]
  · have hlt' : ¬ (i : Int) < (bs.length : Int) := by omega
    have hd : bs.drop i = [] := List.drop_eq_nil_of_le (by omega)
    rw [hd, allGo, Prod.mk.injEq, Prod.mk.injEq, Prod.mk.injEq] at hca
    obtain ⟨rfl, rfl, rfl, rfl⟩ := hca
    simp (config := {contextual := true}) only [go_sem, ↓reduceIte, reduceCtorEq, Bool.false_eq_true, Bool.true_eq_false, Nat.reduceAdd, Nat.reduceLT, Nat.reduceEqDiff, Nat.reduceLeDiff, Nat.reduceSub, Nat.reduceMul, hlt']
def smallP (l : List Pair) : Prop := l.length ≤ 60 ∧ ∀ p ∈ l, p.key.length ≤ 300 ∧ p.value.length ≤ 300
instance instSmallP (l : List Pair) : Decidable (smallP l) := by unfold smallP; infer_instance
def fewN (l : List Note) : Prop := l.length ≤ 20 ∧ ∀ p ∈ l, p.key.length ≤ 300 ∧ p.value.length ≤ 300
instance instFewN (l : List Note) : Decidable (fewN l) := by unfold fewN; infer_instance

end Go.Proofs.Ytnhkknaplkjigaa
set_option linter.unusedVariables false
set_option linter.unusedSimpArgs false
namespace Go.Proofs.Ytnhkknaplkjigaa
open Go Go.Proofs Go.Proofs.YtnhkknaplkjigaaVm Go.Proofs.Ytnhkknaplkjigaa.Ty

def aN1 : Note := ⟨1, [97], [49], 0⟩
def aN2 : Note := ⟨2, [98], [], 0⟩
def aN3 : Note := ⟨2, [97], [], 0⟩
def aN4 : Note := ⟨2, [], [], 0⟩
def aN5 : Note := ⟨1, [120], [], 0⟩
def aN0 : Note := ⟨0, [], [], 0⟩
def aC1 : Change := ⟨5, [97], false, [], true, [49]⟩
def aC2 : Change := ⟨6, [97], true, [49], false, []⟩
def aC3 : Change := ⟨1, [120], false, [], true, []⟩
def aP3 : Pair := ⟨[120], []⟩
theorem av1 : runV [] 4 [aN1, aN2, aN3] = ([aC1, aC2], [], 0) := by kernel_rfl
theorem av2 : runV [] 2147483646 [aN4, aN4] = ([], [], 5) := by kernel_rfl
theorem av3 : allV [] 0 [[aN4], [aN5]] = ([aC3], [aP3], [0, 1], 0) := by kernel_rfl
theorem av4 : batchOk [] := by decide +kernel
theorem av5 : ¬ batchOk [aN0] := by decide +kernel

end Go.Proofs.Ytnhkknaplkjigaa
set_option linter.unusedVariables false
set_option linter.unusedSimpArgs false
namespace Go.Proofs.Ytnhkknaplkjigaa
open Go Go.Proofs Go.Proofs.YtnhkknaplkjigaaVm Go.Proofs.Ytnhkknaplkjigaa.Ty

theorem runV_len (l : List Pair) (seq : Int) (ns : List Note) : (runV l seq ns).1.length ≤ ns.length ∧ (runV l seq ns).2.1.length ≤ l.length + ns.length := by
  by_cases h : (runV l seq ns).2.2 = 0
  · have hf := runV_facts h
    exact ⟨hf.2.2.2.2.1, hf.2.2.2.2.2.1⟩
  · unfold runV at *
    split
    · rename_i hc
      rw [if_pos hc] at h
      split
      · simp
      · rename_i h3
        rw [if_neg h3] at h
        exact absurd rfl h
    · simp

theorem note_one (qs : List PV) (hk : qs.map PV.kd = [.int .i64, .str, .str, .int .u64]) : ∃ s : Note, PV.agg qs = s.pv := by
  match qs, hk with
  | [.int k n, .str a, .str b, .int k' m], hk =>
    simp only [List.map_cons, PV.kd, List.cons.injEq, KD.int.injEq] at hk
    obtain ⟨rfl, _, _, rfl, _⟩ := hk
    exact ⟨⟨n, a, b, m⟩, by simp [Note.pv]⟩
theorem note_of (xs : List PV) (h : ∀ x ∈ xs, ∃ qs, x = .agg qs ∧ qs.map PV.kd = [.int .i64, .str, .str, .int .u64] ∧ ∀ q ∈ qs, q.wfv) : ∃ t : List Note, xs = t.map Note.pv := by
  induction xs with
  | nil => exact ⟨[], rfl⟩
  | cons x r ih =>
    obtain ⟨t, rfl⟩ := ih (fun y hy => h y (List.mem_cons_of_mem _ hy))
    obtain ⟨qs, rfl, hk, hw⟩ := h x List.mem_cons_self
    obtain ⟨s, hs⟩ := note_one qs hk
    exact ⟨s :: t, by simp [hs]⟩
theorem int_top {a : Int} (w : (Lit.int .i64 a).wf = true) : a ≤ 9223372036854775807 := by
  simp only [Lit.wf, Bool.and_eq_true, decide_eq_true_eq] at w
  have e2 : IntKind.max .i64 = 9223372036854775807 := by decide
  rw [e2] at w
  exact w.2
end Go.Proofs.Ytnhkknaplkjigaa
set_option linter.unusedVariables false
set_option linter.unusedSimpArgs false
namespace Go.Proofs.Ytnhkknaplkjigaa
open Go Go.Proofs Go.Proofs.YtnhkknaplkjigaaVm Go.Proofs.Ytnhkknaplkjigaa.Ty

theorem allGo_len (l0 : List Pair) : ∀ (bs : List (List Note)) (p : List Pair) (seq : Int) (out : List Change) (ends : List Int),
    (allGo l0 p seq out ends bs).1.length ≤ out.length + 8 * bs.length ∧ ((allGo l0 p seq out ends bs).2.1.length ≤ p.length + 8 * bs.length ∨ (allGo l0 p seq out ends bs).2.1 = l0) ∧ (allGo l0 p seq out ends bs).2.2.1.length ≤ ends.length + bs.length
  | [], p, seq, out, ends => by simp [allGo]
  | b :: r, p, seq, out, ends => by
    unfold allGo
    split
    · rename_i h
      have hf := runV_facts h
      have h8 := hf.1.1
      have h5 := hf.2.2.2.2.1
      have h6 := hf.2.2.2.2.2.1
      have ih := allGo_len l0 r (runV p seq b).2.1 (seq + ((runV p seq b).1.length : Int)) (out ++ (runV p seq b).1) (ends ++ [seq + ((runV p seq b).1.length : Int)])
      rw [List.length_append, List.length_append, List.length_singleton] at ih
      rw [List.length_cons]
      refine ⟨by omega, ?_, by omega⟩
      rcases ih.2.1 with h | h
      · left; omega
      · right; exact h
    · simp
theorem allV_len (l : List Pair) (seq : Int) (bs : List (List Note)) : (allV l seq bs).1.length ≤ 8 * bs.length ∧ (allV l seq bs).2.1.length ≤ l.length + 8 * bs.length ∧ (allV l seq bs).2.2.1.length ≤ bs.length := by
  have h := allGo_len l bs l seq [] []
  simp only [List.length_nil, Nat.zero_add] at h
  unfold allV
  refine ⟨h.1, ?_, h.2.2⟩
  rcases h.2.1 with g | g
  · exact g
  · rw [g]; omega

theorem notes_rows (xss : List (List PV)) (h : ∀ xs ∈ xss, xs.length ≤ maxLen ∧ ∀ x ∈ xs, ∃ qs, x = .agg qs ∧ qs.map PV.kd = [.int .i64, .str, .str, .int .u64] ∧ ∀ q ∈ qs, q.wfv) :
    ∃ bs : List (List Note), xss.map PV.row = bs.map rowN ∧ bs.length = xss.length ∧ ∀ b ∈ bs, b.length ≤ maxLen := by
  induction xss with
  | nil => exact ⟨[], rfl, rfl, by simp⟩
  | cons x r ih =>
    obtain ⟨t, ht, hl, hb⟩ := ih fun y hy => h y (List.mem_cons_of_mem _ hy)
    obtain ⟨g1, g2⟩ := h x List.mem_cons_self
    obtain ⟨n, rfl⟩ := note_of x g2
    refine ⟨n :: t, by rw [List.map_cons, List.map_cons, ht]; rfl, by simp [hl], fun b hbm => ?_⟩
    rcases List.mem_cons.1 hbm with rfl | hbm
    · simpa using g1
    · exact hb b hbm
end Go.Proofs.Ytnhkknaplkjigaa
set_option linter.unusedVariables false
set_option linter.unusedSimpArgs false
namespace Go.Proofs.Ytnhkknaplkjigaa
open Go Go.Proofs Go.Proofs.YtnhkknaplkjigaaVm Go.Proofs.Ytnhkknaplkjigaa.Ty

theorem allGo_cons (l0 : List Pair) {p : List Pair} {seq : Int} {x : List Note} (out : List Change) (ends : List Int) (r : List (List Note)) (h : (runV p seq x).2.2 = 0) :
    allGo l0 p seq out ends (x :: r) = allGo l0 (runV p seq x).2.1 (seq + ((runV p seq x).1.length : Int)) (out ++ (runV p seq x).1) (ends ++ [seq + ((runV p seq x).1.length : Int)]) r := by rw [allGo, if_pos h]
theorem allGo_app (l0 : List Pair) (b : List (List Note)) : ∀ (a : List (List Note)) (p : List Pair) (seq : Int) (out : List Change) (ends : List Int),
    allGo l0 p seq out ends (a ++ b) = if (allGo l0 p seq out ends a).2.2.2 = 0 then allGo l0 (allGo l0 p seq out ends a).2.1 (seq + ((allGo l0 p seq out ends a).1.length : Int) - (out.length : Int)) (allGo l0 p seq out ends a).1 (allGo l0 p seq out ends a).2.2.1 b else allGo l0 p seq out ends a
  | [], p, seq, out, ends => by
    have e : seq + (out.length : Int) - (out.length : Int) = seq := by omega
    simp only [List.nil_append, allGo, ↓reduceIte, e]
  | x :: r, p, seq, out, ends => by
    rw [List.cons_append]
    by_cases h : (runV p seq x).2.2 = 0
    · have ih := allGo_app l0 b r (runV p seq x).2.1 (seq + ((runV p seq x).1.length : Int)) (out ++ (runV p seq x).1) (ends ++ [seq + ((runV p seq x).1.length : Int)])
      rw [allGo_cons l0 out ends (r ++ b) h, allGo_cons l0 out ends r h, ih]
      have e : ∀ n : Int, seq + ((runV p seq x).1.length : Int) + n - ((out ++ (runV p seq x).1).length : Int) = seq + n - (out.length : Int) := fun n => by rw [List.length_append]; omega
      rw [e]
    · have e1 : ∀ t, allGo l0 p seq out ends (x :: t) = ([], l0, [], (runV p seq x).2.2) := fun t => by rw [allGo, if_neg h]
      rw [e1, e1, if_neg h]
theorem allGo_err (l0 : List Pair) : ∀ (a : List (List Note)) (p : List Pair) (seq : Int) (out : List Change) (ends : List Int), (allGo l0 p seq out ends a).2.2.2 ≠ 0 → allGo l0 p seq out ends a = ([], l0, [], (allGo l0 p seq out ends a).2.2.2)
  | [], p, seq, out, ends, h => absurd rfl h
  | x :: r, p, seq, out, ends, h => by
    unfold allGo at *
    by_cases h' : (runV p seq x).2.2 = 0
    · rw [if_pos h'] at *
      exact allGo_err l0 r _ _ _ _ h
    · rw [if_neg h']
theorem allGo_pre (l0 l1 : List Pair) (o : List Change) (d : List Int) : ∀ (a : List (List Note)) (p : List Pair) (seq : Int) (out : List Change) (ends : List Int),
    (allGo l0 p seq (o ++ out) (d ++ ends) a).2.2.2 = (allGo l1 p seq out ends a).2.2.2 ∧ ((allGo l1 p seq out ends a).2.2.2 = 0 → allGo l0 p seq (o ++ out) (d ++ ends) a = (o ++ (allGo l1 p seq out ends a).1, (allGo l1 p seq out ends a).2.1, d ++ (allGo l1 p seq out ends a).2.2.1, 0))
  | [], p, seq, out, ends => ⟨rfl, fun _ => rfl⟩
  | x :: r, p, seq, out, ends => by
    unfold allGo
    by_cases h : (runV p seq x).2.2 = 0
    · rw [if_pos h, if_pos h, List.append_assoc, List.append_assoc]
      exact allGo_pre l0 l1 o d r _ _ _ _
    · rw [if_neg h, if_neg h]
      exact ⟨rfl, fun g => absurd g h⟩
theorem allGo_seq (l0 : List Pair) : ∀ (a : List (List Note)) (p : List Pair) (seq : Int) (out : List Change) (ends : List Int), (allGo l0 p seq out ends a).2.2.2 = 0 →
    (allGo l0 p seq out ends a).1.length = out.length ∨ seq + ((allGo l0 p seq out ends a).1.length : Int) - (out.length : Int) ≤ 2147483647
  | [], p, seq, out, ends, _ => .inl rfl
  | x :: r, p, seq, out, ends, h => by
    unfold allGo at *
    by_cases h' : (runV p seq x).2.2 = 0
    · rw [if_pos h'] at *
      have hf := runV_facts h'
      have h4 := hf.2.2.2.1
      have h5 := hf.2.2.2.2.1
      have ih := allGo_seq l0 r _ _ _ _ h
      rw [List.length_append] at ih
      right
      rcases ih with ih | ih <;> omega
    · rw [if_neg h'] at h
      exact absurd h h'
theorem allV_seq (l : List Pair) (seq : Int) (a : List (List Note)) : (allV l seq a).1.length = 0 ∨ seq + ((allV l seq a).1.length : Int) ≤ 2147483647 := by
  unfold allV
  by_cases h : (allGo l l seq [] [] a).2.2.2 = 0
  · have := allGo_seq l a l seq [] [] h
    simpa using this
  · rw [allGo_err l a l seq [] [] h]; simp
theorem all_parts (l : List Pair) (seq : Int) (a b : List (List Note)) :
    ((allV l seq a).2.2.2 ≠ 0 → (allV l seq (a ++ b)).2.2.2 ≠ 0) ∧
    ((allV l seq a).2.2.2 = 0 → (allV l seq (a ++ b)).2.2.2 = (allV (allV l seq a).2.1 (seq + ((allV l seq a).1.length : Int)) b).2.2.2 ∧
      ((allV (allV l seq a).2.1 (seq + ((allV l seq a).1.length : Int)) b).2.2.2 = 0 → allV l seq (a ++ b) = ((allV l seq a).1 ++ (allV (allV l seq a).2.1 (seq + ((allV l seq a).1.length : Int)) b).1, (allV (allV l seq a).2.1 (seq + ((allV l seq a).1.length : Int)) b).2.1, (allV l seq a).2.2.1 ++ (allV (allV l seq a).2.1 (seq + ((allV l seq a).1.length : Int)) b).2.2.1, 0))) := by
  unfold allV
  rw [allGo_app l b a l seq [] []]
  refine ⟨fun h => by rw [if_neg h]; exact h, fun h => ?_⟩
  rw [if_pos h]
  have e : ∀ n : Int, seq + n - (([] : List Change).length : Int) = seq + n := fun n => by simp
  rw [e]
  have hp := allGo_pre l (allGo l l seq [] [] a).2.1 (allGo l l seq [] [] a).1 (allGo l l seq [] [] a).2.2.1 b (allGo l l seq [] [] a).2.1 (seq + ((allGo l l seq [] [] a).1.length : Int)) [] []
  simp only [List.append_nil] at hp
  exact hp
end Go.Proofs.Ytnhkknaplkjigaa
set_option linter.unusedVariables false
set_option linter.unusedSimpArgs false
namespace Go.Proofs.Ytnhkknaplkjigaa
open Go Go.Proofs Go.Proofs.YtnhkknaplkjigaaVm Go.Proofs.Ytnhkknaplkjigaa.Ty

theorem runV_err {l : List Pair} {seq : Int} {ns : List Note} (h : (runV l seq ns).2.2 ≠ 0) : (runV l seq ns).1 = [] ∧ (runV l seq ns).2.1 = l := by
  unfold runV at *
  split
  · rename_i hc
    rw [if_pos hc] at h
    split
    · exact ⟨rfl, rfl⟩
    · rename_i h3
      rw [if_neg h3] at h
      exact absurd rfl h
  · exact ⟨rfl, rfl⟩
theorem runGo_keys : ∀ (ns : List Note) (p : List Pair) (seq : Int) (out : List Change), ∃ cs, (runGo p seq out ns).1 = out ++ cs ∧ List.Sublist (cs.map Change.key) (ns.map Note.key) ∧ ∀ (j : Nat) (c : Change), cs[j]? = some c → c.seq = seq + out.length + j + 1
  | [], p, seq, out => ⟨[], by simp [runGo], List.Sublist.refl _, fun j c h => by simp at h⟩
  | n :: r, p, seq, out => by
    unfold runGo
    split
    · rename_i h
      obtain ⟨_, _, _, _, hk, hsq⟩ := ofV_does h
      obtain ⟨cs, h1, h2, h3⟩ := runGo_keys r (oneV p n) seq (out ++ [(ofV p (seq + out.length + 1) n).1])
      refine ⟨(ofV p (seq + out.length + 1) n).1 :: cs, by rw [h1]; simp, ?_, fun j c hc => ?_⟩
      · rw [List.map_cons, List.map_cons, hk]; exact h2.cons_cons _
      · cases j with
        | zero => simp at hc; subst hc; rw [hsq]; simp
        | succ j =>
          have := h3 j c (by simpa using hc)
          rw [this, List.length_append, List.length_singleton]
          omega
    · obtain ⟨cs, h1, h2, h3⟩ := runGo_keys r p seq out
      exact ⟨cs, h1, by rw [List.map_cons]; exact h2.cons _, h3⟩
theorem runV_keys {l : List Pair} {seq : Int} {ns : List Note} (h : (runV l seq ns).2.2 = 0) : List.Sublist ((runV l seq ns).1.map Change.key) (ns.map Note.key) ∧ ∀ (j : Nat) (c : Change), (runV l seq ns).1[j]? = some c → c.seq = seq + j + 1 := by
  have e := (runV_facts h).2.2.2.2.2.2.2
  rw [e]
  obtain ⟨cs, h1, h2, h3⟩ := runGo_keys ns l seq []
  rw [List.nil_append] at h1
  rw [h1]
  exact ⟨h2, fun j c hc => by have := h3 j c hc; simpa using this⟩
theorem sub_skip {α : Type} {a b : α} {l₁ l₂ : List α} (h : List.Sublist (a :: l₁) (b :: l₂)) (hne : ¬ b = a) : List.Sublist (a :: l₁) l₂ := by
  cases h with
  | cons _ h => exact h
  | cons_cons _ h => exact absurd rfl hne
def cb (c : Change) : Ob := .box true [.val (.int .i64 c.seq), .val (.str c.key), .val (.bool (decide (c.had = true))), .val (.str c.bef), .val (.bool (decide (c.has = true))), .val (.str c.aft)]

end Go.Proofs.Ytnhkknaplkjigaa
set_option linter.unusedVariables false
set_option linter.unusedSimpArgs false
namespace Go.Proofs.Ytnhkknaplkjigaa
open Go Go.Proofs Go.Proofs.YtnhkknaplkjigaaVm Go.Proofs.Ytnhkknaplkjigaa.Ty

def turnC (c : Change) : Change := ⟨c.seq, c.key, c.has, c.aft, c.had, c.bef⟩

set_option maxHeartbeats 4000000 in
theorem change_turned (c : Change) : Ct Try.prog 31 (YtnhkknaplkjigaaVm.ops [c.pv]) (.vals [(turnC c).pv]) := by
  refine Ct.of_V Try.func31 rfl (by simp [YtnhkknaplkjigaaVm.ops, Try.f31]) ?_
  refine V.exec 400 ?_
  simp (config := {contextual := true}) only [go_sem, ↓reduceIte, reduceCtorEq, Bool.false_eq_true, Bool.true_eq_false, Nat.reduceAdd, Nat.reduceLT, Nat.reduceEqDiff, Nat.reduceLeDiff, Nat.reduceSub, Nat.reduceMul, Try.f31, Change.pv, turnC]
  rfl

theorem Backward (xs : List PV) : Ct Try.prog 30 (YtnhkknaplkjigaaVm.ops [.row xs]) (.vals [.fn 46 [.ptr (.row xs)]]) := by
  refine Ct.of_V Try.func30 rfl (by simp [YtnhkknaplkjigaaVm.ops, Try.f30]) ?_
  refine V.exec 400 ?_
  simp (config := {contextual := true}) only [go_sem, ↓reduceIte, reduceCtorEq, Bool.false_eq_true, Bool.true_eq_false, Nat.reduceAdd, Nat.reduceLT, Nat.reduceEqDiff, Nat.reduceLeDiff, Nat.reduceSub, Nat.reduceMul, Try.f30]

def undoV (l : List Pair) (cs : List Change) : List Pair × Int := doV l (cs.reverse.map turnC)

/-- What has been put behind, when k rounds are over. -/
def backs (cs : List Change) (k : Nat) : List Change := (cs.reverse.take k).map turnC
theorem backs_succ (cs : List Change) (k : Nat) {x : Change} (h : cs[cs.length - 1 - k]? = some x) (hk : k < cs.length) : backs cs (k + 1) = backs cs k ++ [turnC x] := by
  unfold backs
  have : cs.reverse[k]? = some x := by rw [List.getElem?_reverse hk]; exact h
  rw [List.take_add_one, this]; simp
theorem backs_all (cs : List Change) : backs cs cs.length = cs.reverse.map turnC := by unfold backs; rw [List.take_of_length_le (by simp)]

theorem backs_zero (cs : List Change) : backs cs 0 = [] := rfl

def undoOs (cs : List Change) (k : Nat) : List Ob := [.box false [.ref 1], .row 46 ((backs cs k).map Change.pv)]

set_option maxRecDepth 10000 in
set_option maxHeartbeats 16000000 in
theorem change_Undo (l : List Pair) (cs : List Change) (hl : l.length ≤ 200000) (hn : cs.length ≤ 200000) : Ct Try.prog 20 (YtnhkknaplkjigaaVm.ops [.row (l.map Pair.pv), .row (cs.map Change.pv)]) (.vals [.row ((undoV l cs).1.map Pair.pv), .int .i64 (undoV l cs).2]) := by
  refine Ct.of_V Try.func20 rfl (by simp [YtnhkknaplkjigaaVm.ops, Try.f20]) ?_
  refine V.exec 400 ?_
  simp (config := {contextual := true}) only [go_sem, ↓reduceIte, reduceCtorEq, Bool.false_eq_true, Bool.true_eq_false, Nat.reduceAdd, Nat.reduceLT, Nat.reduceEqDiff, Nat.reduceLeDiff, Nat.reduceSub, Nat.reduceMul, Try.f20]
  refine V.call rfl rfl (by simp [dOK]) ⟨30, [], by simp only [go_sem, ↓reduceIte, reduceCtorEq, Bool.false_eq_true, Bool.true_eq_false, Nat.reduceAdd, Nat.reduceLT, Nat.reduceEqDiff, Nat.reduceLeDiff, Nat.reduceSub, Nat.reduceMul], ⟨_, rfl, rfl, rfl⟩, .inl ⟨[.row (cs.map Change.pv)], _, .inl (by simp only [go_sem, ↓reduceIte, reduceCtorEq, Bool.false_eq_true, Bool.true_eq_false, Nat.reduceAdd, Nat.reduceLT, Nat.reduceEqDiff, Nat.reduceLeDiff, Nat.reduceSub, Nat.reduceMul]), Backward (cs.map Change.pv), .inr (.inl ⟨_, rfl, rfl, rfl⟩)⟩⟩ ?_
  refine V.exec 400 ?_
  simp (config := {contextual := true}) only [go_sem, ↓reduceIte, reduceCtorEq, Bool.false_eq_true, Bool.true_eq_false, Nat.reduceAdd, Nat.reduceLT, Nat.reduceEqDiff, Nat.reduceLeDiff, Nat.reduceSub, Nat.reduceMul]
  refine V.cut 0 [(0, .val (.row (l.map Pair.pv))), (6, .adr 0 0), (10, .val (.fn 46 [.ptr (.row (cs.map Change.pv))]))] (undoOs cs 0) [some 4, none] (by simp only [go_sem, ↓reduceIte, reduceCtorEq, Bool.false_eq_true, Bool.true_eq_false, Nat.reduceAdd, Nat.reduceLT, Nat.reduceEqDiff, Nat.reduceLeDiff, Nat.reduceSub, Nat.reduceMul, undoOs, backs_zero, List.map_nil]; exact ⟨_, rfl, by decide⟩) ?_
  refine V.sem _ (SemCode.rangeL (x0 := .ptr (.row (cs.map Change.pv))) (fun i => i = 0) (fun ob => ob = (litSt [] (undoOs cs cs.length) 0).ob) (by simp only [go_sem, ↓reduceIte, reduceCtorEq, Bool.false_eq_true, Bool.true_eq_false, Nat.reduceAdd, Nat.reduceLT, Nat.reduceEqDiff, Nat.reduceLeDiff, Nat.reduceSub, Nat.reduceMul]) ⟨_, rfl, rfl, rfl⟩ Try.func46 rfl rfl (by simp [Try.f46]) (by decide) (by decide) ?_ ?_ 0 ?_) ?_
  · intro x hx i hi
    simp only [List.mem_cons, List.not_mem_nil, or_false] at hx
    rcases hx with rfl | rfl | rfl
    · exact hi.elim
    · exact hi.symm
    · exact hi.elim
  · rintro i rfl
    simp [litSt, undoOs]
  · intro rl rec md h1 h2 h3 h4 h5 h6 h7 h8 hYK
    refine V.exec 400 ?_
    have hw0 : IntKind.i64.wrap ((cs.length : Int) - 1) = (cs.length : Int) - 1 := by rw [wrap_small3] <;> omega
    simp (config := {contextual := true}) only [go_sem, ↓reduceIte, reduceCtorEq, Bool.false_eq_true, Bool.true_eq_false, Nat.reduceAdd, Nat.reduceLT, Nat.reduceEqDiff, Nat.reduceLeDiff, Nat.reduceSub, Nat.reduceMul, Try.f46, exec_retg, h8, hw0]
    refine V.lp (fun m σ => ∃ k, k ≤ cs.length ∧ m = cs.length - k ∧ σ.sl 0 = .val (.yld rl) ∧ σ.sl 1 = .val (.ptr (.row (cs.map Change.pv))) ∧ σ.sl 3 = .val (.int .i64 ((cs.length : Int) - 1 - k)) ∧ σ.ob = (litSt [] (undoOs cs k) 0).ob) cs.length ⟨0, Nat.zero_le _, rfl, by simp only [go_sem, ↓reduceIte, reduceCtorEq, Bool.false_eq_true, Bool.true_eq_false, Nat.reduceAdd, Nat.reduceLT, Nat.reduceEqDiff, Nat.reduceLeDiff, Nat.reduceSub, Nat.reduceMul], by simp only [go_sem, ↓reduceIte, reduceCtorEq, Bool.false_eq_true, Bool.true_eq_false, Nat.reduceAdd, Nat.reduceLT, Nat.reduceEqDiff, Nat.reduceLeDiff, Nat.reduceSub, Nat.reduceMul], by simp only [go_sem, ↓reduceIte, reduceCtorEq, Bool.false_eq_true, Bool.true_eq_false, Nat.reduceAdd, Nat.reduceLT, Nat.reduceEqDiff, Nat.reduceLeDiff, Nat.reduceSub, Nat.reduceMul, Int.sub_zero, Int.natCast_zero], rfl⟩ ?_
    rintro m σ ⟨k, hk, rfl, s0, s1, s3, so⟩
    refine V.exec 400 ?_
    by_cases hlt : k < cs.length
    · have hge : (0 : Int) ≤ (cs.length : Int) - 1 - k := by omega
      have hnat : ((cs.length : Int) - 1 - k).toNat = cs.length - 1 - k := by omega
      obtain ⟨x, hx⟩ : ∃ x, cs[cs.length - 1 - k]? = some x := ⟨_, List.getElem?_eq_getElem (by omega)⟩
      have hbs : (backs cs (k + 1)).map Change.pv = (backs cs k).map Change.pv ++ [(turnC x).pv] := by rw [backs_succ cs k hx hlt]; simp
      have hround : V .rnd Try.prog 23 (fun _ => False) [.code rec.assign, .stop (fun τ1 => V .rnd Try.prog 23 (fun τ => τ.ob 0 = .box false [.ref 106] ∧ τ.ob 106 = .row 46 ((backs cs (k + 1)).map Change.pv)) [.code rec.body] τ1)]
          (roundSt (litSt [(0, .val (.row (l.map Pair.pv))), (6, .adr 0 0), (10, .val (.fn 46 [.ptr (.row (cs.map Change.pv))]))] (undoOs cs 0) 0) 11 12 (.int .i64 ((cs.length : Int) - 1 - k)) x.pv σ.ob 100) := by
        rw [roundSt_lit _ _ _ _ _ _ _ _ (undoOs cs k) so, h5, h6]
        refine V.exec 400 ?_
        simp (config := {contextual := true}) only [go_sem, ↓reduceIte, reduceCtorEq, Bool.false_eq_true, Bool.true_eq_false, Nat.reduceAdd, Nat.reduceLT, Nat.reduceEqDiff, Nat.reduceLeDiff, Nat.reduceSub, Nat.reduceMul, undoOs, Change.pv]
        refine V.exec 400 ?_
        simp (config := {contextual := true}) only [go_sem, ↓reduceIte, reduceCtorEq, Bool.false_eq_true, Bool.true_eq_false, Nat.reduceAdd, Nat.reduceLT, Nat.reduceEqDiff, Nat.reduceLeDiff, Nat.reduceSub, Nat.reduceMul, Change.pv]
        refine DV.call [] [] (by simp only [go_sem, ↓reduceIte, reduceCtorEq, Bool.false_eq_true, Bool.true_eq_false, Nat.reduceAdd, Nat.reduceLT, Nat.reduceEqDiff, Nat.reduceLeDiff, Nat.reduceSub, Nat.reduceMul, Change.pv]) (by simp [dOK]) ⟨31, [], by simp only [go_sem, ↓reduceIte, reduceCtorEq, Bool.false_eq_true, Bool.true_eq_false, Nat.reduceAdd, Nat.reduceLT, Nat.reduceEqDiff, Nat.reduceLeDiff, Nat.reduceSub, Nat.reduceMul, Change.pv], ⟨_, rfl, rfl, rfl⟩, .inl ⟨[x.pv], _, .inl (by simp only [go_sem, ↓reduceIte, reduceCtorEq, Bool.false_eq_true, Bool.true_eq_false, Nat.reduceAdd, Nat.reduceLT, Nat.reduceEqDiff, Nat.reduceLeDiff, Nat.reduceSub, Nat.reduceMul, Change.pv]), change_turned x, .inr (.inl ⟨_, rfl, rfl, rfl⟩)⟩⟩ (by simp only [go_sem, ↓reduceIte, reduceCtorEq, Bool.false_eq_true, Bool.true_eq_false, Nat.reduceAdd, Nat.reduceLT, Nat.reduceEqDiff, Nat.reduceLeDiff, Nat.reduceSub, Nat.reduceMul, Change.pv]) (by simp only [go_sem, ↓reduceIte, reduceCtorEq, Bool.false_eq_true, Bool.true_eq_false, Nat.reduceAdd, Nat.reduceLT, Nat.reduceEqDiff, Nat.reduceLeDiff, Nat.reduceSub, Nat.reduceMul, Change.pv]) (by simp only [go_sem, ↓reduceIte, reduceCtorEq, Bool.false_eq_true, Bool.true_eq_false, Nat.reduceAdd, Nat.reduceLT, Nat.reduceEqDiff, Nat.reduceLeDiff, Nat.reduceSub, Nat.reduceMul, Change.pv]) (by simp) ?_
        refine DV.exec 400 ?_
        simp (config := {contextual := true}) only [go_sem, ↓reduceIte, reduceCtorEq, Bool.false_eq_true, Bool.true_eq_false, Nat.reduceAdd, Nat.reduceLT, Nat.reduceEqDiff, Nat.reduceLeDiff, Nat.reduceSub, Nat.reduceMul, Change.pv, turnC, hbs]
        have hbl : (backs cs k).length ≤ 200000 := by unfold backs; simp; omega
        exact ⟨⟨by omega, by omega⟩, by kernel_rfl⟩
      have hw1 : IntKind.i64.wrap ((cs.length : Int) - 1 - k - 1) = (cs.length : Int) - 1 - ((k + 1 : Nat) : Int) := by rw [wrap_small3] <;> omega
      simp (config := {contextual := true}) only [go_sem, ↓reduceIte, reduceCtorEq, Bool.false_eq_true, Bool.true_eq_false, Nat.reduceAdd, Nat.reduceLT, Nat.reduceEqDiff, Nat.reduceLeDiff, Nat.reduceSub, Nat.reduceMul, s0, s1, s3, hge, hnat, hx, Change.pv]
      simp only [Change.pv] at hround
      refine V.sop (J := fun σ' => V md _ _ _ _ σ') (SemOp.yield hYK h1 h2 h3 h4 (by decide) (by decide) rfl rfl (by simp only [go_sem, ↓reduceIte, reduceCtorEq, Bool.false_eq_true, Bool.true_eq_false, Nat.reduceAdd, Nat.reduceLT, Nat.reduceEqDiff, Nat.reduceLeDiff, Nat.reduceSub, Nat.reduceMul]) (by simp only [go_sem, ↓reduceIte, reduceCtorEq, Bool.false_eq_true, Bool.true_eq_false, Nat.reduceAdd, Nat.reduceLT, Nat.reduceEqDiff, Nat.reduceLeDiff, Nat.reduceSub, Nat.reduceMul]) (by simp only [go_sem, ↓reduceIte, reduceCtorEq, Bool.false_eq_true, Bool.true_eq_false, Nat.reduceAdd, Nat.reduceLT, Nat.reduceEqDiff, Nat.reduceLeDiff, Nat.reduceSub, Nat.reduceMul]) (by simp [dOK]) 100 hround (fun _ h => h) 0 ?_) (fun _ h => h)
      rintro ⟨sl2, ob2, ck2⟩ ⟨o1, o2⟩
      have o1 : ob2 0 = _ := o1
      have o2 : ob2 106 = _ := o2
      refine ⟨[(0, .val (.yld rl)), (1, .val (.ptr (.row (cs.map Change.pv)))), (3, .val (.int .i64 ((cs.length : Int) - 1 - k))), (17, .val (.bool true))], undoOs cs (k + 1), [some 0, some 106], 0, ?_, ?_, ?_⟩
      · simp only [go_sem, ↓reduceIte, reduceCtorEq, Bool.false_eq_true, Bool.true_eq_false, Nat.reduceAdd, Nat.reduceLT, Nat.reduceEqDiff, Nat.reduceLeDiff, Nat.reduceSub, Nat.reduceMul, s0, s1, s3, o1, o2, undoOs]
        decide
      · rintro i rfl; rfl
      · refine V.exec 400 ?_
        simp (config := {contextual := true}) only [go_sem, ↓reduceIte, reduceCtorEq, Bool.false_eq_true, Bool.true_eq_false, Nat.reduceAdd, Nat.reduceLT, Nat.reduceEqDiff, Nat.reduceLeDiff, Nat.reduceSub, Nat.reduceMul, hw1]
        exact ⟨cs.length - (k + 1), by omega, k + 1, by omega, rfl, rfl, rfl⟩
    · have hge : ¬ (0 : Int) ≤ (cs.length : Int) - 1 - k := by omega
      obtain rfl : k = cs.length := by omega
      simp (config := {contextual := true}) only [go_sem, ↓reduceIte, reduceCtorEq, Bool.false_eq_true, Bool.true_eq_false, Nat.reduceAdd, Nat.reduceLT, Nat.reduceEqDiff, Nat.reduceLeDiff, Nat.reduceSub, Nat.reduceMul, s0, s1, s3, hge]
      exact so
  · rintro ⟨sl, ob, ck⟩ ⟨hs, ho⟩
    have hs : sl = _ := hs
    have ho : ob = _ := ho
    subst hs ho
    show V _ _ _ _ _ (litSt [(0, .val (.row (l.map Pair.pv))), (6, .adr 0 0), (10, .val (.fn 46 [.ptr (.row (cs.map Change.pv))]))] (undoOs cs cs.length) ck)
    refine V.cut 10 [(0, .val (.row (l.map Pair.pv))), (6, .adr 0 0)] [.box false [.ref 1], .row 46 ((cs.reverse.map turnC).map Change.pv)] [some 0, some 1] (by simp only [go_sem, ↓reduceIte, reduceCtorEq, Bool.false_eq_true, Bool.true_eq_false, Nat.reduceAdd, Nat.reduceLT, Nat.reduceEqDiff, Nat.reduceLeDiff, Nat.reduceSub, Nat.reduceMul, undoOs, backs_all]; decide) ?_
    refine V.exec 400 ?_
    simp (config := {contextual := true}) only [go_sem, ↓reduceIte, reduceCtorEq, Bool.false_eq_true, Bool.true_eq_false, Nat.reduceAdd, Nat.reduceLT, Nat.reduceEqDiff, Nat.reduceLeDiff, Nat.reduceSub, Nat.reduceMul]
    refine V.call rfl rfl (by simp [dOK]) ⟨32, [], by simp only [go_sem, ↓reduceIte, reduceCtorEq, Bool.false_eq_true, Bool.true_eq_false, Nat.reduceAdd, Nat.reduceLT, Nat.reduceEqDiff, Nat.reduceLeDiff, Nat.reduceSub, Nat.reduceMul], ⟨_, rfl, rfl, rfl⟩, .inl ⟨[.row (l.map Pair.pv), .row ((cs.reverse.map turnC).map Change.pv)], _, .inl (by simp only [go_sem, ↓reduceIte, reduceCtorEq, Bool.false_eq_true, Bool.true_eq_false, Nat.reduceAdd, Nat.reduceLT, Nat.reduceEqDiff, Nat.reduceLeDiff, Nat.reduceSub, Nat.reduceMul]), change_Do l (cs.reverse.map turnC) hl (by simpa using hn), .inr (.inl ⟨_, rfl, rfl, rfl⟩)⟩⟩ ?_
    refine V.exec 400 ?_
    simp (config := {contextual := true}) only [go_sem, ↓reduceIte, reduceCtorEq, Bool.false_eq_true, Bool.true_eq_false, Nat.reduceAdd, Nat.reduceLT, Nat.reduceEqDiff, Nat.reduceLeDiff, Nat.reduceSub, Nat.reduceMul, undoV]
end Go.Proofs.Ytnhkknaplkjigaa
set_option linter.unusedVariables false
set_option linter.unusedSimpArgs false
namespace Go.Proofs.Ytnhkknaplkjigaa
open Go Go.Proofs Go.Proofs.YtnhkknaplkjigaaVm Go.Proofs.Ytnhkknaplkjigaa.Ty

def joinOk (a b : Change) : Prop := a.ok ∧ b.ok ∧ a.key = b.key ∧ a.seq < b.seq ∧ a.aft = b.bef ∧ a.has = b.had
instance instJoinOk (a b : Change) : Decidable (joinOk a b) := by unfold joinOk; infer_instance
def joinV (a b : Change) : Change × Int := if joinOk a b then madeV b.seq b.key (a.bef, a.had) (b.aft, b.has) else (Change.zero, 1)

end Go.Proofs.Ytnhkknaplkjigaa
set_option linter.unusedVariables false
set_option linter.unusedSimpArgs false
namespace Go.Proofs.Ytnhkknaplkjigaa
open Go Go.Proofs Go.Proofs.YtnhkknaplkjigaaVm Go.Proofs.Ytnhkknaplkjigaa.Ty

set_option maxRecDepth 4000 in
set_option maxHeartbeats 8000000 in
theorem ref13_May (c : Change) : Ct Try.prog 35 (YtnhkknaplkjigaaVm.ops [c.pv]) (.vals [.bool (decide c.ok)]) := by
  refine Ct.of_V Try.func35 rfl (by simp [YtnhkknaplkjigaaVm.ops, Try.f35]) ?_
  refine V.exec 400 ?_
  simp (config := {contextual := true}) only [go_sem, ↓reduceIte, reduceCtorEq, Bool.false_eq_true, Bool.true_eq_false, Nat.reduceAdd, Nat.reduceLT, Nat.reduceEqDiff, Nat.reduceLeDiff, Nat.reduceSub, Nat.reduceMul, Try.f35, Change.pv]
  simp only [Option.some.injEq, List.cons.injEq, PV.bool.injEq, and_true]
  (repeat' (first | (intro _) | (refine ⟨by kernel_rfl, ?_⟩) | (apply And.intro)))
  all_goals grind [Change.ok]

/-- Do pairs have a key just so? -/
def fitsP (l : List Pair) (k : List UInt8) (has : Bool) (v : List UInt8) : Prop := match getL l k with
  | some p => has = true ∧ p.value = v
  | none => has = false
instance instFitsP (l : List Pair) (k : List UInt8) (has : Bool) (v : List UInt8) : Decidable (fitsP l k has v) := by unfold fitsP; split <;> infer_instance

set_option maxHeartbeats 4000000 in
theorem ref15_fits (l : List Pair) (k : List UInt8) (has : Bool) (v : List UInt8) (hl : l.length ≤ 1000000) (hs : Sorted l) : Ct Try.prog 36 (YtnhkknaplkjigaaVm.ops [.row (l.map Pair.pv), .str k, .bool (decide (has = true)), .str v]) (.vals [.bool (decide (fitsP l k has v))]) := by
  have cf := ref10_Find l k hl
  cases hg : getL l k with
  | none =>
    rw [refFindP_neg hg] at cf
    have hm1 : (-1 : Int) < 0 := by decide
    have e : fitsP l k has v ↔ has = false := by unfold fitsP; rw [hg]
    refine Ct.of_V Try.func36 rfl (by simp [YtnhkknaplkjigaaVm.ops, Try.f36]) ?_
    refine V.exec 400 ?_
    simp (config := {contextual := true}) only [go_sem, ↓reduceIte, reduceCtorEq, Bool.false_eq_true, Bool.true_eq_false, Nat.reduceAdd, Nat.reduceLT, Nat.reduceEqDiff, Nat.reduceLeDiff, Nat.reduceSub, Nat.reduceMul, Try.f36]
    refine V.call rfl rfl (by simp [dOK]) ⟨15, [], by simp only [go_sem, ↓reduceIte, reduceCtorEq, Bool.false_eq_true, Bool.true_eq_false, Nat.reduceAdd, Nat.reduceLT, Nat.reduceEqDiff, Nat.reduceLeDiff, Nat.reduceSub, Nat.reduceMul], ⟨_, rfl, rfl, rfl⟩, .inl ⟨[.row (l.map Pair.pv), .str k], _, .inl (by simp only [go_sem, ↓reduceIte, reduceCtorEq, Bool.false_eq_true, Bool.true_eq_false, Nat.reduceAdd, Nat.reduceLT, Nat.reduceEqDiff, Nat.reduceLeDiff, Nat.reduceSub, Nat.reduceMul]), cf, .inl ⟨_, rfl, rfl, rfl, rfl⟩⟩⟩ ?_
    refine V.exec 400 ?_
    simp (config := {contextual := true}) only [go_sem, ↓reduceIte, reduceCtorEq, Bool.false_eq_true, Bool.true_eq_false, Nat.reduceAdd, Nat.reduceLT, Nat.reduceEqDiff, Nat.reduceLeDiff, Nat.reduceSub, Nat.reduceMul, hm1]
    cases has <;> simp [e]
  | some p =>
    obtain ⟨i, hfi, hpi, hil⟩ := refFindP_some hs hg
    rw [hfi] at cf
    have hil' : (i : Int) < (l.length : Int) := by omega
    have h0 : ¬ (i : Int) < 0 := by omega
    have e : ∀ b, fitsP l k b v ↔ b = true ∧ p.value = v := fun b => by unfold fitsP; rw [hg]
    refine Ct.of_V Try.func36 rfl (by simp [YtnhkknaplkjigaaVm.ops, Try.f36]) ?_
    refine V.exec 400 ?_
    simp (config := {contextual := true}) only [go_sem, ↓reduceIte, reduceCtorEq, Bool.false_eq_true, Bool.true_eq_false, Nat.reduceAdd, Nat.reduceLT, Nat.reduceEqDiff, Nat.reduceLeDiff, Nat.reduceSub, Nat.reduceMul, Try.f36]
    refine V.call rfl rfl (by simp [dOK]) ⟨15, [], by simp only [go_sem, ↓reduceIte, reduceCtorEq, Bool.false_eq_true, Bool.true_eq_false, Nat.reduceAdd, Nat.reduceLT, Nat.reduceEqDiff, Nat.reduceLeDiff, Nat.reduceSub, Nat.reduceMul], ⟨_, rfl, rfl, rfl⟩, .inl ⟨[.row (l.map Pair.pv), .str k], _, .inl (by simp only [go_sem, ↓reduceIte, reduceCtorEq, Bool.false_eq_true, Bool.true_eq_false, Nat.reduceAdd, Nat.reduceLT, Nat.reduceEqDiff, Nat.reduceLeDiff, Nat.reduceSub, Nat.reduceMul]), cf, .inl ⟨_, rfl, rfl, rfl, rfl⟩⟩⟩ ?_
    refine V.exec 400 ?_
    simp (config := {contextual := true}) only [go_sem, ↓reduceIte, reduceCtorEq, Bool.false_eq_true, Bool.true_eq_false, Nat.reduceAdd, Nat.reduceLT, Nat.reduceEqDiff, Nat.reduceLeDiff, Nat.reduceSub, Nat.reduceMul, h0, hpi, hil', Pair.pv]
    cases has <;> simp [e]

/-- Pairs with a key just so. -/
def insR (k v : List UInt8) : List Pair → List Pair
  | [] => [⟨k, v⟩]
  | p :: r => if slt p.key k then p :: insR k v r else ⟨k, v⟩ :: (p :: r).filter (fun p => decide (¬ p.key = k))
def setR (l : List Pair) (k : List UInt8) (has : Bool) (v : List UInt8) : List Pair := if has = true then insR k v l else l.filter (fun p => decide (¬ p.key = k))
def restR (d : Bool) (k v : List UInt8) (l : List Pair) : List Pair := if d = true then l.filter (fun p => decide (¬ p.key = k)) else insR k v l

theorem restR_len (d : Bool) (k v : List UInt8) : ∀ l : List Pair, (restR d k v l).length ≤ l.length + 1
  | [] => by cases d <;> simp [restR, insR]
  | p :: r => by
    have ih := restR_len d k v r
    unfold restR at *
    cases d with
    | true =>
      have h := List.length_filter_le (fun p => decide (¬ p.key = k)) (p :: r)
      rw [if_pos rfl]; omega
    | false =>
      rw [if_neg (by decide)] at *
      unfold insR
      split
      · simp only [List.length_cons]; omega
      · have h := List.length_filter_le (fun p => decide (¬ p.key = k)) (p :: r)
        simp only [List.length_cons] at *; omega

set_option maxRecDepth 10000 in
set_option maxHeartbeats 16000000 in
theorem ref15_set (l : List Pair) (k : List UInt8) (has : Bool) (v : List UInt8) (hl : l.length ≤ 1000000) : Ct Try.prog 37 (YtnhkknaplkjigaaVm.ops [.row (l.map Pair.pv), .str k, .bool (decide (has = true)), .str v]) (.vals [.row ((setR l k has v).map Pair.pv)]) := by
  have h0 : setR l k has v = restR (!has) k v l := by cases has <;> rfl
  have hd0 : (!decide (has = true)) = decide ((!has) = true) := by cases has <;> rfl
  rw [h0]
  have hca0 : [] ++ restR (!has) k v (l.drop 0) = restR (!has) k v l := by simp
  have hlen := restR_len (!has) k v l
  generalize restR (!has) k v l = RES at *
  refine Ct.of_V Try.func37 rfl (by simp [YtnhkknaplkjigaaVm.ops, Try.f37]) ?_
  refine V.exec 400 ?_
  simp (config := {contextual := true}) only [go_sem, ↓reduceIte, reduceCtorEq, Bool.false_eq_true, Bool.true_eq_false, Nat.reduceAdd, Nat.reduceLT, Nat.reduceEqDiff, Nat.reduceLeDiff, Nat.reduceSub, Nat.reduceMul, Try.f37, hd0]
  refine V.loop (fun m ls os => ∃ (i : Nat) (d : Bool) (out : List Pair), i ≤ l.length ∧ m = l.length - i ∧ out ++ restR d k v (l.drop i) = RES ∧
        ls = [(0, .val (.row (l.map Pair.pv))), (1, .val (.str k)), (3, .val (.str v)), (9, .ref 0), (10, .val (.bool (decide (d = true)))), (11, .val (.int .i64 i))] ∧ os = [.row 41 (out.map Pair.pv)]) 1 l.length
      [(0, .val (.row (l.map Pair.pv))), (1, .val (.str k)), (3, .val (.str v)), (9, .ref 0), (10, .val (.bool (decide ((!has) = true)))), (11, .val (.int .i64 0))] [.row 41 []] [none]
      ⟨0, !has, [], Nat.zero_le _, rfl, hca0, rfl, rfl⟩ (by simp only [go_sem, ↓reduceIte, reduceCtorEq, Bool.false_eq_true, Bool.true_eq_false, Nat.reduceAdd, Nat.reduceLT, Nat.reduceEqDiff, Nat.reduceLeDiff, Nat.reduceSub, Nat.reduceMul]; try decide) ?_
  rintro m ls os ⟨i, d, out, hi, rfl, hca, rfl, rfl⟩
  refine V.exec 400 ?_
  have hol : out.length ≤ l.length + 1 := by have := congrArg List.length hca; rw [List.length_append] at this; omega
  by_cases hlt : i < l.length
  · have hlt' : (i : Int) < (l.length : Int) := by omega
    obtain ⟨p, hp⟩ : ∃ x, l[i]? = some x := ⟨_, List.getElem?_eq_getElem hlt⟩
    have hw : IntKind.i64.wrap ((i : Int) + 1) = ((i + 1 : Nat) : Int) := by rw [wrap_small3] <;> omega
    rw [drop_of_get hp] at hca
    cases d with
    | true =>
      by_cases hk : p.key = k
      · have hn : out ++ restR true k v (l.drop (i + 1)) = RES := by rw [← hca]; simp [restR, hk]
        simp (config := {contextual := true}) only [go_sem, ↓reduceIte, reduceCtorEq, Bool.false_eq_true, Bool.true_eq_false, Nat.reduceAdd, Nat.reduceLT, Nat.reduceEqDiff, Nat.reduceLeDiff, Nat.reduceSub, Nat.reduceMul, hlt', hp, hw, hk, Pair.pv, decide_true]
        refine ⟨l.length - (i + 1), _, _, [some 0], by omega, ⟨i + 1, true, out, by omega, rfl, hn, rfl, rfl⟩, ?_⟩
        simp only [go_sem, ↓reduceIte, reduceCtorEq, Bool.false_eq_true, Bool.true_eq_false, Nat.reduceAdd, Nat.reduceLT, Nat.reduceEqDiff, Nat.reduceLeDiff, Nat.reduceSub, Nat.reduceMul, decide_true]
      · have hn : (out ++ [p]) ++ restR true k v (l.drop (i + 1)) = RES := by rw [← hca]; simp [restR, hk]
        simp (config := {contextual := true}) only [go_sem, ↓reduceIte, reduceCtorEq, Bool.false_eq_true, Bool.true_eq_false, Nat.reduceAdd, Nat.reduceLT, Nat.reduceEqDiff, Nat.reduceLeDiff, Nat.reduceSub, Nat.reduceMul, hlt', hp, hw, hk, Pair.pv, decide_true]
        refine ⟨⟨by omega, by omega⟩, l.length - (i + 1), _, _, [some 29], by omega, ⟨i + 1, true, _, by omega, rfl, hn, rfl, rfl⟩, ?_⟩
        simp only [go_sem, ↓reduceIte, reduceCtorEq, Bool.false_eq_true, Bool.true_eq_false, Nat.reduceAdd, Nat.reduceLT, Nat.reduceEqDiff, Nat.reduceLeDiff, Nat.reduceSub, Nat.reduceMul, List.map_append, List.map_cons, List.map_nil, Pair.pv, decide_true, decide_false]
    | false =>
      by_cases hs : slt p.key k
      · have hk : ¬ p.key = k := fun e => slt_irrefl k (by rw [e] at hs; exact hs)
        have hn : (out ++ [p]) ++ restR false k v (l.drop (i + 1)) = RES := by rw [← hca]; simp [restR, insR, hs]
        simp (config := {contextual := true}) only [go_sem, ↓reduceIte, reduceCtorEq, Bool.false_eq_true, Bool.true_eq_false, Nat.reduceAdd, Nat.reduceLT, Nat.reduceEqDiff, Nat.reduceLeDiff, Nat.reduceSub, Nat.reduceMul, hlt', hp, hw, hk, hs, Pair.pv, decide_true, decide_false]
        refine ⟨⟨by omega, by omega⟩, l.length - (i + 1), _, _, [some 29], by omega, ⟨i + 1, false, _, by omega, rfl, hn, rfl, rfl⟩, ?_⟩
        simp only [go_sem, ↓reduceIte, reduceCtorEq, Bool.false_eq_true, Bool.true_eq_false, Nat.reduceAdd, Nat.reduceLT, Nat.reduceEqDiff, Nat.reduceLeDiff, Nat.reduceSub, Nat.reduceMul, List.map_append, List.map_cons, List.map_nil, Pair.pv, decide_true, decide_false]
      · by_cases hk : p.key = k
        · have hn : (out ++ [⟨k, v⟩]) ++ restR true k v (l.drop (i + 1)) = RES := by rw [← hca]; rw [hk] at hs; simp [restR, insR, hs, hk]
          have hsi := slt_irrefl k
          simp (config := {contextual := true}) only [go_sem, ↓reduceIte, reduceCtorEq, Bool.false_eq_true, Bool.true_eq_false, Nat.reduceAdd, Nat.reduceLT, Nat.reduceEqDiff, Nat.reduceLeDiff, Nat.reduceSub, Nat.reduceMul, hlt', hp, hw, hk, hsi, Pair.pv, decide_true, decide_false]
          refine ⟨⟨by omega, by omega⟩, l.length - (i + 1), _, _, [some 21], by omega, ⟨i + 1, true, _, by omega, rfl, hn, rfl, rfl⟩, ?_⟩
          simp only [go_sem, ↓reduceIte, reduceCtorEq, Bool.false_eq_true, Bool.true_eq_false, Nat.reduceAdd, Nat.reduceLT, Nat.reduceEqDiff, Nat.reduceLeDiff, Nat.reduceSub, Nat.reduceMul, List.map_append, List.map_cons, List.map_nil, Pair.pv, decide_true, decide_false]
        · have hn : (out ++ [⟨k, v⟩, p]) ++ restR true k v (l.drop (i + 1)) = RES := by rw [← hca]; simp [restR, insR, hs, hk]
          simp (config := {contextual := true}) only [go_sem, ↓reduceIte, reduceCtorEq, Bool.false_eq_true, Bool.true_eq_false, Nat.reduceAdd, Nat.reduceLT, Nat.reduceEqDiff, Nat.reduceLeDiff, Nat.reduceSub, Nat.reduceMul, hlt', hp, hw, hk, hs, Pair.pv, decide_true, decide_false]
          refine ⟨⟨by omega, by omega⟩, ⟨by simp; omega, by simp; omega⟩, l.length - (i + 1), _, _, [some 37], by omega, ⟨i + 1, true, _, by omega, rfl, hn, rfl, rfl⟩, ?_⟩
          simp only [go_sem, ↓reduceIte, reduceCtorEq, Bool.false_eq_true, Bool.true_eq_false, Nat.reduceAdd, Nat.reduceLT, Nat.reduceEqDiff, Nat.reduceLeDiff, Nat.reduceSub, Nat.reduceMul, List.map_append, List.map_cons, List.map_nil, Pair.pv, decide_true, decide_false, List.append_assoc, List.cons_append, List.nil_append]
  · have hlt' : ¬ (i : Int) < (l.length : Int) := by omega
    have hd : l.drop i = [] := List.drop_eq_nil_of_le (by omega)
    rw [hd] at hca
    cases d with
    | true =>
      have : out = RES := by rw [← hca]; simp [restR]
      simp (config := {contextual := true}) only [go_sem, ↓reduceIte, reduceCtorEq, Bool.false_eq_true, Bool.true_eq_false, Nat.reduceAdd, Nat.reduceLT, Nat.reduceEqDiff, Nat.reduceLeDiff, Nat.reduceSub, Nat.reduceMul, hlt', this, decide_true]
    | false =>
      have hn : out ++ [⟨k, v⟩] = RES := by rw [← hca]; simp [restR, insR]
      simp (config := {contextual := true}) only [go_sem, ↓reduceIte, reduceCtorEq, Bool.false_eq_true, Bool.true_eq_false, Nat.reduceAdd, Nat.reduceLT, Nat.reduceEqDiff, Nat.reduceLeDiff, Nat.reduceSub, Nat.reduceMul, hlt', decide_false]
      refine ⟨⟨by omega, by omega⟩, ?_⟩
      rw [← hn]; simp [Pair.pv]
end Go.Proofs.Ytnhkknaplkjigaa
set_option linter.unusedVariables false
set_option linter.unusedSimpArgs false
namespace Go.Proofs.Ytnhkknaplkjigaa
open Go Go.Proofs Go.Proofs.YtnhkknaplkjigaaVm Go.Proofs.Ytnhkknaplkjigaa.Ty

theorem insR_mem {k v : List UInt8} : ∀ (l : List Pair), Sorted l → ∀ p, p ∈ insR k v l ↔ p = ⟨k, v⟩ ∨ (p ∈ l ∧ p.key ≠ k)
  | [], _, p => by simp [insR]
  | q :: r, hs, p => by
    have hs' := hs
    cases hs with
    | cons h1 h2 =>
      have ih := insR_mem (k := k) (v := v) r h2 p
      unfold insR
      split
      · rename_i hq
        have hne : q.key ≠ k := fun e => slt_irrefl k (by rw [e] at hq; exact hq)
        rw [List.mem_cons, ih, List.mem_cons]
        constructor
        · rintro (rfl | h | h)
          · exact .inr ⟨.inl rfl, hne⟩
          · exact .inl h
          · exact .inr ⟨.inr h.1, h.2⟩
        · rintro (h | ⟨rfl | h, h3⟩)
          · exact .inr (.inl h)
          · exact .inl rfl
          · exact .inr (.inr ⟨h, h3⟩)
      · rw [List.mem_cons, List.mem_filter]
        simp
theorem insR_sorted {k v : List UInt8} : ∀ (l : List Pair), Sorted l → Sorted (insR k v l)
  | [], _ => List.pairwise_singleton _ _
  | q :: r, hs => by
    have hs' := hs
    cases hs with
    | cons h1 h2 =>
      have ih := insR_sorted (k := k) (v := v) r h2
      unfold insR
      split
      · rename_i hq
        refine List.pairwise_cons.2 ⟨fun p hp => ?_, ih⟩
        rcases (insR_mem r h2 p).1 hp with rfl | hp
        · exact hq
        · exact h1 p hp.1
      · rename_i hq
        refine List.pairwise_cons.2 ⟨fun p hp => ?_, hs'.filter _⟩
        rw [List.mem_filter] at hp
        have hne : p.key ≠ k := by simpa using hp.2
        rcases slt_total k p.key with h | h | h
        · exact h
        · exact absurd h.symm hne
        · exfalso
          rcases List.mem_cons.1 hp.1 with rfl | hm
          · exact hq h
          · exact hq (slt_trans (h1 p hm) h)
theorem setR_sorted {l : List Pair} (hs : Sorted l) (k : List UInt8) (has : Bool) (v : List UInt8) : Sorted (setR l k has v) := by
  unfold setR; split
  · exact insR_sorted l hs
  · exact hs.filter _
theorem setR_val {l : List Pair} (hs : Sorted l) (k : List UInt8) (has : Bool) (v : List UInt8) (k' : List UInt8) : val (setR l k has v) k' = if k' = k then (if has = true then some v else none) else val l k' := by
  apply Option.ext
  intro w
  rw [val_iff (setR_sorted hs k has v)]
  unfold setR
  cases has with
  | true =>
    rw [if_pos rfl, insR_mem l hs]
    by_cases hk : k' = k
    · subst hk; simp [eq_comm]
    · rw [if_neg hk, val_iff hs]; simp [hk]
  | false =>
    rw [if_neg (by decide), List.mem_filter]
    by_cases hk : k' = k
    · subst hk; simp
    · rw [if_neg hk, val_iff hs]; simp [hk]
/-- What a change makes of pairs. -/
theorem setR_note {l : List Pair} (hs : Sorted l) (c : Change) : setR l c.key c.has c.aft = oneV l (noteC c) := by
  refine val_ext (setR_sorted hs _ _ _) (oneV_sorted hs _) fun k => ?_
  rw [setR_val hs, oneV_val hs, noteC_key]
  split
  · unfold noteC
    split
    · rw [stepO_put _ rfl]
    · rw [stepO_del _ rfl]
  · rfl
theorem setR_len (l : List Pair) (k : List UInt8) (has : Bool) (v : List UInt8) : (setR l k has v).length ≤ l.length + 1 := by
  have := restR_len (!has) k v l
  cases has <;> exact this
theorem fits_iff {l : List Pair} (h : pairsOk l) {c : Change} (hc : c.ok) : fitsP l c.key c.had c.bef ↔ fitC l c := by
  unfold fitsP fitC getV
  rw [if_pos h]
  cases getL l c.key with
  | none =>
    simp only [Prod.mk.injEq]
    constructor
    · intro h1
      rcases hc.2.2.2.2.2.1 with h2 | h2
      · rw [h1] at h2; cases h2
      · exact ⟨h2.symm, h1.symm⟩
    · rintro ⟨_, h2⟩; exact h2.symm
  | some p =>
    simp only [Prod.mk.injEq]
    constructor
    · rintro ⟨h1, h2⟩; exact ⟨h2, h1.symm⟩
    · rintro ⟨h1, h2⟩; exact ⟨h2.symm, h1⟩
theorem turn_ok (c : Change) : (turnC c).ok ↔ c.ok := by
  unfold Change.ok turnC
  simp only
  grind

set_option maxRecDepth 10000 in
set_option maxHeartbeats 16000000 in
theorem ref15_Undo (l : List Pair) (cs : List Change) (hl : l.length ≤ 200000) (hn : cs.length ≤ 200000) : Ct Try.prog 24 (YtnhkknaplkjigaaVm.ops [.row (l.map Pair.pv), .row (cs.map Change.pv)]) (.vals [.row ((undoV l cs).1.map Pair.pv), .bool (decide ((undoV l cs).2 = 0))]) := by
  unfold undoV
  obtain ⟨ds, hds⟩ : ∃ ds, ds = cs.reverse.map turnC := ⟨_, rfl⟩
  have hdl : ds.length = cs.length := by rw [hds]; simp
  rw [← hds]
  have hwn : IntKind.i64.wrap ((cs.length : Int) - 1) = (cs.length : Int) - 1 := by rw [wrap_small3] <;> omega
  refine Ct.of_V Try.func24 rfl (by simp [YtnhkknaplkjigaaVm.ops, Try.f24]) ?_
  refine V.exec 400 ?_
  simp (config := {contextual := true}) only [go_sem, ↓reduceIte, reduceCtorEq, Bool.false_eq_true, Bool.true_eq_false, Nat.reduceAdd, Nat.reduceLT, Nat.reduceEqDiff, Nat.reduceLeDiff, Nat.reduceSub, Nat.reduceMul, Try.f24]
  refine V.call rfl rfl (by simp [dOK]) ⟨22, [], by simp only [go_sem, ↓reduceIte, reduceCtorEq, Bool.false_eq_true, Bool.true_eq_false, Nat.reduceAdd, Nat.reduceLT, Nat.reduceEqDiff, Nat.reduceLeDiff, Nat.reduceSub, Nat.reduceMul], ⟨_, rfl, rfl, rfl⟩, .inl ⟨[.row (l.map Pair.pv)], _, .inl (by simp only [go_sem, ↓reduceIte, reduceCtorEq, Bool.false_eq_true, Bool.true_eq_false, Nat.reduceAdd, Nat.reduceLT, Nat.reduceEqDiff, Nat.reduceLeDiff, Nat.reduceSub, Nat.reduceMul]), ref10_Right l (by omega), .inl ⟨_, rfl, rfl, rfl, rfl⟩⟩⟩ ?_
  refine V.exec 400 ?_
  simp (config := {contextual := true}) only [go_sem, ↓reduceIte, reduceCtorEq, Bool.false_eq_true, Bool.true_eq_false, Nat.reduceAdd, Nat.reduceLT, Nat.reduceEqDiff, Nat.reduceLeDiff, Nat.reduceSub, Nat.reduceMul, hwn]
  refine V.loop (fun m ls os => ∃ (i : Nat) (ok : Bool) (cur : List Pair), i ≤ cs.length ∧ m = cs.length - i ∧ (ok = true → pairsOk cur ∧ cur.length ≤ l.length + i ∧ pairsOk l ∧ doGo cur (ds.drop i) = doGo l ds) ∧ (ok = false → doV l ds = (l, 1)) ∧
        ls = [(0, .val (.row (l.map Pair.pv))), (1, .val (.row (cs.map Change.pv))), (6, .val (.bool (decide (ok = true)))), (7, .val (.row (cur.map Pair.pv))), (8, .val (.int .i64 ((cs.length : Int) - 1 - i)))] ∧ os = []) 0 cs.length
      [(0, .val (.row (l.map Pair.pv))), (1, .val (.row (cs.map Change.pv))), (6, .val (.bool (decide (decide (pairsOk l) = true)))), (7, .val (.row (l.map Pair.pv))), (8, .val (.int .i64 ((cs.length : Int) - 1)))] [] []
      ⟨0, decide (pairsOk l), l, Nat.zero_le _, rfl, fun h => ⟨by simpa using h, Nat.le_refl _, by simpa using h, rfl⟩, fun h => by unfold doV; rw [if_neg (by simpa using h)], by simp, rfl⟩ (by simp only [go_sem, ↓reduceIte, reduceCtorEq, Bool.false_eq_true, Bool.true_eq_false, Nat.reduceAdd, Nat.reduceLT, Nat.reduceEqDiff, Nat.reduceLeDiff, Nat.reduceSub, Nat.reduceMul, decide_eq_true_eq, Int.sub_zero, Int.natCast_zero]) ?_
  rintro m ls os ⟨i, ok, cur, hi, rfl, hgood, hbad, rfl, rfl⟩
  refine V.exec 400 ?_
  cases ok with
  | false =>
    have hv := hbad rfl
    by_cases hlt : (0 : Int) ≤ (cs.length : Int) - 1 - i
    · simp (config := {contextual := true}) only [go_sem, ↓reduceIte, reduceCtorEq, Bool.false_eq_true, Bool.true_eq_false, Nat.reduceAdd, Nat.reduceLT, Nat.reduceEqDiff, Nat.reduceLeDiff, Nat.reduceSub, Nat.reduceMul, hlt, hv, decide_false]
      rfl
    · simp (config := {contextual := true}) only [go_sem, ↓reduceIte, reduceCtorEq, Bool.false_eq_true, Bool.true_eq_false, Nat.reduceAdd, Nat.reduceLT, Nat.reduceEqDiff, Nat.reduceLeDiff, Nat.reduceSub, Nat.reduceMul, hlt, hv, decide_false]
      rfl
  | true =>
    obtain ⟨hco, hcl, hok, hca⟩ := hgood rfl
    by_cases hlt : i < cs.length
    · have hlt' : (0 : Int) ≤ (cs.length : Int) - 1 - i := by omega
      have hnat : ((cs.length : Int) - 1 - i).toNat = cs.length - 1 - i := by omega
      obtain ⟨z, hx⟩ : ∃ x, cs[cs.length - 1 - i]? = some x := ⟨_, List.getElem?_eq_getElem (by omega)⟩
      obtain ⟨x, hxz⟩ : ∃ x, x = turnC z := ⟨_, rfl⟩
      have hdx : ds[i]? = some x := by rw [hds, List.getElem?_map, List.getElem?_reverse hlt, hx, hxz]; rfl
      have hzo : z.ok ↔ x.ok := by rw [hxz]; exact (turn_ok z).symm
      have z1 : z.key = x.key := by rw [hxz]; rfl
      have z2 : z.had = x.has := by rw [hxz]; rfl
      have z3 : z.bef = x.aft := by rw [hxz]; rfl
      have z4 : z.has = x.had := by rw [hxz]; rfl
      have z5 : z.aft = x.bef := by rw [hxz]; rfl
      have hw : IntKind.i64.wrap ((cs.length : Int) - 1 - i - 1) = (cs.length : Int) - 1 - ((i + 1 : Nat) : Int) := by rw [wrap_small3] <;> omega
      have hsc := ((pairsOk_iff cur).1 hco).1
      rw [drop_of_get hdx, doGo] at hca
      simp (config := {contextual := true}) only [go_sem, ↓reduceIte, reduceCtorEq, Bool.false_eq_true, Bool.true_eq_false, Nat.reduceAdd, Nat.reduceLT, Nat.reduceEqDiff, Nat.reduceLeDiff, Nat.reduceSub, Nat.reduceMul, hlt', hnat, hx, Change.pv, decide_true]
      refine DV.call [] [] (by simp only [go_sem, ↓reduceIte, reduceCtorEq, Bool.false_eq_true, Bool.true_eq_false, Nat.reduceAdd, Nat.reduceLT, Nat.reduceEqDiff, Nat.reduceLeDiff, Nat.reduceSub, Nat.reduceMul, Change.pv]) (by simp [dOK]) ⟨35, [], by simp only [go_sem, ↓reduceIte, reduceCtorEq, Bool.false_eq_true, Bool.true_eq_false, Nat.reduceAdd, Nat.reduceLT, Nat.reduceEqDiff, Nat.reduceLeDiff, Nat.reduceSub, Nat.reduceMul, Change.pv], ⟨_, rfl, rfl, rfl⟩, .inl ⟨[z.pv], _, .inl (by simp only [go_sem, ↓reduceIte, reduceCtorEq, Bool.false_eq_true, Bool.true_eq_false, Nat.reduceAdd, Nat.reduceLT, Nat.reduceEqDiff, Nat.reduceLeDiff, Nat.reduceSub, Nat.reduceMul, Change.pv]), ref13_May z, .inl ⟨_, rfl, rfl, rfl, rfl⟩⟩⟩ (by simp only [go_sem, ↓reduceIte, reduceCtorEq, Bool.false_eq_true, Bool.true_eq_false, Nat.reduceAdd, Nat.reduceLT, Nat.reduceEqDiff, Nat.reduceLeDiff, Nat.reduceSub, Nat.reduceMul, Change.pv]) (by simp only [go_sem, ↓reduceIte, reduceCtorEq, Bool.false_eq_true, Bool.true_eq_false, Nat.reduceAdd, Nat.reduceLT, Nat.reduceEqDiff, Nat.reduceLeDiff, Nat.reduceSub, Nat.reduceMul, Change.pv]) (by simp only [go_sem, ↓reduceIte, reduceCtorEq, Bool.false_eq_true, Bool.true_eq_false, Nat.reduceAdd, Nat.reduceLT, Nat.reduceEqDiff, Nat.reduceLeDiff, Nat.reduceSub, Nat.reduceMul, Change.pv]) (by simp) ?_
      refine DV.exec 400 ?_
      rw [show decide z.ok = decide x.ok from decide_eq_decide.2 hzo]
      simp (config := {contextual := true}) only [go_sem, ↓reduceIte, reduceCtorEq, Bool.false_eq_true, Bool.true_eq_false, Nat.reduceAdd, Nat.reduceLT, Nat.reduceEqDiff, Nat.reduceLeDiff, Nat.reduceSub, Nat.reduceMul, hlt', hnat, hx, Change.pv, z1, z2, z3, z4, z5]
      refine DV.call [] [] (by simp only [go_sem, ↓reduceIte, reduceCtorEq, Bool.false_eq_true, Bool.true_eq_false, Nat.reduceAdd, Nat.reduceLT, Nat.reduceEqDiff, Nat.reduceLeDiff, Nat.reduceSub, Nat.reduceMul]) (by simp [dOK]) ⟨36, [], by simp only [go_sem, ↓reduceIte, reduceCtorEq, Bool.false_eq_true, Bool.true_eq_false, Nat.reduceAdd, Nat.reduceLT, Nat.reduceEqDiff, Nat.reduceLeDiff, Nat.reduceSub, Nat.reduceMul], ⟨_, rfl, rfl, rfl⟩, .inl ⟨[.row (cur.map Pair.pv), .str x.key, .bool (decide (x.had = true)), .str x.bef], _, .inl (by simp only [go_sem, ↓reduceIte, reduceCtorEq, Bool.false_eq_true, Bool.true_eq_false, Nat.reduceAdd, Nat.reduceLT, Nat.reduceEqDiff, Nat.reduceLeDiff, Nat.reduceSub, Nat.reduceMul]), ref15_fits cur x.key x.had x.bef (by omega) hsc, .inl ⟨_, rfl, rfl, rfl, rfl⟩⟩⟩ (by simp only [go_sem, ↓reduceIte, reduceCtorEq, Bool.false_eq_true, Bool.true_eq_false, Nat.reduceAdd, Nat.reduceLT, Nat.reduceEqDiff, Nat.reduceLeDiff, Nat.reduceSub, Nat.reduceMul]) (by simp only [go_sem, ↓reduceIte, reduceCtorEq, Bool.false_eq_true, Bool.true_eq_false, Nat.reduceAdd, Nat.reduceLT, Nat.reduceEqDiff, Nat.reduceLeDiff, Nat.reduceSub, Nat.reduceMul]) (by simp only [go_sem, ↓reduceIte, reduceCtorEq, Bool.false_eq_true, Bool.true_eq_false, Nat.reduceAdd, Nat.reduceLT, Nat.reduceEqDiff, Nat.reduceLeDiff, Nat.reduceSub, Nat.reduceMul]) (by simp) ?_
      refine DV.exec 400 ?_
      have cs0 := ref15_set cur x.key x.has x.aft (by omega)
      have hsl := setR_len cur x.key x.has x.aft
      by_cases hm : x.ok
      · by_cases hf : fitsP cur x.key x.had x.bef
        · have hgo := if_pos (c := x.ok ∧ fitC cur x) ⟨hm, (fits_iff hco hm).1 hf⟩ ▸ hca
          rw [setR_note hsc x] at cs0 hsl
          have hoo := oneV_pairsOk hco (noteC_ok hm)
          simp (config := {contextual := true}) only [go_sem, ↓reduceIte, reduceCtorEq, Bool.false_eq_true, Bool.true_eq_false, Nat.reduceAdd, Nat.reduceLT, Nat.reduceEqDiff, Nat.reduceLeDiff, Nat.reduceSub, Nat.reduceMul, hlt', hnat, hx, hm, hf, Change.pv, z1, z2, z3, z4, z5]
          refine ⟨by kernel_rfl, ?_⟩
          refine DV.call [] [] (by simp only [go_sem, ↓reduceIte, reduceCtorEq, Bool.false_eq_true, Bool.true_eq_false, Nat.reduceAdd, Nat.reduceLT, Nat.reduceEqDiff, Nat.reduceLeDiff, Nat.reduceSub, Nat.reduceMul]) (by simp [dOK]) ⟨37, [], by simp only [go_sem, ↓reduceIte, reduceCtorEq, Bool.false_eq_true, Bool.true_eq_false, Nat.reduceAdd, Nat.reduceLT, Nat.reduceEqDiff, Nat.reduceLeDiff, Nat.reduceSub, Nat.reduceMul], ⟨_, rfl, rfl, rfl⟩, .inl ⟨[.row (cur.map Pair.pv), .str x.key, .bool (decide (x.has = true)), .str x.aft], _, .inl (by simp only [go_sem, ↓reduceIte, reduceCtorEq, Bool.false_eq_true, Bool.true_eq_false, Nat.reduceAdd, Nat.reduceLT, Nat.reduceEqDiff, Nat.reduceLeDiff, Nat.reduceSub, Nat.reduceMul]), cs0, .inr (.inl ⟨_, rfl, rfl, rfl⟩)⟩⟩ (by simp only [go_sem, ↓reduceIte, reduceCtorEq, Bool.false_eq_true, Bool.true_eq_false, Nat.reduceAdd, Nat.reduceLT, Nat.reduceEqDiff, Nat.reduceLeDiff, Nat.reduceSub, Nat.reduceMul]) (by simp only [go_sem, ↓reduceIte, reduceCtorEq, Bool.false_eq_true, Bool.true_eq_false, Nat.reduceAdd, Nat.reduceLT, Nat.reduceEqDiff, Nat.reduceLeDiff, Nat.reduceSub, Nat.reduceMul]) (by simp only [go_sem, ↓reduceIte, reduceCtorEq, Bool.false_eq_true, Bool.true_eq_false, Nat.reduceAdd, Nat.reduceLT, Nat.reduceEqDiff, Nat.reduceLeDiff, Nat.reduceSub, Nat.reduceMul]) (by simp) ?_
          refine DV.exec 400 ?_
          simp (config := {contextual := true}) only [go_sem, ↓reduceIte, reduceCtorEq, Bool.false_eq_true, Bool.true_eq_false, Nat.reduceAdd, Nat.reduceLT, Nat.reduceEqDiff, Nat.reduceLeDiff, Nat.reduceSub, Nat.reduceMul, hw]
          refine ⟨by kernel_rfl, cs.length - (i + 1), _, [], [], by omega, ⟨i + 1, true, _, by omega, rfl, fun _ => ⟨hoo, by omega, hok, hgo⟩, fun h => (by cases h), rfl, rfl⟩, ?_⟩
          simp only [go_sem, ↓reduceIte, reduceCtorEq, Bool.false_eq_true, Bool.true_eq_false, Nat.reduceAdd, Nat.reduceLT, Nat.reduceEqDiff, Nat.reduceLeDiff, Nat.reduceSub, Nat.reduceMul, decide_true]
        · have hv : doV l ds = (l, 1) := by
            rw [if_neg (fun h => hf ((fits_iff hco h.1).2 h.2))] at hca
            unfold doV; rw [if_pos hok, ← hca]
          simp (config := {contextual := true}) only [go_sem, ↓reduceIte, reduceCtorEq, Bool.false_eq_true, Bool.true_eq_false, Nat.reduceAdd, Nat.reduceLT, Nat.reduceEqDiff, Nat.reduceLeDiff, Nat.reduceSub, Nat.reduceMul, hlt', hnat, hx, hm, hf, Change.pv, z1, z2, z3, z4, z5]
          refine ⟨by kernel_rfl, ?_⟩
          refine DV.call [] [] (by simp only [go_sem, ↓reduceIte, reduceCtorEq, Bool.false_eq_true, Bool.true_eq_false, Nat.reduceAdd, Nat.reduceLT, Nat.reduceEqDiff, Nat.reduceLeDiff, Nat.reduceSub, Nat.reduceMul]) (by simp [dOK]) ⟨37, [], by simp only [go_sem, ↓reduceIte, reduceCtorEq, Bool.false_eq_true, Bool.true_eq_false, Nat.reduceAdd, Nat.reduceLT, Nat.reduceEqDiff, Nat.reduceLeDiff, Nat.reduceSub, Nat.reduceMul], ⟨_, rfl, rfl, rfl⟩, .inl ⟨[.row (cur.map Pair.pv), .str x.key, .bool (decide (x.has = true)), .str x.aft], _, .inl (by simp only [go_sem, ↓reduceIte, reduceCtorEq, Bool.false_eq_true, Bool.true_eq_false, Nat.reduceAdd, Nat.reduceLT, Nat.reduceEqDiff, Nat.reduceLeDiff, Nat.reduceSub, Nat.reduceMul]), cs0, .inr (.inl ⟨_, rfl, rfl, rfl⟩)⟩⟩ (by simp only [go_sem, ↓reduceIte, reduceCtorEq, Bool.false_eq_true, Bool.true_eq_false, Nat.reduceAdd, Nat.reduceLT, Nat.reduceEqDiff, Nat.reduceLeDiff, Nat.reduceSub, Nat.reduceMul]) (by simp only [go_sem, ↓reduceIte, reduceCtorEq, Bool.false_eq_true, Bool.true_eq_false, Nat.reduceAdd, Nat.reduceLT, Nat.reduceEqDiff, Nat.reduceLeDiff, Nat.reduceSub, Nat.reduceMul]) (by simp only [go_sem, ↓reduceIte, reduceCtorEq, Bool.false_eq_true, Bool.true_eq_false, Nat.reduceAdd, Nat.reduceLT, Nat.reduceEqDiff, Nat.reduceLeDiff, Nat.reduceSub, Nat.reduceMul]) (by simp) ?_
          refine DV.exec 400 ?_
          simp (config := {contextual := true}) only [go_sem, ↓reduceIte, reduceCtorEq, Bool.false_eq_true, Bool.true_eq_false, Nat.reduceAdd, Nat.reduceLT, Nat.reduceEqDiff, Nat.reduceLeDiff, Nat.reduceSub, Nat.reduceMul, hw]
          refine ⟨by kernel_rfl, cs.length - (i + 1), _, [], [], by omega, ⟨i + 1, false, setR cur x.key x.has x.aft, by omega, rfl, fun h => (by cases h), fun _ => hv, rfl, rfl⟩, ?_⟩
          simp only [go_sem, ↓reduceIte, reduceCtorEq, Bool.false_eq_true, Bool.true_eq_false, Nat.reduceAdd, Nat.reduceLT, Nat.reduceEqDiff, Nat.reduceLeDiff, Nat.reduceSub, Nat.reduceMul, decide_false]
      · have hv : doV l ds = (l, 1) := by
          rw [if_neg (fun h => hm h.1)] at hca
          unfold doV; rw [if_pos hok, ← hca]
        simp (config := {contextual := true}) only [go_sem, ↓reduceIte, reduceCtorEq, Bool.false_eq_true, Bool.true_eq_false, Nat.reduceAdd, Nat.reduceLT, Nat.reduceEqDiff, Nat.reduceLeDiff, Nat.reduceSub, Nat.reduceMul, hlt', hnat, hx, hm, Change.pv, z1, z2, z3, z4, z5]
        refine ⟨by kernel_rfl, ?_⟩
        refine DV.call [] [] (by simp only [go_sem, ↓reduceIte, reduceCtorEq, Bool.false_eq_true, Bool.true_eq_false, Nat.reduceAdd, Nat.reduceLT, Nat.reduceEqDiff, Nat.reduceLeDiff, Nat.reduceSub, Nat.reduceMul]) (by simp [dOK]) ⟨37, [], by simp only [go_sem, ↓reduceIte, reduceCtorEq, Bool.false_eq_true, Bool.true_eq_false, Nat.reduceAdd, Nat.reduceLT, Nat.reduceEqDiff, Nat.reduceLeDiff, Nat.reduceSub, Nat.reduceMul], ⟨_, rfl, rfl, rfl⟩, .inl ⟨[.row (cur.map Pair.pv), .str x.key, .bool (decide (x.has = true)), .str x.aft], _, .inl (by simp only [go_sem, ↓reduceIte, reduceCtorEq, Bool.false_eq_true, Bool.true_eq_false, Nat.reduceAdd, Nat.reduceLT, Nat.reduceEqDiff, Nat.reduceLeDiff, Nat.reduceSub, Nat.reduceMul]), cs0, .inr (.inl ⟨_, rfl, rfl, rfl⟩)⟩⟩ (by simp only [go_sem, ↓reduceIte, reduceCtorEq, Bool.false_eq_true, Bool.true_eq_false, Nat.reduceAdd, Nat.reduceLT, Nat.reduceEqDiff, Nat.reduceLeDiff, Nat.reduceSub, Nat.reduceMul]) (by simp only [go_sem, ↓reduceIte, reduceCtorEq, Bool.false_eq_true, Bool.true_eq_false, Nat.reduceAdd, Nat.reduceLT, Nat.reduceEqDiff, Nat.reduceLeDiff, Nat.reduceSub, Nat.reduceMul]) (by simp only [go_sem, ↓reduceIte, reduceCtorEq, Bool.false_eq_true, Bool.true_eq_false, Nat.reduceAdd, Nat.reduceLT, Nat.reduceEqDiff, Nat.reduceLeDiff, Nat.reduceSub, Nat.reduceMul]) (by simp) ?_
        refine DV.exec 400 ?_
        simp (config := {contextual := true}) only [go_sem, ↓reduceIte, reduceCtorEq, Bool.false_eq_true, Bool.true_eq_false, Nat.reduceAdd, Nat.reduceLT, Nat.reduceEqDiff, Nat.reduceLeDiff, Nat.reduceSub, Nat.reduceMul, hw]
        refine ⟨by kernel_rfl, cs.length - (i + 1), _, [], [], by omega, ⟨i + 1, false, setR cur x.key x.has x.aft, by omega, rfl, fun h => (by cases h), fun _ => hv, rfl, rfl⟩, ?_⟩
        simp only [go_sem, ↓reduceIte, reduceCtorEq, Bool.false_eq_true, Bool.true_eq_false, Nat.reduceAdd, Nat.reduceLT, Nat.reduceEqDiff, Nat.reduceLeDiff, Nat.reduceSub, Nat.reduceMul, decide_false]
    · have hlt' : ¬ (0 : Int) ≤ (cs.length : Int) - 1 - i := by omega
      have hd : ds.drop i = [] := List.drop_eq_nil_of_le (by rw [hdl]; omega)
      rw [hd, doGo] at hca
      have hv : doV l ds = (cur, 0) := by unfold doV; rw [if_pos hok, ← hca]
      simp (config := {contextual := true}) only [go_sem, ↓reduceIte, reduceCtorEq, Bool.false_eq_true, Bool.true_eq_false, Nat.reduceAdd, Nat.reduceLT, Nat.reduceEqDiff, Nat.reduceLeDiff, Nat.reduceSub, Nat.reduceMul, hlt', hv, decide_true]
end Go.Proofs.Ytnhkknaplkjigaa
set_option linter.unusedVariables false
set_option linter.unusedSimpArgs false
namespace Go.Proofs.Ytnhkknaplkjigaa
open Go Go.Proofs Go.Proofs.YtnhkknaplkjigaaVm

theorem turn_turn (c : Change) : turnC (turnC c) = c := rfl
theorem turn_key (c : Change) : (turnC c).key = c.key := rfl
theorem val_note {l : List Pair} (hs : Sorted l) (c : Change) (k : List UInt8) : val (oneV l (noteC c)) k = if k = c.key then (if c.has = true then some c.aft else none) else val l k := by
  rw [← setR_note hs, setR_val hs]
theorem fitC_val {l : List Pair} (h : pairsOk l) {c : Change} (hc : c.ok) : fitC l c ↔ val l c.key = (if c.had = true then some c.bef else none) := by
  unfold fitC
  rw [getV_val h]
  cases hv : val l c.key with
  | none =>
    simp only [Prod.mk.injEq]
    cases hh : c.had with
    | true => simp
    | false =>
      have := hc.2.2.2.2.2.1
      rw [hh] at this
      simp at this
      simp [this]
  | some v =>
    simp only [Prod.mk.injEq]
    cases hh : c.had with
    | true => simp
    | false => simp
theorem doGo_app : ∀ (xs ys : List Change) (l : List Pair), doGo l (xs ++ ys) = (doGo l xs).bind fun p => doGo p ys
  | [], _, _ => rfl
  | c :: r, ys, l => by
    simp only [List.cons_append, doGo]
    split
    · exact doGo_app r ys _
    · rfl
theorem doGo_ok : ∀ (cs : List Change) {l a : List Pair}, pairsOk l → doGo l cs = some a → pairsOk a ∧ ∀ c ∈ cs, c.ok
  | [], l, a, h, e => by cases e; exact ⟨h, by simp⟩
  | c :: r, l, a, h, e => by
    simp only [doGo] at e
    split at e
    · rename_i hc
      have ih := doGo_ok r (oneV_pairsOk h (noteC_ok hc.1)) e
      exact ⟨ih.1, fun x hx => by
        rcases List.mem_cons.1 hx with rfl | hx
        · exact hc.1
        · exact ih.2 x hx⟩
    · cases e
theorem turn_fit {l : List Pair} (h : pairsOk l) {c : Change} (hc : c.ok) : fitC (oneV l (noteC c)) (turnC c) := by
  have hp := oneV_pairsOk h (noteC_ok hc)
  rw [fitC_val hp ((turn_ok c).2 hc), turn_key, val_note ((pairsOk_iff l).1 h).1, if_pos rfl]
  rfl
theorem turn_back {l : List Pair} (h : pairsOk l) {c : Change} (hc : c.ok) (hf : fitC l c) : oneV (oneV l (noteC c)) (noteC (turnC c)) = l := by
  have hs := ((pairsOk_iff l).1 h).1
  have hp := oneV_pairsOk h (noteC_ok hc)
  have hsp := ((pairsOk_iff _).1 hp).1
  refine val_ext (oneV_sorted hsp _) hs fun k => ?_
  rw [val_note hsp, turn_key]
  split
  · rename_i e
    rw [e, (fitC_val h hc).1 hf]; rfl
  · rename_i hk
    rw [val_note hs, if_neg hk]
theorem doGo_undo : ∀ (cs : List Change) {l a : List Pair}, pairsOk l → doGo l cs = some a → doGo a (cs.reverse.map turnC) = some l
  | [], l, a, h, e => by cases e; rfl
  | c :: r, l, a, h, e => by
    simp only [doGo] at e
    split at e
    · rename_i hc
      have ih := doGo_undo r (oneV_pairsOk h (noteC_ok hc.1)) e
      rw [List.reverse_cons, List.map_append, doGo_app, ih, Option.bind_some]
      simp only [List.map_cons, List.map_nil, doGo]
      rw [if_pos ⟨(turn_ok c).2 hc.1, turn_fit h hc.1⟩, turn_back h hc.1 hc.2]
    · cases e
theorem doV_zero {l a : List Pair} {cs : List Change} : doV l cs = (a, 0) ↔ pairsOk l ∧ doGo l cs = some a := by
  unfold doV
  split
  · rename_i h
    cases hg : doGo l cs with
    | none => simp
    | some q => simp [h]
  · rename_i h
    simp [h]
theorem doV_err {l : List Pair} {cs : List Change} (h : (doV l cs).2 ≠ 0) : doV l cs = (l, 1) := by
  unfold doV at *
  split at h
  · rename_i hp
    cases hg : doGo l cs with
    | none => simp [hp]
    | some q => rw [hg] at h; exact absurd rfl h
  · rename_i hp; simp [hp]
theorem doV_cases (l : List Pair) (cs : List Change) : (∃ a, doV l cs = (a, 0)) ∨ doV l cs = (l, 1) := by
  by_cases h : (doV l cs).2 = 0
  · exact .inl ⟨(doV l cs).1, by rw [← h]⟩
  · exact .inr (doV_err h)
theorem do_undo {l a : List Pair} {cs : List Change} (h : doV l cs = (a, 0)) : undoV a cs = (l, 0) ∧ pairsOk a := by
  obtain ⟨h1, h2⟩ := doV_zero.1 h
  have h3 := (doGo_ok cs h1 h2).1
  exact ⟨doV_zero.2 ⟨h3, doGo_undo cs h1 h2⟩, h3⟩
theorem undo_do {l a : List Pair} {cs : List Change} (h : undoV l cs = (a, 0)) : doV a cs = (l, 0) ∧ pairsOk a := by
  have := do_undo (cs := cs.reverse.map turnC) h
  unfold undoV at this
  rw [← List.map_reverse, List.reverse_reverse, List.map_map] at this
  have e : cs.map (turnC ∘ turnC) = cs := by
    have : (turnC ∘ turnC) = id := funext fun c => rfl
    rw [this, List.map_id]
  rw [e] at this
  exact this
theorem oneV_grow {l : List Pair} (h : pairsOk l) (n : Note) : (oneV l n).length ≤ l.length + 1 := oneV_len ((pairsOk_iff l).1 h).1 n
theorem doGo_len : ∀ (cs : List Change) {l a : List Pair}, pairsOk l → doGo l cs = some a → a.length ≤ l.length + cs.length
  | [], l, a, h, e => by cases e; exact Nat.le_refl _
  | c :: r, l, a, h, e => by
    simp only [doGo] at e
    split at e
    · rename_i hc
      have h1 := doGo_len r (oneV_pairsOk h (noteC_ok hc.1)) e
      have h2 := oneV_grow h (noteC c)
      simp only [List.length_cons]; omega
    · cases e
theorem doV_len (l : List Pair) (cs : List Change) : (doV l cs).1.length ≤ l.length + cs.length := by
  rcases doV_cases l cs with ⟨a, h⟩ | h
  · obtain ⟨h1, h2⟩ := doV_zero.1 h
    rw [h]; exact doGo_len cs h1 h2
  · rw [h]; simp
theorem undoV_len (l : List Pair) (cs : List Change) : (undoV l cs).1.length ≤ l.length + cs.length := by
  have := doV_len l (cs.reverse.map turnC)
  simpa [undoV] using this
/-- What is joined. -/
def joinC (a b : Change) : Change := ⟨b.seq, b.key, a.had, a.bef, b.has, b.aft⟩
theorem joinV_cases (a b : Change) : (joinV a b = (joinC a b, 0) ∧ joinOk a b ∧ ¬ (a.had = false ∧ b.has = false)) ∨ (joinV a b = (Change.zero, 3) ∧ joinOk a b ∧ a.had = false ∧ b.has = false) ∨ (joinV a b = (Change.zero, 1) ∧ ¬ joinOk a b) := by
  unfold joinV madeV
  by_cases h : joinOk a b
  · rw [if_pos h]
    simp only
    by_cases h2 : a.had = false ∧ b.has = false
    · rw [if_pos h2]; exact .inr (.inl ⟨rfl, h, h2⟩)
    · rw [if_neg h2]; exact .inl ⟨rfl, h, h2⟩
  · rw [if_neg h]; exact .inr (.inr ⟨rfl, h⟩)
theorem joinC_ok {a b : Change} (h : joinOk a b) (hn : ¬ (a.had = false ∧ b.has = false)) : (joinC a b).ok := by
  obtain ⟨ha, hb, hk, hs, _⟩ := h
  refine ⟨hb.1, ha.2.1, hb.2.2.1, hb.2.2.2.1, hb.2.2.2.2.1, ha.2.2.2.2.2.1, hb.2.2.2.2.2.2.1, ?_⟩
  show a.had = true ∨ b.has = true
  cases h1 : a.had with
  | true => exact .inl rfl
  | false =>
    cases h2 : b.has with
    | true => exact .inr rfl
    | false => exact absurd ⟨h1, h2⟩ hn
theorem oneV_two {l : List Pair} (hs : Sorted l) {a b c : Change} (h1 : a.key = b.key) (h2 : c.key = b.key) (h3 : c.has = b.has) (h4 : c.aft = b.aft) : oneV (oneV l (noteC a)) (noteC b) = oneV l (noteC c) := by
  have hs2 := oneV_sorted hs (noteC a)
  refine val_ext (oneV_sorted hs2 _) (oneV_sorted hs _) fun k => ?_
  rw [val_note hs2, val_note hs, val_note hs, h2, h3, h4]
  split
  · rfl
  · rename_i hk
    rw [if_neg (by rw [h1]; exact hk)]
theorem fitC_join {l : List Pair} {a b : Change} (hk : a.key = b.key) : fitC l a ↔ fitC l (joinC a b) := by
  unfold fitC joinC
  simp only [hk]
/-- What is joined does what both do. -/
theorem join_does {l p : List Pair} {a b : Change} (h : pairsOk l) (hj : joinOk a b) (hn : ¬ (a.had = false ∧ b.has = false)) (hd : doGo l [a, b] = some p) : doGo l [joinC a b] = some p := by
  simp only [doGo] at *
  split at hd
  · rename_i h1
    split at hd
    · rename_i h2
      rw [if_pos ⟨joinC_ok hj hn, (fitC_join hj.2.2.1).1 h1.2⟩, ← hd]
      rw [oneV_two ((pairsOk_iff l).1 h).1 (c := joinC a b) hj.2.2.1 rfl rfl rfl]
    · cases hd
  · cases hd
theorem join_none {l p : List Pair} {a b : Change} (h : pairsOk l) (hj : joinOk a b) (h1 : a.had = false) (h2 : b.has = false) (hd : doGo l [a, b] = some p) : p = l := by
  simp only [doGo] at *
  split at hd
  · rename_i g1
    split at hd
    · cases hd
      have hs := ((pairsOk_iff l).1 h).1
      have hs2 := oneV_sorted hs (noteC a)
      refine val_ext (oneV_sorted hs2 _) hs fun k => ?_
      rw [val_note hs2, val_note hs]
      split
      · rename_i e
        have := (fitC_val h g1.1).1 g1.2
        rw [e, ← hj.2.2.1, this, h1, h2]; rfl
      · rename_i hk
        rw [if_neg (by rw [hj.2.2.1]; exact hk)]
    · cases hd
  · cases hd
theorem join_assoc {a b c : Change} (h1 : joinV a b = (joinC a b, 0)) (h2 : joinV b c = (joinC b c, 0)) : joinV (joinC a b) c = joinV a (joinC b c) := by
  have j1 : joinOk a b ∧ ¬ (a.had = false ∧ b.has = false) := by
    rcases joinV_cases a b with ⟨_, g1, g2⟩ | ⟨e, _⟩ | ⟨e, _⟩
    · exact ⟨g1, g2⟩
    · rw [e] at h1; exact absurd (congrArg Prod.snd h1) (show ¬ ((_ : Int) = 0) by decide)
    · rw [e] at h1; exact absurd (congrArg Prod.snd h1) (show ¬ ((_ : Int) = 0) by decide)
  have j2 : joinOk b c ∧ ¬ (b.had = false ∧ c.has = false) := by
    rcases joinV_cases b c with ⟨_, g1, g2⟩ | ⟨e, _⟩ | ⟨e, _⟩
    · exact ⟨g1, g2⟩
    · rw [e] at h2; exact absurd (congrArg Prod.snd h2) (show ¬ ((_ : Int) = 0) by decide)
    · rw [e] at h2; exact absurd (congrArg Prod.snd h2) (show ¬ ((_ : Int) = 0) by decide)
  have k1 := joinC_ok j1.1 j1.2
  have k2 := joinC_ok j2.1 j2.2
  obtain ⟨⟨a1, a2, a3, a4, a5, a6⟩, _⟩ := j1
  obtain ⟨⟨b1, b2, b3, b4, b5, b6⟩, _⟩ := j2
  unfold joinV
  have e1 : joinOk (joinC a b) c := ⟨k1, b2, b3, b4, b5, b6⟩
  have e2 : joinOk a (joinC b c) := ⟨a1, k2, (by show a.key = c.key; rw [a3, b3]), (by show a.seq < c.seq; omega), a5, a6⟩
  rw [if_pos e1, if_pos e2]
  rfl
end Go.Proofs.Ytnhkknaplkjigaa
set_option linter.unusedVariables false
set_option linter.unusedSimpArgs false
namespace Go.Proofs.Ytnhkknaplkjigaa
open Go Go.Proofs Go.Proofs.YtnhkknaplkjigaaVm

/-- Numbers one behind the other. -/
def Consec (base : Int) (c : List Change) : Prop := ∀ (j : Nat) (x : Change), c[j]? = some x → x.seq = base + j + 1
theorem Consec.snoc {base : Int} {c : List Change} {x : Change} (h : Consec base c) (hx : x.seq = base + c.length + 1) : Consec base (c ++ [x]) := fun j y hj => by
  by_cases hlt : j < c.length
  · rw [List.getElem?_append_left hlt] at hj; exact h j y hj
  · rw [List.getElem?_append_right (by omega)] at hj
    by_cases he : j = c.length
    · subst he
      simp at hj
      rw [← hj]; exact hx
    · have : j - c.length ≠ 0 := by omega
      rw [List.getElem?_singleton] at hj
      rw [if_neg this] at hj; cases hj
theorem Consec.app {base : Int} {c d : List Change} (h : Consec base c) (hd : Consec (base + c.length) d) : Consec base (c ++ d) := fun j y hj => by
  by_cases hlt : j < c.length
  · rw [List.getElem?_append_left hlt] at hj; exact h j y hj
  · rw [List.getElem?_append_right (by omega)] at hj
    have := hd _ y hj
    rw [this]; omega

theorem runGo_lead (l : List Pair) (hl : pairsOk l) : ∀ (ns : List Note) (p : List Pair) (seq : Int) (out : List Change), pairsOk p → notesAll ns → 0 ≤ seq + out.length → seq + out.length + ns.length ≤ 2147483647 →
    doGo l out = some p → Consec seq out → doGo l (runGo p seq out ns).1 = some (runGo p seq out ns).2 ∧ Consec seq (runGo p seq out ns).1 ∧ appV p ns = (runGo p seq out ns).2
  | [], p, seq, out, _, _, _, _, hd, hc => ⟨hd, hc, rfl⟩
  | n :: r, p, seq, out, hp, hn, h0, hm, hd, hc => by
    have hx := hn n List.mem_cons_self
    have hr : notesAll r := fun y hy => hn y (List.mem_cons_of_mem _ hy)
    simp only [List.length_cons] at hm
    unfold runGo
    have e : appV p (n :: r) = appV (oneV p n) r := rfl
    rw [e]
    split
    · rename_i h
      obtain ⟨g1, g2, g3, g4, g5, g6⟩ := ofV_does h
      refine runGo_lead l hl r (oneV p n) seq _ (oneV_pairsOk hp hx) hr (by rw [List.length_append, List.length_singleton]; omega) (by rw [List.length_append, List.length_singleton]; omega) ?_ (hc.snoc g6)
      rw [doGo_app, hd, Option.bind_some]
      exact (doV_zero.1 g4).2
    · rename_i h
      obtain ⟨g1, _⟩ := ofV_none hp hx (by omega) (by omega) h
      rw [g1]
      exact runGo_lead l hl r p seq out hp hr h0 (by omega) hd hc
theorem runV_lead {l : List Pair} {seq : Int} {ns : List Note} (h : (runV l seq ns).2.2 = 0) : pairsOk l ∧ notesAll ns ∧ pairsOk (runV l seq ns).2.1 ∧ doGo l (runV l seq ns).1 = some (runV l seq ns).2.1 ∧ Consec seq (runV l seq ns).1 ∧ appV l ns = (runV l seq ns).2.1 := by
  obtain ⟨h1, h2, h3, h4, h5, h6, h7, h8⟩ := runV_facts h
  have := runGo_lead l h2 ns l seq [] h2 h1.2 (by simpa using h3) (by simpa using h4) rfl (fun j x hj => by simp at hj)
  rw [h8]
  rw [h8] at h7
  exact ⟨h2, h1.2, h7, this⟩
theorem allGo_lead (l l0 : List Pair) (base : Int) (hl : pairsOk l) : ∀ (bs : List (List Note)) (p : List Pair) (seq : Int) (out : List Change) (ends : List Int), pairsOk p → doGo l out = some p → Consec base out → seq = base + out.length →
    (allGo l0 p seq out ends bs).2.2.2 = 0 →
    doGo l (allGo l0 p seq out ends bs).1 = some (allGo l0 p seq out ends bs).2.1 ∧ Consec base (allGo l0 p seq out ends bs).1 ∧ appV p bs.flatten = (allGo l0 p seq out ends bs).2.1 ∧ pairsOk (allGo l0 p seq out ends bs).2.1 ∧
      (allGo l0 p seq out ends bs).2.2.1.length = ends.length + bs.length ∧ (ends.getLast? = some seq ∨ bs ≠ [] → (allGo l0 p seq out ends bs).2.2.1.getLast? = some (base + (allGo l0 p seq out ends bs).1.length)) ∧ notesAll bs.flatten
  | [], p, seq, out, ends, hp, hd, hc, hs, h => ⟨hd, hc, rfl, hp, rfl, fun g => by
      rcases g with g | g
      · show ends.getLast? = _
        rw [g, hs]; rfl
      · exact absurd rfl g, by intro x hx; simp at hx⟩
  | b :: r, p, seq, out, ends, hp, hd, hc, hs, h => by
    unfold allGo at *
    by_cases hb : (runV p seq b).2.2 = 0
    · rw [if_pos hb] at h ⊢
      obtain ⟨g1, g2, g3, g4, g5, g6⟩ := runV_lead hb
      have ih := allGo_lead l l0 base hl r (runV p seq b).2.1 (seq + ((runV p seq b).1.length : Int)) (out ++ (runV p seq b).1) (ends ++ [seq + ((runV p seq b).1.length : Int)]) g3
        (by rw [doGo_app, hd, Option.bind_some]; exact g4) (hc.app (by rw [← hs]; exact g5)) (by rw [List.length_append]; omega) h
      obtain ⟨i1, i2, i3, i4, i5, i6, i7⟩ := ih
      refine ⟨i1, i2, ?_, i4, ?_, fun _ => i6 (.inl (by simp)), ?_⟩
      · rw [List.flatten_cons, appV_app, g6]; exact i3
      · rw [i5]; simp; omega
      · intro x hx
        rw [List.flatten_cons, List.mem_append] at hx
        rcases hx with hx | hx
        · exact g2 x hx
        · exact i7 x hx
    · rw [if_neg hb] at h
      exact absurd h hb
/-- What batches make. -/
structure Lead (l : List Pair) (seq : Int) (bs : List (List Note)) (c : List Change) (p : List Pair) (ends : List Int) : Prop where
  ok : pairsOk l
  does : doGo l c = some p
  seqs : Consec seq c
  notes : appV l bs.flatten = p
  pok : pairsOk p
  elen : ends.length = bs.length
  last : bs ≠ [] → ends.getLast? = some (seq + c.length)
  nok : notesAll bs.flatten
theorem allV_lead {l : List Pair} {seq : Int} {bs : List (List Note)} (hl : pairsOk l) {c : List Change} {p : List Pair} {ends : List Int} (h : allV l seq bs = (c, p, ends, 0)) : Lead l seq bs c p ends := by
  have h0 : (allV l seq bs).2.2.2 = 0 := by rw [h]
  have := allGo_lead l l seq hl bs l seq [] [] hl rfl (fun j x hj => by simp at hj) (by simp) h0
  have e : allGo l l seq [] [] bs = (c, p, ends, 0) := h
  rw [e] at this
  obtain ⟨i1, i2, i3, i4, i5, i6, i7⟩ := this
  exact ⟨hl, i1, i2, i3, i4, by simpa using i5, fun hb => i6 (.inr hb), i7⟩
theorem allV_right {l : List Pair} {seq : Int} {b : List Note} {bs : List (List Note)} {c : List Change} {p : List Pair} {ends : List Int} (h : allV l seq (b :: bs) = (c, p, ends, 0)) : pairsOk l := by
  unfold allV allGo at h
  by_cases hb : (runV l seq b).2.2 = 0
  · exact (runV_lead hb).1
  · rw [if_neg hb] at h
    have := congrArg (fun x => x.2.2.2) h
    exact absurd this hb
end Go.Proofs.Ytnhkknaplkjigaa
set_option linter.unusedVariables false
set_option linter.unusedSimpArgs false
namespace Go.Proofs.Ytnhkknaplkjigaa
open Go Go.Proofs Go.Proofs.YtnhkknaplkjigaaVm Go.Proofs.Ytnhkknaplkjigaa.Ty

/-- Changes whose numbers rise. -/
def trailFrom : Option Int → List Change → Prop
  | _, [] => True
  | last, c :: r => c.ok ∧ (∀ s, last = some s → s < c.seq) ∧ trailFrom (some c.seq) r
def trailOk (l : List Change) : Prop := trailFrom none l
instance instTF : ∀ (last : Option Int) (l : List Change), Decidable (trailFrom last l)
  | _, [] => isTrue trivial
  | none, s :: r => by
    unfold trailFrom
    have := instTF (some s.seq) r
    have : Decidable (∀ k, none = some k → k < s.seq) := isTrue (fun k h => by cases h)
    infer_instance
  | some k, s :: r => by
    unfold trailFrom
    have := instTF (some s.seq) r
    have : Decidable (∀ k', some k = some k' → k' < s.seq) := decidable_of_iff (k < s.seq) ⟨fun h k' e => by cases e; exact h, fun h => h k rfl⟩
    infer_instance
instance instTrailOk (l : List Change) : Decidable (trailOk l) := by unfold trailOk; infer_instance
def prevSeq (l : List Change) (i : Nat) : Option Int := if i = 0 then none else (l[i - 1]?).map Change.seq

set_option maxRecDepth 4000 in
set_option maxHeartbeats 8000000 in
theorem trail_Right (l : List Change) (hl : l.length ≤ 1000000) : Ct Try.prog 19 (YtnhkknaplkjigaaVm.ops [.row (l.map Change.pv)]) (.vals [.bool (decide (trailOk l))]) := by
  refine Ct.of_V Try.func19 rfl (by simp [YtnhkknaplkjigaaVm.ops, Try.f19]) ?_
  refine V.exec 400 ?_
  simp (config := {contextual := true}) only [go_sem, ↓reduceIte, reduceCtorEq, Bool.false_eq_true, Bool.true_eq_false, Nat.reduceAdd, Nat.reduceLT, Nat.reduceEqDiff, Nat.reduceLeDiff, Nat.reduceSub, Nat.reduceMul, Try.f19]
  refine V.loop (fun m ls os => ∃ (i : Nat), i ≤ l.length ∧ m = l.length - i ∧ (trailOk l ↔ trailFrom (prevSeq l i) (l.drop i)) ∧
        ls = [(0, .val (.row (l.map Change.pv))), (5, .val (.row (l.map Change.pv))), (6, .val (.int .i64 l.length)), (7, .val (.int .i64 i))] ∧ os = []) 0 l.length
      [(0, .val (.row (l.map Change.pv))), (5, .val (.row (l.map Change.pv))), (6, .val (.int .i64 l.length)), (7, .val (.int .i64 0))] [] []
      ⟨0, Nat.zero_le _, rfl, Iff.rfl, rfl, rfl⟩ (by simp only [go_sem, ↓reduceIte, reduceCtorEq, Bool.false_eq_true, Bool.true_eq_false, Nat.reduceAdd, Nat.reduceLT, Nat.reduceEqDiff, Nat.reduceLeDiff, Nat.reduceSub, Nat.reduceMul]) ?_
  rintro m ls os ⟨i, hi, rfl, hiff, rfl, rfl⟩
  refine V.exec 400 ?_
  by_cases hlt : i < l.length
  · have hlt' : (i : Int) < (l.length : Int) := by omega
    obtain ⟨x, hx⟩ : ∃ x, l[i]? = some x := ⟨_, List.getElem?_eq_getElem hlt⟩
    have hw : IntKind.i64.wrap ((i : Int) + 1) = ((i + 1 : Nat) : Int) := by rw [wrap_small3] <;> omega
    rw [drop_of_get hx, trailFrom] at hiff
    have hpk : prevSeq l (i + 1) = some x.seq := by simp [prevSeq, hx]
    have fin : x.ok → (∀ k, prevSeq l i = some k → k < x.seq) → (trailOk l ↔ trailFrom (prevSeq l (i + 1)) (l.drop (i + 1))) := fun a b => by
      rw [hiff, hpk]; exact ⟨fun h => h.2.2, fun h => ⟨a, b, h⟩⟩
    have hfalse : ¬ trailOk l → some [PV.bool false] = some [PV.bool (decide (trailOk l))] := fun h => by simp [h]
    simp (config := {contextual := true}) only [go_sem, ↓reduceIte, reduceCtorEq, Bool.false_eq_true, Bool.true_eq_false, Nat.reduceAdd, Nat.reduceLT, Nat.reduceEqDiff, Nat.reduceLeDiff, Nat.reduceSub, Nat.reduceMul, hlt', hx, Change.pv]
    refine DV.call [] [] (by simp only [go_sem, ↓reduceIte, reduceCtorEq, Bool.false_eq_true, Bool.true_eq_false, Nat.reduceAdd, Nat.reduceLT, Nat.reduceEqDiff, Nat.reduceLeDiff, Nat.reduceSub, Nat.reduceMul, Change.pv]) (by simp [dOK]) ⟨29, [], by simp only [go_sem, ↓reduceIte, reduceCtorEq, Bool.false_eq_true, Bool.true_eq_false, Nat.reduceAdd, Nat.reduceLT, Nat.reduceEqDiff, Nat.reduceLeDiff, Nat.reduceSub, Nat.reduceMul, Change.pv], ⟨_, rfl, rfl, rfl⟩, .inl ⟨[x.pv], _, .inl (by simp only [go_sem, ↓reduceIte, reduceCtorEq, Bool.false_eq_true, Bool.true_eq_false, Nat.reduceAdd, Nat.reduceLT, Nat.reduceEqDiff, Nat.reduceLeDiff, Nat.reduceSub, Nat.reduceMul, Change.pv]), flat_May x, .inl ⟨_, rfl, rfl, rfl, rfl⟩⟩⟩ (by simp only [go_sem, ↓reduceIte, reduceCtorEq, Bool.false_eq_true, Bool.true_eq_false, Nat.reduceAdd, Nat.reduceLT, Nat.reduceEqDiff, Nat.reduceLeDiff, Nat.reduceSub, Nat.reduceMul, Change.pv]) (by simp only [go_sem, ↓reduceIte, reduceCtorEq, Bool.false_eq_true, Bool.true_eq_false, Nat.reduceAdd, Nat.reduceLT, Nat.reduceEqDiff, Nat.reduceLeDiff, Nat.reduceSub, Nat.reduceMul, Change.pv]) (by simp only [go_sem, ↓reduceIte, reduceCtorEq, Bool.false_eq_true, Bool.true_eq_false, Nat.reduceAdd, Nat.reduceLT, Nat.reduceEqDiff, Nat.reduceLeDiff, Nat.reduceSub, Nat.reduceMul, Change.pv]) (by simp) ?_
    refine DV.exec 400 ?_
    by_cases hok : x.ok
    · rcases Nat.eq_zero_or_pos i with rfl | hpos
      · have hz : ¬ (0 : Int) < ((0 : Nat) : Int) := by omega
        simp (config := {contextual := true}) only [go_sem, ↓reduceIte, reduceCtorEq, Bool.false_eq_true, Bool.true_eq_false, Nat.reduceAdd, Nat.reduceLT, Nat.reduceEqDiff, Nat.reduceLeDiff, Nat.reduceSub, Nat.reduceMul, hlt', hx, Change.pv, hw, hz, hok]
        (repeat' (first | (intro _) | (refine ⟨by kernel_rfl, ?_⟩) | (apply And.intro)))
        exact ⟨l.length - (0 + 1), _, [], [], by omega, ⟨1, by omega, rfl, fin hok (fun k h => by simp [prevSeq] at h), rfl, rfl⟩, by simp only [go_sem, ↓reduceIte, reduceCtorEq, Bool.false_eq_true, Bool.true_eq_false, Nat.reduceAdd, Nat.reduceLT, Nat.reduceEqDiff, Nat.reduceLeDiff, Nat.reduceSub, Nat.reduceMul]⟩
      · obtain ⟨j, rfl⟩ : ∃ j, i = j + 1 := ⟨i - 1, by omega⟩
        have hw2 : IntKind.i64.wrap (((j + 1 : Nat) : Int) - 1) = (j : Int) := by rw [wrap_small3] <;> omega
        have hjp : (0 : Int) < ((j + 1 : Nat) : Int) := by omega
        obtain ⟨y, hy⟩ : ∃ y, l[j]? = some y := ⟨_, List.getElem?_eq_getElem (by omega)⟩
        simp (config := {contextual := true}) only [go_sem, ↓reduceIte, reduceCtorEq, Bool.false_eq_true, Bool.true_eq_false, Nat.reduceAdd, Nat.reduceLT, Nat.reduceEqDiff, Nat.reduceLeDiff, Nat.reduceSub, Nat.reduceMul, hlt', hx, Change.pv, hw, hw2, hjp, hy, hok]
        (repeat' (first | (intro _) | (refine ⟨by kernel_rfl, ?_⟩) | (apply And.intro)))
        · refine hfalse fun h => ?_
          have := (hiff.1 h).2.1 y.seq (by simp [prevSeq, hy])
          omega
        · exact ⟨l.length - (j + 1 + 1), _, [], [], by omega, ⟨j + 1 + 1, by omega, rfl, fin hok (fun k h => by simp [prevSeq, hy] at h; omega), rfl, rfl⟩, by simp only [go_sem, ↓reduceIte, reduceCtorEq, Bool.false_eq_true, Bool.true_eq_false, Nat.reduceAdd, Nat.reduceLT, Nat.reduceEqDiff, Nat.reduceLeDiff, Nat.reduceSub, Nat.reduceMul]⟩
    · simp (config := {contextual := true}) only [go_sem, ↓reduceIte, reduceCtorEq, Bool.false_eq_true, Bool.true_eq_false, Nat.reduceAdd, Nat.reduceLT, Nat.reduceEqDiff, Nat.reduceLeDiff, Nat.reduceSub, Nat.reduceMul, hlt', hx, Change.pv, hw, hok]
      (repeat' (first | (intro _) | (refine ⟨by kernel_rfl, ?_⟩) | (apply And.intro)))
      exact hfalse fun h => hok (hiff.1 h).1
  · have hlt' : ¬ (i : Int) < (l.length : Int) := by omega
    have hd : l.drop i = [] := List.drop_eq_nil_of_le (by omega)
    rw [hd, trailFrom] at hiff
    simp (config := {contextual := true}) only [go_sem, ↓reduceIte, reduceCtorEq, Bool.false_eq_true, Bool.true_eq_false, Nat.reduceAdd, Nat.reduceLT, Nat.reduceEqDiff, Nat.reduceLeDiff, Nat.reduceSub, Nat.reduceMul, hlt']
    simp [hiff]
end Go.Proofs.Ytnhkknaplkjigaa
set_option linter.unusedVariables false
set_option linter.unusedSimpArgs false
namespace Go.Proofs.Ytnhkknaplkjigaa
open Go Go.Proofs Go.Proofs.YtnhkknaplkjigaaVm

theorem consec_trail {base : Int} : ∀ (c : List Change) (k : Option Int) (b : Int), (∀ s, k = some s → s ≤ b) → (∀ x ∈ c, x.ok) → Consec b c → trailFrom k c
  | [], _, _, _, _, _ => trivial
  | x :: r, k, b, hk, ho, hc => by
    have hx : x.seq = b + 1 := by have := hc 0 x rfl; simpa using this
    refine ⟨ho x List.mem_cons_self, fun s hs => by have := hk s hs; omega, consec_trail (base := base) r (some x.seq) (b + 1) (fun s hs => by cases hs; omega) (fun y hy => ho y (List.mem_cons_of_mem _ hy)) (fun j y hj => ?_)⟩
    have := hc (j + 1) y hj
    rw [this]; omega
theorem Lead.facts {l : List Pair} {seq : Int} {bs : List (List Note)} {c : List Change} {p : List Pair} {ends : List Int} (h : Lead l seq bs c p ends) :
    doV l c = (p, 0) ∧ undoV p c = (l, 0) ∧ applyV l bs.flatten = (p, 0) ∧ trailOk c ∧ (bs ≠ [] → ends[ends.length - 1]? = some (seq + c.length)) := by
  have h1 : doV l c = (p, 0) := doV_zero.2 ⟨h.ok, h.does⟩
  refine ⟨h1, (do_undo h1).1, ?_, consec_trail (base := seq) c none seq (fun s hs => by cases hs) (doGo_ok c h.ok h.does).2 h.seqs, fun hb => ?_⟩
  · unfold applyV; rw [if_pos ⟨h.ok, h.nok⟩, h.notes]
  · rw [← List.getLast?_eq_getElem?]; exact h.last hb
end Go.Proofs.Ytnhkknaplkjigaa
set_option linter.unusedVariables false
set_option linter.unusedSimpArgs false
namespace Go.Proofs.Ytnhkknaplkjigaa
open Go Go.Proofs Go.Proofs.YtnhkknaplkjigaaVm Go.Proofs.Ytnhkknaplkjigaa.Ty

set_option maxHeartbeats 2000000 in
theorem CloneChange (xs : List PV) (h1 : ∀ x ∈ xs, x.cells.length = 6) (hl : xs.length ≤ 1000000) : Ct Try.prog 51 (YtnhkknaplkjigaaVm.ops [.row xs]) (.own 46 xs) := by
  refine Ct.of_V Try.func51 rfl (by simp [YtnhkknaplkjigaaVm.ops, Try.f51]) ?_
  refine V.exec 400 ?_
  simp (config := {contextual := true}) only [go_sem, ↓reduceIte, reduceCtorEq, Bool.false_eq_true, Bool.true_eq_false, Nat.reduceAdd, Nat.reduceLT, Nat.reduceEqDiff, Nat.reduceLeDiff, Nat.reduceSub, Nat.reduceMul, Try.f51]
  refine V.nilq (xs := xs) rfl rfl (.inl rfl) (by simp only [go_sem, ↓reduceIte, Nat.reduceEqDiff]) (by simp only [go_sem]; rfl) (by simp [dOK]) fun c hc => ?_
  refine V.exec 400 ?_
  simp (config := {contextual := true}) only [go_sem, ↓reduceIte, reduceCtorEq, Bool.false_eq_true, Bool.true_eq_false, Nat.reduceAdd, Nat.reduceLT, Nat.reduceEqDiff, Nat.reduceLeDiff, Nat.reduceSub, Nat.reduceMul]
  exact ⟨fun h => ⟨hc h, 6, rfl, by decide⟩, fun _ => ⟨h1, by omega, by omega⟩⟩

set_option maxHeartbeats 2000000 in
theorem IndexFuncChange (xs : List PV) (g : FuncId) (caps : List PV) (p : PV → Bool) (h1 : ∀ x ∈ xs, x.cells.length = 6 ∧ x.isAgg = true) (hl : xs.length ≤ 1000000) (hg : Entered Try.prog g)
    (hp : ∀ x ∈ xs, Ct Try.prog g (YtnhkknaplkjigaaVm.ops ([x] ++ caps)) (.vals [.bool (decide (p x = true))])) (r : Nat) (hr : r ≤ xs.length) (hr1 : ∀ x ∈ xs.take r, p x = false) (hr2 : ∀ x, xs[r]? = some x → p x = true) :
    Ct Try.prog 64 (YtnhkknaplkjigaaVm.ops [.row xs, .fn g caps]) (.vals [.int .i64 (if r < xs.length then (r : Int) else -1)]) := by
  refine Ct.of_V Try.func64 rfl (by simp [YtnhkknaplkjigaaVm.ops, Try.f64]) ?_
  refine V.exec 400 ?_
  simp (config := {contextual := true}) only [go_sem, ↓reduceIte, reduceCtorEq, Bool.false_eq_true, Bool.true_eq_false, Nat.reduceAdd, Nat.reduceLT, Nat.reduceEqDiff, Nat.reduceLeDiff, Nat.reduceSub, Nat.reduceMul, Try.f64]
  refine V.loop (fun m ls os => ∃ i : Nat, i ≤ r ∧ m = xs.length - i ∧
        ls = [(0, .val (.row xs)), (1, .val (.fn g caps)), (7, .val (.int .i64 xs.length)), (8, .val (.int .i64 i))] ∧ os = []) 0 xs.length [(0, .val (.row xs)), (1, .val (.fn g caps)), (7, .val (.int .i64 xs.length)), (8, .val (.int .i64 0))] [] []
      ⟨0, Nat.zero_le _, rfl, rfl, rfl⟩ (by simp only [go_sem, ↓reduceIte, reduceCtorEq, Bool.false_eq_true, Bool.true_eq_false, Nat.reduceAdd, Nat.reduceLT, Nat.reduceEqDiff, Nat.reduceLeDiff, Nat.reduceSub, Nat.reduceMul]) ?_
  rintro m ls os ⟨i, hi, rfl, rfl, rfl⟩
  refine V.exec 400 ?_
  by_cases hlt : i < xs.length
  · have hlt' : (i : Int) < (xs.length : Int) := by omega
    obtain ⟨x, hx⟩ : ∃ x, xs[i]? = some x := ⟨_, List.getElem?_eq_getElem hlt⟩
    have hxm : x ∈ xs := List.mem_of_getElem? hx
    obtain ⟨hxc, hxa⟩ := h1 x hxm
    have hw : IntKind.i64.wrap ((i : Int) + 1) = ((i + 1 : Nat) : Int) := by rw [wrap_small] <;> omega
    simp (config := {contextual := true}) only [go_sem, ↓reduceIte, reduceCtorEq, Bool.false_eq_true, Bool.true_eq_false, Nat.reduceAdd, Nat.reduceLT, Nat.reduceEqDiff, Nat.reduceLeDiff, Nat.reduceSub, Nat.reduceMul, hlt', hx, hxc, hxa]
    refine V.call rfl rfl (by simp [dOK]) ⟨g, caps, by simp only [go_sem, ↓reduceIte, reduceCtorEq, Bool.false_eq_true, Bool.true_eq_false, Nat.reduceAdd, Nat.reduceLT, Nat.reduceEqDiff, Nat.reduceLeDiff, Nat.reduceSub, Nat.reduceMul], hg, .inl ⟨[x], _, .inl (by simp only [go_sem, ↓reduceIte, reduceCtorEq, Bool.false_eq_true, Bool.true_eq_false, Nat.reduceAdd, Nat.reduceLT, Nat.reduceEqDiff, Nat.reduceLeDiff, Nat.reduceSub, Nat.reduceMul]), hp x hxm, .inl ⟨_, rfl, rfl, rfl, rfl⟩⟩⟩ ?_
    refine V.exec 400 ?_
    simp (config := {contextual := true}) only [go_sem, ↓reduceIte, reduceCtorEq, Bool.false_eq_true, Bool.true_eq_false, Nat.reduceAdd, Nat.reduceLT, Nat.reduceEqDiff, Nat.reduceLeDiff, Nat.reduceSub, Nat.reduceMul, hw]
    constructor
    · intro hpx
      have hir : i = r := by
        rcases Nat.lt_or_ge i r with h | h
        · have := hr1 x (List.mem_of_getElem? (i := i) (by rw [List.getElem?_take_of_lt h]; exact hx))
          rw [this] at hpx; cases hpx
        · omega
      subst hir
      rw [if_pos hlt]
    · intro hpx
      have hir : i < r := by
        rcases Nat.lt_or_ge i r with h | h
        · exact h
        · have : i = r := by omega
          subst this
          exact absurd (hr2 x hx) hpx
      exact ⟨xs.length - (i + 1), _, [], [], by omega, ⟨i + 1, by omega, rfl, rfl, rfl⟩, by simp only [go_sem, ↓reduceIte, reduceCtorEq, Bool.false_eq_true, Bool.true_eq_false, Nat.reduceAdd, Nat.reduceLT, Nat.reduceEqDiff, Nat.reduceLeDiff, Nat.reduceSub, Nat.reduceMul]⟩
  · have hlt' : ¬ (i : Int) < (xs.length : Int) := by omega
    simp (config := {contextual := true}) only [go_sem, ↓reduceIte, reduceCtorEq, Bool.false_eq_true, Bool.true_eq_false, Nat.reduceAdd, Nat.reduceLT, Nat.reduceEqDiff, Nat.reduceLeDiff, Nat.reduceSub, Nat.reduceMul, hlt']
    rw [if_neg (by omega)]

set_option maxHeartbeats 4000000 in
theorem DeleteFuncChange (xs : List PV) (g : FuncId) (caps : List PV) (p : PV → Bool) (h1 : ∀ x ∈ xs, x.cells.length = 6 ∧ x.isAgg = true ∧ ∀ c ∈ x.cells, c.isAgg = false) (hl : xs.length ≤ 1000000) (hg : Entered Try.prog g)
    (hp : ∀ x ∈ xs, Ct Try.prog g (YtnhkknaplkjigaaVm.ops ([x] ++ caps)) (.vals [.bool (decide (p x = true))])) (hz : (zeroPV Try.prog 46 6).isSome = true) :
    Ct Try.prog 50 (.o 46 xs :: YtnhkknaplkjigaaVm.ops [.fn g caps]) (.own 46 (xs.filter fun x => !p x)) := by
  -- the first that goes
  obtain ⟨r, hr, hr1, hr2⟩ : ∃ r, r ≤ xs.length ∧ (∀ x ∈ xs.take r, p x = false) ∧ ∀ x, xs[r]? = some x → p x = true := by
    clear h1 hl hp
    induction xs with
    | nil => exact ⟨0, by simp, by simp, by simp⟩
    | cons x xs ih =>
      by_cases hx : p x = true
      · exact ⟨0, by simp, by simp, by simp [hx]⟩
      · obtain ⟨r, h1, h2, h3⟩ := ih
        refine ⟨r + 1, by simpa using h1, ?_, by simpa using h3⟩
        intro y hy
        simp only [List.take_succ_cons, List.mem_cons] at hy
        rcases hy with rfl | hy
        · simpa using hx
        · exact h2 y hy
  refine Ct.of_V Try.func50 rfl (by simp [YtnhkknaplkjigaaVm.ops, Try.f50]) ?_
  refine V.exec 400 ?_
  simp (config := {contextual := true}) only [go_sem, ↓reduceIte, reduceCtorEq, Bool.false_eq_true, Bool.true_eq_false, Nat.reduceAdd, Nat.reduceLT, Nat.reduceEqDiff, Nat.reduceLeDiff, Nat.reduceSub, Nat.reduceMul, Try.f50]
  refine V.call rfl rfl (by simp [dOK]) ⟨64, [], by simp only [go_sem, ↓reduceIte, reduceCtorEq, Bool.false_eq_true, Bool.true_eq_false, Nat.reduceAdd, Nat.reduceLT, Nat.reduceEqDiff, Nat.reduceLeDiff, Nat.reduceSub, Nat.reduceMul], ⟨_, rfl, rfl, rfl⟩, .inl ⟨[.row xs, .fn g caps], _, .inl (by simp only [go_sem, ↓reduceIte, reduceCtorEq, Bool.false_eq_true, Bool.true_eq_false, Nat.reduceAdd, Nat.reduceLT, Nat.reduceEqDiff, Nat.reduceLeDiff, Nat.reduceSub, Nat.reduceMul]), IndexFuncChange xs g caps p (fun x hx => ⟨(h1 x hx).1, (h1 x hx).2.1⟩) hl hg hp r hr hr1 hr2, .inl ⟨_, rfl, rfl, rfl, rfl⟩⟩⟩ ?_
  refine V.exec 400 ?_
  simp (config := {contextual := true}) only [go_sem, ↓reduceIte, reduceCtorEq, Bool.false_eq_true, Bool.true_eq_false, Nat.reduceAdd, Nat.reduceLT, Nat.reduceEqDiff, Nat.reduceLeDiff, Nat.reduceSub, Nat.reduceMul]
  constructor
  · intro h
    have hrl : ¬ r < xs.length := by intro h'; rw [if_pos h'] at h; omega
    have : xs.filter (fun x => !p x) = xs := by
      rw [List.filter_eq_self]
      intro x hx
      have := hr1 x (by rw [List.take_of_length_le (by omega)]; exact hx)
      simp [this]
    rw [this]
  · intro h
    have hrl : r < xs.length := by
      rcases Nat.lt_or_ge r xs.length with h' | h'
      · exact h'
      · rw [if_neg (by omega)] at h; exact absurd rfl h
    simp only [if_pos hrl]
    have hw0 : IntKind.i64.wrap ((r : Int) + 1) = ((r + 1 : Nat) : Int) := by rw [wrap_small] <;> omega
    simp only [hw0]
    refine V.loop (fun m ls os => ∃ (i j : Nat) (ys : List PV), i < j ∧ j ≤ xs.length ∧ m = xs.length - j ∧ ys.length = xs.length ∧ ys.take i = (xs.take j).filter (fun x => !p x) ∧ ys.drop j = xs.drop j ∧ (∀ y ∈ ys, y ∈ xs) ∧
        ls = [(0, .ref 0), (1, .val (.fn g caps)), (5, .val (.int .i64 i)), (6, .val (.int .i64 j))] ∧ os = [.row 46 ys]) 1 (xs.length - (r + 1)) [(0, .ref 0), (1, .val (.fn g caps)), (5, .val (.int .i64 r)), (6, .val (.int .i64 (r + 1 : Nat)))] [.row 46 xs] [some 0]
      ⟨r, r + 1, xs, by omega, by omega, rfl, rfl, ?_, rfl, fun y hy => hy, rfl, rfl⟩ (by simp only [go_sem, ↓reduceIte, reduceCtorEq, Bool.false_eq_true, Bool.true_eq_false, Nat.reduceAdd, Nat.reduceLT, Nat.reduceEqDiff, Nat.reduceLeDiff, Nat.reduceSub, Nat.reduceMul]) ?_
    · obtain ⟨x, hx⟩ : ∃ x, xs[r]? = some x := ⟨_, List.getElem?_eq_getElem hrl⟩
      rw [List.take_add_one, hx, List.filter_append]
      have e1 : (xs.take r).filter (fun x => !p x) = xs.take r := by
        rw [List.filter_eq_self]; intro y hy; simp [hr1 y hy]
      rw [e1]
      simp [hr2 x hx]
    · rintro m ls os ⟨i, j, ys, hij, hj, rfl, hyl, hyt, hyd, hym, rfl, rfl⟩
      by_cases hlt : j < xs.length
      · have hlt' : (j : Int) < (ys.length : Int) := by omega
        refine V.exec 400 ?_
        obtain ⟨x, hx⟩ : ∃ x, ys[j]? = some x := ⟨_, List.getElem?_eq_getElem (by omega)⟩
        obtain ⟨z, hz'⟩ : ∃ z, ys[i]? = some z := ⟨_, List.getElem?_eq_getElem (by omega)⟩
        have hxm : x ∈ xs := hym x (List.mem_of_getElem? hx)
        have hzm : z ∈ xs := hym z (List.mem_of_getElem? hz')
        obtain ⟨hzc, hza, _⟩ := h1 z hzm
        obtain ⟨hxc, hxa, hxn⟩ := h1 x hxm
        have hpx := hp x hxm
        obtain ⟨c0, c1, c2, c3, c4, c5, rfl⟩ : ∃ c0 c1 c2 c3 c4 c5, x = .agg [c0, c1, c2, c3, c4, c5] := by
          cases x with
          | agg cs =>
            match cs, hxc with
            | [c0, c1, c2, c3, c4, c5], _ => exact ⟨c0, c1, c2, c3, c4, c5, rfl⟩
          | _ => cases hxa
        have n0 : c0.isAgg = false := hxn c0 (by simp [PV.cells])
        have n1 : c1.isAgg = false := hxn c1 (by simp [PV.cells])
        have n2 : c2.isAgg = false := hxn c2 (by simp [PV.cells])
        have n3 : c3.isAgg = false := hxn c3 (by simp [PV.cells])
        have n4 : c4.isAgg = false := hxn c4 (by simp [PV.cells])
        have n5 : c5.isAgg = false := hxn c5 (by simp [PV.cells])
        have hwi : IntKind.i64.wrap ((i : Int) + 1) = ((i + 1 : Nat) : Int) := by rw [wrap_small] <;> omega
        have hwj : IntKind.i64.wrap ((j : Int) + 1) = ((j + 1 : Nat) : Int) := by rw [wrap_small] <;> omega
        simp (config := {contextual := true}) only [go_sem, ↓reduceIte, reduceCtorEq, Bool.false_eq_true, Bool.true_eq_false, Nat.reduceAdd, Nat.reduceLT, Nat.reduceEqDiff, Nat.reduceLeDiff, Nat.reduceSub, Nat.reduceMul, hlt', hx, n0, n1, n2, n3, n4, n5]
        refine V.call rfl rfl (by simp [dOK]) ⟨g, caps, by simp only [go_sem, ↓reduceIte, reduceCtorEq, Bool.false_eq_true, Bool.true_eq_false, Nat.reduceAdd, Nat.reduceLT, Nat.reduceEqDiff, Nat.reduceLeDiff, Nat.reduceSub, Nat.reduceMul], hg, .inl ⟨[_], _, .inl (by simp only [go_sem, ↓reduceIte, reduceCtorEq, Bool.false_eq_true, Bool.true_eq_false, Nat.reduceAdd, Nat.reduceLT, Nat.reduceEqDiff, Nat.reduceLeDiff, Nat.reduceSub, Nat.reduceMul]), hpx, .inl ⟨_, rfl, rfl, rfl, rfl⟩⟩⟩ ?_
        refine V.exec 400 ?_
        simp (config := {contextual := true}) only [go_sem, ↓reduceIte, reduceCtorEq, Bool.false_eq_true, Bool.true_eq_false, Nat.reduceAdd, Nat.reduceLT, Nat.reduceEqDiff, Nat.reduceLeDiff, Nat.reduceSub, Nat.reduceMul, hwi, hwj, hz', hzc, n0, n1, n2, n3, n4, n5]
        have hxj : xs[j]? = some (.agg [c0, c1, c2, c3, c4, c5]) := by
          have e1 : (ys.drop j)[0]? = (xs.drop j)[0]? := by rw [hyd]
          simp only [List.getElem?_drop, Nat.add_zero] at e1
          rw [← e1]; exact hx
        have hdrop : ys.drop (j + 1) = xs.drop (j + 1) := by rw [← List.drop_drop, ← List.drop_drop, hyd]
        have htk : xs.take (j + 1) = xs.take j ++ [.agg [c0, c1, c2, c3, c4, c5]] := by rw [List.take_add_one, hxj]; rfl
        constructor
        · intro hpx
          refine ⟨xs.length - (j + 1), _, _, [some 0], by omega, ⟨i + 1, j + 1, ys.set i (.agg [c0, c1, c2, c3, c4, c5]), by omega, by omega, rfl, by simpa using hyl, ?_, ?_, ?_, rfl, rfl⟩, ?_⟩
          · rw [htk, List.filter_append, ← hyt, List.take_add_one, List.getElem?_set_self (by omega), List.take_set_of_le (Nat.le_refl _)]
            simp [hpx]
          · rw [List.drop_set_of_lt (by omega)]; exact hdrop
          · intro y hy
            rcases List.mem_or_eq_of_mem_set hy with hy | hy
            · exact hym y hy
            · rw [hy]; exact hxm
          · simp only [go_sem, ↓reduceIte, reduceCtorEq, Bool.false_eq_true, Bool.true_eq_false, Nat.reduceAdd, Nat.reduceLT, Nat.reduceEqDiff, Nat.reduceLeDiff, Nat.reduceSub, Nat.reduceMul]
        · intro hpx
          refine ⟨xs.length - (j + 1), _, _, [some 0], by omega, ⟨i, j + 1, ys, by omega, by omega, rfl, hyl, ?_, hdrop, hym, rfl, rfl⟩, ?_⟩
          · rw [htk, List.filter_append, hyt]
            simp [hpx]
          · simp only [go_sem, ↓reduceIte, reduceCtorEq, Bool.false_eq_true, Bool.true_eq_false, Nat.reduceAdd, Nat.reduceLT, Nat.reduceEqDiff, Nat.reduceLeDiff, Nat.reduceSub, Nat.reduceMul]
      · have hlt' : ¬ (j : Int) < (ys.length : Int) := by omega
        refine V.execS [11] 400 ?_
        simp (config := {contextual := true}) only [go_sem, ↓reduceIte, reduceCtorEq, Bool.false_eq_true, Bool.true_eq_false, Nat.reduceAdd, Nat.reduceLT, Nat.reduceEqDiff, Nat.reduceLeDiff, Nat.reduceSub, Nat.reduceMul, hlt']
        refine V.opn 0 6 46 ys (by simp only [go_sem, ↓reduceIte, reduceCtorEq, Bool.false_eq_true, Bool.true_eq_false, Nat.reduceAdd, Nat.reduceLT, Nat.reduceEqDiff, Nat.reduceLeDiff, Nat.reduceSub, Nat.reduceMul]) (by simp only [go_sem, ↓reduceIte, reduceCtorEq, Bool.false_eq_true, Bool.true_eq_false, Nat.reduceAdd, Nat.reduceLT, Nat.reduceEqDiff, Nat.reduceLeDiff, Nat.reduceSub, Nat.reduceMul]) fun q => ?_
        refine V.exec 400 ?_
        simp (config := {contextual := true}) only [go_sem, ↓reduceIte, reduceCtorEq, Bool.false_eq_true, Bool.true_eq_false, Nat.reduceAdd, Nat.reduceLT, Nat.reduceEqDiff, Nat.reduceLeDiff, Nat.reduceSub, Nat.reduceMul]
        have hi : i ≤ ys.length := by omega
        have hjx : j = xs.length := by omega
        rw [show 0 + i = i from Nat.zero_add i, over_length hi, List.length_replicate]
        refine ⟨⟨hi, by omega⟩, ⟨hi, by omega⟩, ⟨by omega, by omega⟩, by omega, ?_⟩
        rw [hjx, List.take_length] at hyt
        rw [Nat.sub_zero, over, List.append_assoc, List.take_append_of_le_length (by simp [Nat.min_eq_left hi]), List.take_take, Nat.min_self, hyt]
end Go.Proofs.Ytnhkknaplkjigaa
set_option linter.unusedVariables false
set_option linter.unusedSimpArgs false
namespace Go.Proofs.Ytnhkknaplkjigaa
open Go Go.Proofs Go.Proofs.YtnhkknaplkjigaaVm Go.Proofs.Ytnhkknaplkjigaa.Ty

structure Range where
  lo : List UInt8
  hi : List UInt8
  op : Bool
  deriving DecidableEq
def Range.pv (r : Range) : PV := .agg [.str r.lo, .str r.hi, .bool (decide (r.op = true))]
def Range.ok (r : Range) : Prop := r.lo.length ≤ 16 ∧ r.hi.length ≤ 17 ∧ (r.op = true → r.hi = [])
instance Range.instOk (r : Range) : Decidable r.ok := by unfold Range.ok; infer_instance

structure Sub where
  id : Int
  r : Range
  live : Bool
  next : List UInt8
  cur : Int
  deriving DecidableEq
def Sub.pv (s : Sub) : PV := .agg [.int .i64 s.id, .str s.r.lo, .str s.r.hi, .bool (decide (s.r.op = true)), .bool (decide (s.live = true)), .str s.next, .int .i64 s.cur]
def Sub.ok (s : Sub) : Prop := s.r.ok ∧ s.next.length ≤ 17 ∧ (s.live = true → s.next = []) ∧ 0 ≤ s.cur ∧ s.cur ≤ 2147483647
instance Sub.instOk (s : Sub) : Decidable s.ok := by unfold Sub.ok; infer_instance

end Go.Proofs.Ytnhkknaplkjigaa
set_option linter.unusedVariables false
set_option linter.unusedSimpArgs false
namespace Go.Proofs.Ytnhkknaplkjigaa
open Go Go.Proofs Go.Proofs.YtnhkknaplkjigaaVm Go.Proofs.Ytnhkknaplkjigaa.Ty

def rightFrom (last : Int) : List Sub → Prop
  | [] => True
  | s :: r => s.ok ∧ last < s.id ∧ rightFrom s.id r
def subsOk (l : List Sub) : Prop := rightFrom 0 l ∧ l.length ≤ 4
instance instRF : ∀ (last : Int) (l : List Sub), Decidable (rightFrom last l)
  | _, [] => isTrue trivial
  | last, s :: r => by
    unfold rightFrom
    have := instRF s.id r
    infer_instance
instance instSubsOk (l : List Sub) : Decidable (subsOk l) := by unfold subsOk; infer_instance

/-- The floor. -/
def floorOf (head : Int) : List Sub → Int
  | [] => head
  | s :: r => floorOf (min head s.cur) r

end Go.Proofs.Ytnhkknaplkjigaa
set_option linter.unusedVariables false
set_option linter.unusedSimpArgs false
namespace Go.Proofs.Ytnhkknaplkjigaa
open Go Go.Proofs Go.Proofs.YtnhkknaplkjigaaVm Go.Proofs.Ytnhkknaplkjigaa.Ty

def Change.of : PV → Change
  | .agg [.int _ s, .str k, .bool h, .str b, .bool h', .str a] => ⟨s, k, h, b, h', a⟩
  | _ => ⟨0, [], false, [], false, []⟩
theorem Change.of_pv (c : Change) : Change.of c.pv = c := by simp [Change.of, Change.pv]
theorem Change.filter_pv (l : List Change) (p : Change → Bool) : (l.map Change.pv).filter (fun x => !p (Change.of x)) = (l.filter fun c => !p c).map Change.pv := by
  induction l with
  | nil => rfl
  | cons s r ih =>
    simp only [List.map_cons, List.filter_cons, Change.of_pv, ih]
    split <;> rfl

def withoutV (l : List Change) (p : Change → Bool) : List Change := if trailOk l then l.filter (fun c => !p c) else []

set_option maxHeartbeats 4000000 in
theorem trail_without (l : List Change) (g : FuncId) (caps : List PV) (p : Change → Bool) (hl : l.length ≤ 1000000) (hg : Entered Try.prog g)
    (hp : ∀ x ∈ l, Ct Try.prog g (YtnhkknaplkjigaaVm.ops ([x.pv] ++ caps)) (.vals [.bool (decide (p x = true))])) :
    Ct Try.prog 33 (YtnhkknaplkjigaaVm.ops [.row (l.map Change.pv), .fn g caps]) (.vals [.row ((withoutV l p).map Change.pv)]) := by
  refine Ct.of_V Try.func33 rfl (by simp [YtnhkknaplkjigaaVm.ops, Try.f33]) ?_
  refine V.exec 400 ?_
  simp (config := {contextual := true}) only [go_sem, ↓reduceIte, reduceCtorEq, Bool.false_eq_true, Bool.true_eq_false, Nat.reduceAdd, Nat.reduceLT, Nat.reduceEqDiff, Nat.reduceLeDiff, Nat.reduceSub, Nat.reduceMul, Try.f33]
  refine V.call rfl rfl (by simp [dOK]) ⟨19, [], by simp only [go_sem, ↓reduceIte, reduceCtorEq, Bool.false_eq_true, Bool.true_eq_false, Nat.reduceAdd, Nat.reduceLT, Nat.reduceEqDiff, Nat.reduceLeDiff, Nat.reduceSub, Nat.reduceMul], ⟨_, rfl, rfl, rfl⟩, .inl ⟨[.row (l.map Change.pv)], _, .inl (by simp only [go_sem, ↓reduceIte, reduceCtorEq, Bool.false_eq_true, Bool.true_eq_false, Nat.reduceAdd, Nat.reduceLT, Nat.reduceEqDiff, Nat.reduceLeDiff, Nat.reduceSub, Nat.reduceMul]), trail_Right l hl, .inl ⟨_, rfl, rfl, rfl, rfl⟩⟩⟩ ?_
  refine V.exec 400 ?_
  by_cases hok : trailOk l
  · have hv : withoutV l p = l.filter (fun c => !p c) := by simp [withoutV, hok]
    simp (config := {contextual := true}) only [go_sem, ↓reduceIte, reduceCtorEq, Bool.false_eq_true, Bool.true_eq_false, Nat.reduceAdd, Nat.reduceLT, Nat.reduceEqDiff, Nat.reduceLeDiff, Nat.reduceSub, Nat.reduceMul, hok, hv]
    have h7 : ∀ x ∈ l.map Change.pv, x.cells.length = 6 ∧ x.isAgg = true ∧ ∀ c ∈ x.cells, c.isAgg = false := fun x hx => by
      obtain ⟨s, _, rfl⟩ := List.mem_map.1 hx
      exact ⟨rfl, rfl, by simp [Change.pv, PV.cells, PV.isAgg]⟩
    have hdel := DeleteFuncChange (l.map Change.pv) g caps (fun x => p (Change.of x)) h7 (by simpa using hl) hg (fun x hx => by
      obtain ⟨s, hs, rfl⟩ := List.mem_map.1 hx
      rw [Change.of_pv]
      exact hp s hs) (by simp only [go_sem, ↓reduceIte, reduceCtorEq, Bool.false_eq_true, Bool.true_eq_false, Nat.reduceAdd, Nat.reduceLT, Nat.reduceEqDiff, Nat.reduceLeDiff, Nat.reduceSub, Nat.reduceMul])
    rw [Change.filter_pv] at hdel
    refine V.call rfl rfl (by simp [dOK]) ⟨51, [], by simp only [go_sem, ↓reduceIte, reduceCtorEq, Bool.false_eq_true, Bool.true_eq_false, Nat.reduceAdd, Nat.reduceLT, Nat.reduceEqDiff, Nat.reduceLeDiff, Nat.reduceSub, Nat.reduceMul], ⟨_, rfl, rfl, rfl⟩, .inl ⟨[.row (l.map Change.pv)], _, .inl (by simp only [go_sem, ↓reduceIte, reduceCtorEq, Bool.false_eq_true, Bool.true_eq_false, Nat.reduceAdd, Nat.reduceLT, Nat.reduceEqDiff, Nat.reduceLeDiff, Nat.reduceSub, Nat.reduceMul]), CloneChange (l.map Change.pv) (fun x hx => (h7 x hx).1) (by simpa using hl), .inr (.inr ⟨46, (l.map Change.pv)   , rfl, by simp only [go_sem, ↓reduceIte, reduceCtorEq, Bool.false_eq_true, Bool.true_eq_false, Nat.reduceAdd, Nat.reduceLT, Nat.reduceEqDiff, Nat.reduceLeDiff, Nat.reduceSub, Nat.reduceMul], rfl, rfl⟩)⟩⟩ ?_
    refine V.exec 400 ?_
    simp (config := {contextual := true}) only [go_sem, ↓reduceIte, reduceCtorEq, Bool.false_eq_true, Bool.true_eq_false, Nat.reduceAdd, Nat.reduceLT, Nat.reduceEqDiff, Nat.reduceLeDiff, Nat.reduceSub, Nat.reduceMul]
    refine V.call rfl rfl (by simp [dOK]) ⟨50, [], by simp only [go_sem, ↓reduceIte, reduceCtorEq, Bool.false_eq_true, Bool.true_eq_false, Nat.reduceAdd, Nat.reduceLT, Nat.reduceEqDiff, Nat.reduceLeDiff, Nat.reduceSub, Nat.reduceMul], ⟨_, rfl, rfl, rfl⟩, .inr ⟨7, 46, l.map Change.pv, [.val (.fn g caps)], [.fn g caps], 46, _, by simp only [go_sem, ↓reduceIte, reduceCtorEq, Bool.false_eq_true, Bool.true_eq_false, Nat.reduceAdd, Nat.reduceLT, Nat.reduceEqDiff, Nat.reduceLeDiff, Nat.reduceSub, Nat.reduceMul], by simp only [go_sem, ↓reduceIte, reduceCtorEq, Bool.false_eq_true, Bool.true_eq_false, Nat.reduceAdd, Nat.reduceLT, Nat.reduceEqDiff, Nat.reduceLeDiff, Nat.reduceSub, Nat.reduceMul], .inl (by simp only [go_sem, ↓reduceIte, reduceCtorEq, Bool.false_eq_true, Bool.true_eq_false, Nat.reduceAdd, Nat.reduceLT, Nat.reduceEqDiff, Nat.reduceLeDiff, Nat.reduceSub, Nat.reduceMul]), hdel, by simp only [go_sem, ↓reduceIte, reduceCtorEq, Bool.false_eq_true, Bool.true_eq_false, Nat.reduceAdd, Nat.reduceLT, Nat.reduceEqDiff, Nat.reduceLeDiff, Nat.reduceSub, Nat.reduceMul], rfl, rfl⟩⟩ ?_
    refine V.exec 400 ?_
    simp (config := {contextual := true}) only [go_sem, ↓reduceIte, reduceCtorEq, Bool.false_eq_true, Bool.true_eq_false, Nat.reduceAdd, Nat.reduceLT, Nat.reduceEqDiff, Nat.reduceLeDiff, Nat.reduceSub, Nat.reduceMul]
  · have hv : withoutV l p = [] := by simp [withoutV, hok]
    simp (config := {contextual := true}) only [go_sem, ↓reduceIte, reduceCtorEq, Bool.false_eq_true, Bool.true_eq_false, Nat.reduceAdd, Nat.reduceLT, Nat.reduceEqDiff, Nat.reduceLeDiff, Nat.reduceSub, Nat.reduceMul, hok, hv, List.map_nil]

theorem trail_Drop1 (c : Change) (n : Int) : Ct Try.prog 34 (YtnhkknaplkjigaaVm.ops [c.pv, .ptr (.int .i64 n)]) (.vals [.bool (decide (c.seq ≤ n))]) := by
  refine Ct.of_V Try.func34 rfl (by simp [YtnhkknaplkjigaaVm.ops, Try.f34]) ?_
  refine V.exec 400 ?_
  simp (config := {contextual := true}) only [go_sem, ↓reduceIte, reduceCtorEq, Bool.false_eq_true, Bool.true_eq_false, Nat.reduceAdd, Nat.reduceLT, Nat.reduceEqDiff, Nat.reduceLeDiff, Nat.reduceSub, Nat.reduceMul, Try.f34, Change.pv]

def dropV (l : List Change) (n : Int) : List Change := withoutV l (fun c => decide (c.seq ≤ n))
theorem trail_Drop (l : List Change) (n : Int) (hl : l.length ≤ 1000000) : Ct Try.prog 21 (YtnhkknaplkjigaaVm.ops [.row (l.map Change.pv), .int .i64 n]) (.vals [.row ((dropV l n).map Change.pv)]) := by
  refine Ct.of_V Try.func21 rfl (by simp [YtnhkknaplkjigaaVm.ops, Try.f21]) ?_
  refine V.exec 400 ?_
  simp (config := {contextual := true}) only [go_sem, ↓reduceIte, reduceCtorEq, Bool.false_eq_true, Bool.true_eq_false, Nat.reduceAdd, Nat.reduceLT, Nat.reduceEqDiff, Nat.reduceLeDiff, Nat.reduceSub, Nat.reduceMul, Try.f21]
  refine V.call rfl rfl (by simp [dOK]) ⟨33, [], by simp only [go_sem, ↓reduceIte, reduceCtorEq, Bool.false_eq_true, Bool.true_eq_false, Nat.reduceAdd, Nat.reduceLT, Nat.reduceEqDiff, Nat.reduceLeDiff, Nat.reduceSub, Nat.reduceMul], ⟨_, rfl, rfl, rfl⟩, .inl ⟨[.row (l.map Change.pv), .fn 34 [.ptr (.int .i64 n)]], _, .inl (by simp only [go_sem, ↓reduceIte, reduceCtorEq, Bool.false_eq_true, Bool.true_eq_false, Nat.reduceAdd, Nat.reduceLT, Nat.reduceEqDiff, Nat.reduceLeDiff, Nat.reduceSub, Nat.reduceMul]), trail_without l 34 [.ptr (.int .i64 n)] (fun c => decide (c.seq ≤ n)) hl ⟨_, rfl, rfl, rfl⟩ (fun x _ => by simpa using trail_Drop1 x n), .inr (.inl ⟨_, rfl, rfl, rfl⟩)⟩⟩ ?_
  refine V.exec 400 ?_
  simp (config := {contextual := true}) only [go_sem, ↓reduceIte, reduceCtorEq, Bool.false_eq_true, Bool.true_eq_false, Nat.reduceAdd, Nat.reduceLT, Nat.reduceEqDiff, Nat.reduceLeDiff, Nat.reduceSub, Nat.reduceMul]
  rfl

end Go.Proofs.Ytnhkknaplkjigaa
set_option linter.unusedVariables false
set_option linter.unusedSimpArgs false
namespace Go.Proofs.Ytnhkknaplkjigaa
open Go Go.Proofs Go.Proofs.YtnhkknaplkjigaaVm Go.Proofs.Ytnhkknaplkjigaa.Ty

def Range.isIn (r : Range) (k : List UInt8) : Prop := ¬ slt k r.lo ∧ (r.op = true ∨ slt k r.hi)
instance Range.instIn (r : Range) (k : List UInt8) : Decidable (r.isIn k) := by unfold Range.isIn; infer_instance

theorem stretch_In (r : Range) (k : List UInt8) : Ct Try.prog 42 (YtnhkknaplkjigaaVm.ops [r.pv, .str k]) (.vals [.bool (decide (r.isIn k))]) := by
  refine Ct.of_V Try.func42 rfl (by simp [YtnhkknaplkjigaaVm.ops, Try.f42]) ?_
  refine V.exec 400 ?_
  simp (config := {contextual := true}) only [go_sem, ↓reduceIte, reduceCtorEq, Bool.false_eq_true, Bool.true_eq_false, Nat.reduceAdd, Nat.reduceLT, Nat.reduceEqDiff, Nat.reduceLeDiff, Nat.reduceSub, Nat.reduceMul, Try.f42, Range.pv]
  simp only [Option.some.injEq, List.cons.injEq, PV.bool.injEq, and_true]
  grind [Range.isIn]

def maxStr (a b : List UInt8) : List UInt8 := if slt a b then b else a
def minStr (a b : List UInt8) : List UInt8 := if slt a b ∨ a = b then a else b
def meetStep (o r : Range) : Range :=
  if r.op = true then { o with lo := maxStr o.lo r.lo } else if o.op = true then ⟨maxStr o.lo r.lo, r.hi, false⟩ else ⟨maxStr o.lo r.lo, minStr o.hi r.hi, o.op⟩
def meetV (l : List Range) : Range := l.foldl meetStep ⟨[], [], true⟩

end Go.Proofs.Ytnhkknaplkjigaa
set_option linter.unusedVariables false
set_option linter.unusedSimpArgs false
namespace Go.Proofs.Ytnhkknaplkjigaa
open Go Go.Proofs Go.Proofs.YtnhkknaplkjigaaVm Go.Proofs.Ytnhkknaplkjigaa.Ty

set_option maxHeartbeats 2000000 in
theorem IndexFuncPair (xs : List PV) (g : FuncId) (caps : List PV) (p : PV → Bool) (h1 : ∀ x ∈ xs, x.cells.length = 2 ∧ x.isAgg = true) (hl : xs.length ≤ 1000000) (hg : Entered Try.prog g)
    (hp : ∀ x ∈ xs, Ct Try.prog g (YtnhkknaplkjigaaVm.ops ([x] ++ caps)) (.vals [.bool (decide (p x = true))])) (r : Nat) (hr : r ≤ xs.length) (hr1 : ∀ x ∈ xs.take r, p x = false) (hr2 : ∀ x, xs[r]? = some x → p x = true) :
    Ct Try.prog 55 (YtnhkknaplkjigaaVm.ops [.row xs, .fn g caps]) (.vals [.int .i64 (if r < xs.length then (r : Int) else -1)]) := by
  refine Ct.of_V Try.func55 rfl (by simp [YtnhkknaplkjigaaVm.ops, Try.f55]) ?_
  refine V.exec 400 ?_
  simp (config := {contextual := true}) only [go_sem, ↓reduceIte, reduceCtorEq, Bool.false_eq_true, Bool.true_eq_false, Nat.reduceAdd, Nat.reduceLT, Nat.reduceEqDiff, Nat.reduceLeDiff, Nat.reduceSub, Nat.reduceMul, Try.f55]
  refine V.loop (fun m ls os => ∃ i : Nat, i ≤ r ∧ m = xs.length - i ∧
        ls = [(0, .val (.row xs)), (1, .val (.fn g caps)), (7, .val (.int .i64 xs.length)), (8, .val (.int .i64 i))] ∧ os = []) 0 xs.length [(0, .val (.row xs)), (1, .val (.fn g caps)), (7, .val (.int .i64 xs.length)), (8, .val (.int .i64 0))] [] []
      ⟨0, Nat.zero_le _, rfl, rfl, rfl⟩ (by simp only [go_sem, ↓reduceIte, reduceCtorEq, Bool.false_eq_true, Bool.true_eq_false, Nat.reduceAdd, Nat.reduceLT, Nat.reduceEqDiff, Nat.reduceLeDiff, Nat.reduceSub, Nat.reduceMul]) ?_
  rintro m ls os ⟨i, hi, rfl, rfl, rfl⟩
  refine V.exec 400 ?_
  by_cases hlt : i < xs.length
  · have hlt' : (i : Int) < (xs.length : Int) := by omega
    obtain ⟨x, hx⟩ : ∃ x, xs[i]? = some x := ⟨_, List.getElem?_eq_getElem hlt⟩
    have hxm : x ∈ xs := List.mem_of_getElem? hx
    obtain ⟨hxc, hxa⟩ := h1 x hxm
    have hw : IntKind.i64.wrap ((i : Int) + 1) = ((i + 1 : Nat) : Int) := by rw [wrap_small] <;> omega
    simp (config := {contextual := true}) only [go_sem, ↓reduceIte, reduceCtorEq, Bool.false_eq_true, Bool.true_eq_false, Nat.reduceAdd, Nat.reduceLT, Nat.reduceEqDiff, Nat.reduceLeDiff, Nat.reduceSub, Nat.reduceMul, hlt', hx, hxc, hxa]
    refine V.call rfl rfl (by simp [dOK]) ⟨g, caps, by simp only [go_sem, ↓reduceIte, reduceCtorEq, Bool.false_eq_true, Bool.true_eq_false, Nat.reduceAdd, Nat.reduceLT, Nat.reduceEqDiff, Nat.reduceLeDiff, Nat.reduceSub, Nat.reduceMul], hg, .inl ⟨[x], _, .inl (by simp only [go_sem, ↓reduceIte, reduceCtorEq, Bool.false_eq_true, Bool.true_eq_false, Nat.reduceAdd, Nat.reduceLT, Nat.reduceEqDiff, Nat.reduceLeDiff, Nat.reduceSub, Nat.reduceMul]), hp x hxm, .inl ⟨_, rfl, rfl, rfl, rfl⟩⟩⟩ ?_
    refine V.exec 400 ?_
    simp (config := {contextual := true}) only [go_sem, ↓reduceIte, reduceCtorEq, Bool.false_eq_true, Bool.true_eq_false, Nat.reduceAdd, Nat.reduceLT, Nat.reduceEqDiff, Nat.reduceLeDiff, Nat.reduceSub, Nat.reduceMul, hw]
    constructor
    · intro hpx
      have hir : i = r := by
        rcases Nat.lt_or_ge i r with h | h
        · have := hr1 x (List.mem_of_getElem? (i := i) (by rw [List.getElem?_take_of_lt h]; exact hx))
          rw [this] at hpx; cases hpx
        · omega
      subst hir
      rw [if_pos hlt]
    · intro hpx
      have hir : i < r := by
        rcases Nat.lt_or_ge i r with h | h
        · exact h
        · have : i = r := by omega
          subst this
          exact absurd (hr2 x hx) hpx
      exact ⟨xs.length - (i + 1), _, [], [], by omega, ⟨i + 1, by omega, rfl, rfl, rfl⟩, by simp only [go_sem, ↓reduceIte, reduceCtorEq, Bool.false_eq_true, Bool.true_eq_false, Nat.reduceAdd, Nat.reduceLT, Nat.reduceEqDiff, Nat.reduceLeDiff, Nat.reduceSub, Nat.reduceMul]⟩
  · have hlt' : ¬ (i : Int) < (xs.length : Int) := by omega
    simp (config := {contextual := true}) only [go_sem, ↓reduceIte, reduceCtorEq, Bool.false_eq_true, Bool.true_eq_false, Nat.reduceAdd, Nat.reduceLT, Nat.reduceEqDiff, Nat.reduceLeDiff, Nat.reduceSub, Nat.reduceMul, hlt']
    rw [if_neg (by omega)]
set_option maxHeartbeats 4000000 in
theorem DeleteFuncPair (xs : List PV) (g : FuncId) (caps : List PV) (p : PV → Bool) (h1 : ∀ x ∈ xs, x.cells.length = 2 ∧ x.isAgg = true ∧ ∀ c ∈ x.cells, c.isAgg = false) (hl : xs.length ≤ 1000000) (hg : Entered Try.prog g)
    (hp : ∀ x ∈ xs, Ct Try.prog g (YtnhkknaplkjigaaVm.ops ([x] ++ caps)) (.vals [.bool (decide (p x = true))])) (hz : (zeroPV Try.prog 41 2).isSome = true) :
    Ct Try.prog 39 (.o 41 xs :: YtnhkknaplkjigaaVm.ops [.fn g caps]) (.own 41 (xs.filter fun x => !p x)) := by
  -- the first that goes
  obtain ⟨r, hr, hr1, hr2⟩ : ∃ r, r ≤ xs.length ∧ (∀ x ∈ xs.take r, p x = false) ∧ ∀ x, xs[r]? = some x → p x = true := by
    clear h1 hl hp
    induction xs with
    | nil => exact ⟨0, by simp, by simp, by simp⟩
    | cons x xs ih =>
      by_cases hx : p x = true
      · exact ⟨0, by simp, by simp, by simp [hx]⟩
      · obtain ⟨r, h1, h2, h3⟩ := ih
        refine ⟨r + 1, by simpa using h1, ?_, by simpa using h3⟩
        intro y hy
        simp only [List.take_succ_cons, List.mem_cons] at hy
        rcases hy with rfl | hy
        · simpa using hx
        · exact h2 y hy
  refine Ct.of_V Try.func39 rfl (by simp [YtnhkknaplkjigaaVm.ops, Try.f39]) ?_
  refine V.exec 400 ?_
  simp (config := {contextual := true}) only [go_sem, ↓reduceIte, reduceCtorEq, Bool.false_eq_true, Bool.true_eq_false, Nat.reduceAdd, Nat.reduceLT, Nat.reduceEqDiff, Nat.reduceLeDiff, Nat.reduceSub, Nat.reduceMul, Try.f39]
  refine V.call rfl rfl (by simp [dOK]) ⟨55, [], by simp only [go_sem, ↓reduceIte, reduceCtorEq, Bool.false_eq_true, Bool.true_eq_false, Nat.reduceAdd, Nat.reduceLT, Nat.reduceEqDiff, Nat.reduceLeDiff, Nat.reduceSub, Nat.reduceMul], ⟨_, rfl, rfl, rfl⟩, .inl ⟨[.row xs, .fn g caps], _, .inl (by simp only [go_sem, ↓reduceIte, reduceCtorEq, Bool.false_eq_true, Bool.true_eq_false, Nat.reduceAdd, Nat.reduceLT, Nat.reduceEqDiff, Nat.reduceLeDiff, Nat.reduceSub, Nat.reduceMul]), IndexFuncPair xs g caps p (fun x hx => ⟨(h1 x hx).1, (h1 x hx).2.1⟩) hl hg hp r hr hr1 hr2, .inl ⟨_, rfl, rfl, rfl, rfl⟩⟩⟩ ?_
  refine V.exec 400 ?_
  simp (config := {contextual := true}) only [go_sem, ↓reduceIte, reduceCtorEq, Bool.false_eq_true, Bool.true_eq_false, Nat.reduceAdd, Nat.reduceLT, Nat.reduceEqDiff, Nat.reduceLeDiff, Nat.reduceSub, Nat.reduceMul]
  constructor
  · intro h
    have hrl : ¬ r < xs.length := by intro h'; rw [if_pos h'] at h; omega
    have : xs.filter (fun x => !p x) = xs := by
      rw [List.filter_eq_self]
      intro x hx
      have := hr1 x (by rw [List.take_of_length_le (by omega)]; exact hx)
      simp [this]
    rw [this]
  · intro h
    have hrl : r < xs.length := by
      rcases Nat.lt_or_ge r xs.length with h' | h'
      · exact h'
      · rw [if_neg (by omega)] at h; exact absurd rfl h
    simp only [if_pos hrl]
    have hw0 : IntKind.i64.wrap ((r : Int) + 1) = ((r + 1 : Nat) : Int) := by rw [wrap_small] <;> omega
    simp only [hw0]
    refine V.loop (fun m ls os => ∃ (i j : Nat) (ys : List PV), i < j ∧ j ≤ xs.length ∧ m = xs.length - j ∧ ys.length = xs.length ∧ ys.take i = (xs.take j).filter (fun x => !p x) ∧ ys.drop j = xs.drop j ∧ (∀ y ∈ ys, y ∈ xs) ∧
        ls = [(0, .ref 0), (1, .val (.fn g caps)), (5, .val (.int .i64 i)), (6, .val (.int .i64 j))] ∧ os = [.row 41 ys]) 1 (xs.length - (r + 1)) [(0, .ref 0), (1, .val (.fn g caps)), (5, .val (.int .i64 r)), (6, .val (.int .i64 (r + 1 : Nat)))] [.row 41 xs] [some 0]
      ⟨r, r + 1, xs, by omega, by omega, rfl, rfl, ?_, rfl, fun y hy => hy, rfl, rfl⟩ (by simp only [go_sem, ↓reduceIte, reduceCtorEq, Bool.false_eq_true, Bool.true_eq_false, Nat.reduceAdd, Nat.reduceLT, Nat.reduceEqDiff, Nat.reduceLeDiff, Nat.reduceSub, Nat.reduceMul]) ?_
    · obtain ⟨x, hx⟩ : ∃ x, xs[r]? = some x := ⟨_, List.getElem?_eq_getElem hrl⟩
      rw [List.take_add_one, hx, List.filter_append]
      have e1 : (xs.take r).filter (fun x => !p x) = xs.take r := by
        rw [List.filter_eq_self]; intro y hy; simp [hr1 y hy]
      rw [e1]
      simp [hr2 x hx]
    · rintro m ls os ⟨i, j, ys, hij, hj, rfl, hyl, hyt, hyd, hym, rfl, rfl⟩
      by_cases hlt : j < xs.length
      · have hlt' : (j : Int) < (ys.length : Int) := by omega
        refine V.exec 400 ?_
        obtain ⟨x, hx⟩ : ∃ x, ys[j]? = some x := ⟨_, List.getElem?_eq_getElem (by omega)⟩
        obtain ⟨z, hz'⟩ : ∃ z, ys[i]? = some z := ⟨_, List.getElem?_eq_getElem (by omega)⟩
        have hxm : x ∈ xs := hym x (List.mem_of_getElem? hx)
        have hzm : z ∈ xs := hym z (List.mem_of_getElem? hz')
        obtain ⟨hzc, hza, _⟩ := h1 z hzm
        obtain ⟨hxc, hxa, hxn⟩ := h1 x hxm
        have hpx := hp x hxm
        obtain ⟨c0, c1, rfl⟩ : ∃ c0 c1, x = .agg [c0, c1] := by
          cases x with
          | agg cs =>
            match cs, hxc with
            | [c0, c1], _ => exact ⟨c0, c1, rfl⟩
          | _ => cases hxa
        have n0 : c0.isAgg = false := hxn c0 (by simp [PV.cells])
        have n1 : c1.isAgg = false := hxn c1 (by simp [PV.cells])
        have hwi : IntKind.i64.wrap ((i : Int) + 1) = ((i + 1 : Nat) : Int) := by rw [wrap_small] <;> omega
        have hwj : IntKind.i64.wrap ((j : Int) + 1) = ((j + 1 : Nat) : Int) := by rw [wrap_small] <;> omega
        simp (config := {contextual := true}) only [go_sem, ↓reduceIte, reduceCtorEq, Bool.false_eq_true, Bool.true_eq_false, Nat.reduceAdd, Nat.reduceLT, Nat.reduceEqDiff, Nat.reduceLeDiff, Nat.reduceSub, Nat.reduceMul, hlt', hx, n0, n1]
        refine V.call rfl rfl (by simp [dOK]) ⟨g, caps, by simp only [go_sem, ↓reduceIte, reduceCtorEq, Bool.false_eq_true, Bool.true_eq_false, Nat.reduceAdd, Nat.reduceLT, Nat.reduceEqDiff, Nat.reduceLeDiff, Nat.reduceSub, Nat.reduceMul], hg, .inl ⟨[_], _, .inl (by simp only [go_sem, ↓reduceIte, reduceCtorEq, Bool.false_eq_true, Bool.true_eq_false, Nat.reduceAdd, Nat.reduceLT, Nat.reduceEqDiff, Nat.reduceLeDiff, Nat.reduceSub, Nat.reduceMul]), hpx, .inl ⟨_, rfl, rfl, rfl, rfl⟩⟩⟩ ?_
        refine V.exec 400 ?_
        simp (config := {contextual := true}) only [go_sem, ↓reduceIte, reduceCtorEq, Bool.false_eq_true, Bool.true_eq_false, Nat.reduceAdd, Nat.reduceLT, Nat.reduceEqDiff, Nat.reduceLeDiff, Nat.reduceSub, Nat.reduceMul, hwi, hwj, hz', hzc, n0, n1]
        have hxj : xs[j]? = some (.agg [c0, c1]) := by
          have e1 : (ys.drop j)[0]? = (xs.drop j)[0]? := by rw [hyd]
          simp only [List.getElem?_drop, Nat.add_zero] at e1
          rw [← e1]; exact hx
        have hdrop : ys.drop (j + 1) = xs.drop (j + 1) := by rw [← List.drop_drop, ← List.drop_drop, hyd]
        have htk : xs.take (j + 1) = xs.take j ++ [.agg [c0, c1]] := by rw [List.take_add_one, hxj]; rfl
        constructor
        · intro hpx
          refine ⟨xs.length - (j + 1), _, _, [some 0], by omega, ⟨i + 1, j + 1, ys.set i (.agg [c0, c1]), by omega, by omega, rfl, by simpa using hyl, ?_, ?_, ?_, rfl, rfl⟩, ?_⟩
          · rw [htk, List.filter_append, ← hyt, List.take_add_one, List.getElem?_set_self (by omega), List.take_set_of_le (Nat.le_refl _)]
            simp [hpx]
          · rw [List.drop_set_of_lt (by omega)]; exact hdrop
          · intro y hy
            rcases List.mem_or_eq_of_mem_set hy with hy | hy
            · exact hym y hy
            · rw [hy]; exact hxm
          · simp only [go_sem, ↓reduceIte, reduceCtorEq, Bool.false_eq_true, Bool.true_eq_false, Nat.reduceAdd, Nat.reduceLT, Nat.reduceEqDiff, Nat.reduceLeDiff, Nat.reduceSub, Nat.reduceMul]
        · intro hpx
          refine ⟨xs.length - (j + 1), _, _, [some 0], by omega, ⟨i, j + 1, ys, by omega, by omega, rfl, hyl, ?_, hdrop, hym, rfl, rfl⟩, ?_⟩
          · rw [htk, List.filter_append, hyt]
            simp [hpx]
          · simp only [go_sem, ↓reduceIte, reduceCtorEq, Bool.false_eq_true, Bool.true_eq_false, Nat.reduceAdd, Nat.reduceLT, Nat.reduceEqDiff, Nat.reduceLeDiff, Nat.reduceSub, Nat.reduceMul]
      · have hlt' : ¬ (j : Int) < (ys.length : Int) := by omega
        refine V.execS [11] 400 ?_
        simp (config := {contextual := true}) only [go_sem, ↓reduceIte, reduceCtorEq, Bool.false_eq_true, Bool.true_eq_false, Nat.reduceAdd, Nat.reduceLT, Nat.reduceEqDiff, Nat.reduceLeDiff, Nat.reduceSub, Nat.reduceMul, hlt']
        refine V.opn 0 2 41 ys (by simp only [go_sem, ↓reduceIte, reduceCtorEq, Bool.false_eq_true, Bool.true_eq_false, Nat.reduceAdd, Nat.reduceLT, Nat.reduceEqDiff, Nat.reduceLeDiff, Nat.reduceSub, Nat.reduceMul]) (by simp only [go_sem, ↓reduceIte, reduceCtorEq, Bool.false_eq_true, Bool.true_eq_false, Nat.reduceAdd, Nat.reduceLT, Nat.reduceEqDiff, Nat.reduceLeDiff, Nat.reduceSub, Nat.reduceMul]) fun q => ?_
        refine V.exec 400 ?_
        simp (config := {contextual := true}) only [go_sem, ↓reduceIte, reduceCtorEq, Bool.false_eq_true, Bool.true_eq_false, Nat.reduceAdd, Nat.reduceLT, Nat.reduceEqDiff, Nat.reduceLeDiff, Nat.reduceSub, Nat.reduceMul]
        have hi : i ≤ ys.length := by omega
        have hjx : j = xs.length := by omega
        rw [show 0 + i = i from Nat.zero_add i, over_length hi, List.length_replicate]
        refine ⟨⟨hi, by omega⟩, ⟨hi, by omega⟩, ⟨by omega, by omega⟩, by omega, ?_⟩
        rw [hjx, List.take_length] at hyt
        rw [Nat.sub_zero, over, List.append_assoc, List.take_append_of_le_length (by simp [Nat.min_eq_left hi]), List.take_take, Nat.min_self, hyt]
end Go.Proofs.Ytnhkknaplkjigaa
