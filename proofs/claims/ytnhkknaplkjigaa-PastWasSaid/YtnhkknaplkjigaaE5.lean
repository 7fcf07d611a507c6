/- A part of a proof: functions of the program, walked. -/
import Derived.Test.YtnhkknaplkjigaaGH
set_option linter.unusedVariables false
set_option linter.unusedSimpArgs false
namespace Go.Proofs.Ytnhkknaplkjigaa
open Go Go.Proofs Go.Proofs.YtnhkknaplkjigaaVm Go.Proofs.Ytnhkknaplkjigaa.Ty

theorem consec_drop {c : List Change} (h : Consec 0 c) {k : Nat} : ∀ x ∈ c.drop k, (k : Int) < x.seq := fun x hx => by
  obtain ⟨j, hj, rfl⟩ := List.getElem_of_mem hx
  have := h (k + j) _ (by rw [← List.getElem?_drop]; exact List.getElem?_eq_getElem hj)
  rw [this]; omega
theorem at_part {p pa : List Pair} {ca cb : List Change} (hpo : pairsOk p) (ht : trailOk (ca ++ cb)) (hc : Consec 0 (ca ++ cb)) (hd : doV pa cb = (p, 0)) : atV p (ca ++ cb) 0 (ca.length : Int) = (pa, 0) := by
  have e1 : dropV (ca ++ cb) (ca.length : Int) = cb := by
    rw [dropV_at ht (n := (ca.length : Int)) (k := ca.length) (by rw [List.length_append]; omega) (consec_drop hc) (fun x hk hx => by
      have := hc _ x hx
      rw [this]; omega)]
    exact List.drop_left
  have e2 : backGo p cb = some pa := by
    have := (do_undo hd).1
    rw [undoV_go hpo] at this
    cases hb : backGo p cb with
    | none => rw [hb] at this; simp at this
    | some q => rw [hb] at this; simp at this; rw [this]
  unfold atV
  rw [if_pos ⟨hpo, ht⟩, if_neg (by omega), e1, e2]
/-- What batches leave, as of the end of each. -/
theorem was_part {bs : List (List Note)} {c : List Change} {p : List Pair} {ends : List Int} (h : allV [] 0 bs = (c, p, ends, 0)) {i : Nat} {s : Int} (hs : ends[i]? = some s) :
    ∃ ca ea pa, allV [] 0 (bs.take (i + 1)) = (ca, pa, ea, 0) ∧ atV p c 0 s = (pa, 0) := by
  have hp0 : pairsOk [] := by decide
  have hL := allV_lead hp0 h
  have hil : i < bs.length := by rw [← hL.elen]; exact (List.getElem?_eq_some_iff.1 hs).1
  have hpt := all_parts [] 0 (bs.take (i + 1)) (bs.drop (i + 1))
  rw [List.take_append_drop, h] at hpt
  simp only at hpt
  obtain ⟨ca, pa, ea, fa, hA⟩ : ∃ x y z u, allV [] 0 (bs.take (i + 1)) = (x, y, z, u) := ⟨_, _, _, _, rfl⟩
  rw [hA] at hpt
  simp only at hpt
  have hfa : fa = 0 := Classical.byContradiction fun g => hpt.1 g rfl
  subst hfa
  have h2 := hpt.2 rfl
  obtain ⟨cb, pb, eb, fb, hB⟩ : ∃ x y z u, allV pa (0 + (ca.length : Int)) (bs.drop (i + 1)) = (x, y, z, u) := ⟨_, _, _, _, rfl⟩
  rw [hB] at h2
  simp only at h2
  have hfb : fb = 0 := h2.1.symm
  subst hfb
  have h3 := h2.2 rfl
  simp only [Prod.mk.injEq] at h3
  obtain ⟨rfl, rfl, rfl, _⟩ := h3
  have hLa := allV_lead hp0 hA
  have hLb := allV_lead hLa.pok hB
  have hea : ea.length = i + 1 := by rw [hLa.elen, List.length_take]; omega
  have hsi : s = (ca.length : Int) := by
    rw [List.getElem?_append_left (by omega)] at hs
    have hl := hLa.last (by intro g; have := congrArg List.length g; rw [List.length_take, List.length_nil] at this; omega)
    rw [List.getLast?_eq_getElem?, hea, Nat.add_sub_cancel, hs] at hl
    simpa using hl
  subst hsi
  exact ⟨ca, ea, pa, hA, at_part hL.pok hL.facts.2.2.2.1 hL.seqs hLb.facts.1⟩
theorem was_zero {bs : List (List Note)} {c : List Change} {p : List Pair} {ends : List Int} (h : allV [] 0 bs = (c, p, ends, 0)) : atV p c 0 0 = ([], 0) := by
  have hL := allV_lead (by decide) h
  exact at_part (ca := []) (cb := c) hL.pok hL.facts.2.2.2.1 hL.seqs hL.facts.1
theorem was_all {bs : List (List Note)} {c : List Change} {p : List Pair} {ends : List Int} (h : allV [] 0 bs = (c, p, ends, 0)) : atV p c 0 ((c.length : Int) + 5) = (p, 0) := by
  have hL := allV_lead (by decide) h
  have ht := hL.facts.2.2.2.1
  have e1 : dropV c ((c.length : Int) + 5) = [] := by
    rw [dropV_at ht (k := c.length) (Nat.le_refl _) (by simp) (fun x hk hx => by
      have := hL.seqs _ x hx
      rw [this]; omega)]
    simp
  unfold atV
  rw [if_pos ⟨hL.pok, ht⟩, if_neg (by omega), e1]
  rfl

set_option maxRecDepth 10000 in
set_option maxHeartbeats 16000000 in
theorem law_WasP (bs : List (List Note)) (hn : bs.length ≤ maxLen) (hb : ∀ b ∈ bs, b.length ≤ maxLen) :
    Ct Try.prog 7 (YtnhkknaplkjigaaVm.ops [.row (bs.map rowN)]) (.vals [.bool true]) := by
  have aw := law18_awake
  simp only [maxLen] at hn hb
  refine Ct.of_V Try.func7 rfl (by simp [YtnhkknaplkjigaaVm.ops, Try.f7]) ?_
  refine V.exec 400 ?_
  simp (config := {contextual := true}) only [go_sem, ↓reduceIte, reduceCtorEq, Bool.false_eq_true, Bool.true_eq_false, Nat.reduceAdd, Nat.reduceLT, Nat.reduceEqDiff, Nat.reduceLeDiff, Nat.reduceSub, Nat.reduceMul, Try.f7]
  by_cases h10 : bs.length ≤ 10
  · have h10' : ¬ (10 : Int) < (bs.length : Int) := by omega
    simp (config := {contextual := true}) only [go_sem, ↓reduceIte, reduceCtorEq, Bool.false_eq_true, Bool.true_eq_false, Nat.reduceAdd, Nat.reduceLT, Nat.reduceEqDiff, Nat.reduceLeDiff, Nat.reduceSub, Nat.reduceMul, h10']
    refine V.loop (fun m ls os => ∃ (i : Nat), i ≤ bs.length ∧ m = bs.length - i ∧
        ls = [(0, .val (.row (bs.map rowN))), (27, .val (.row (bs.map rowN))), (28, .val (.int .i64 bs.length)), (29, .val (.int .i64 i))] ∧ os = []) 0 bs.length
      [(0, .val (.row (bs.map rowN))), (27, .val (.row (bs.map rowN))), (28, .val (.int .i64 bs.length)), (29, .val (.int .i64 0))] [] []
      ⟨0, Nat.zero_le _, rfl, rfl, rfl⟩ (by simp only [go_sem, ↓reduceIte, reduceCtorEq, Bool.false_eq_true, Bool.true_eq_false, Nat.reduceAdd, Nat.reduceLT, Nat.reduceEqDiff, Nat.reduceLeDiff, Nat.reduceSub, Nat.reduceMul]) ?_
    rintro m ls os ⟨i, hi, rfl, rfl, rfl⟩
    refine V.exec 400 ?_
    by_cases hlt : i < bs.length
    · have hlt' : (i : Int) < (bs.length : Int) := by omega
      obtain ⟨b, hx⟩ : ∃ x, bs[i]? = some x := ⟨_, List.getElem?_eq_getElem hlt⟩
      have hbl := hb b (List.mem_of_getElem? hx)
      have hw : IntKind.i64.wrap ((i : Int) + 1) = ((i + 1 : Nat) : Int) := by rw [wrap_small3] <;> omega
      simp (config := {contextual := true}) only [go_sem, ↓reduceIte, reduceCtorEq, Bool.false_eq_true, Bool.true_eq_false, Nat.reduceAdd, Nat.reduceLT, Nat.reduceEqDiff, Nat.reduceLeDiff, Nat.reduceSub, Nat.reduceMul, hlt', hx, rowN]
      refine V.loop (fun m ls os => ∃ (j : Nat), j ≤ b.length ∧ m = b.length - j ∧
          ls = [(0, .val (.row (bs.map rowN))), (27, .val (.row (bs.map rowN))), (28, .val (.int .i64 bs.length)), (29, .val (.int .i64 i)), (33, .val (.row (b.map Note.pv))), (34, .val (.int .i64 b.length)), (35, .val (.int .i64 j))] ∧ os = []) 0 b.length
        [(0, .val (.row (bs.map rowN))), (27, .val (.row (bs.map rowN))), (28, .val (.int .i64 bs.length)), (29, .val (.int .i64 i)), (33, .val (.row (b.map Note.pv))), (34, .val (.int .i64 b.length)), (35, .val (.int .i64 0))] [] []
        ⟨0, Nat.zero_le _, rfl, rfl, rfl⟩ (by simp only [go_sem, ↓reduceIte, reduceCtorEq, Bool.false_eq_true, Bool.true_eq_false, Nat.reduceAdd, Nat.reduceLT, Nat.reduceEqDiff, Nat.reduceLeDiff, Nat.reduceSub, Nat.reduceMul, rowN]) ?_
      rintro m ls os ⟨j, hj, rfl, rfl, rfl⟩
      refine V.exec 400 ?_
      by_cases hjt : j < b.length
      · have hjt' : (j : Int) < (b.length : Int) := by omega
        obtain ⟨x, hy⟩ : ∃ x, b[j]? = some x := ⟨_, List.getElem?_eq_getElem hjt⟩
        have hw2 : IntKind.i64.wrap ((j : Int) + 1) = ((j + 1 : Nat) : Int) := by rw [wrap_small3] <;> omega
        have fin : ∃ m', m' = b.length - (j + 1) := ⟨_, rfl⟩
        by_cases hk : (300 : Int) < (x.key.length : Int)
        · simp (config := {contextual := true}) only [go_sem, ↓reduceIte, reduceCtorEq, Bool.false_eq_true, Bool.true_eq_false, Nat.reduceAdd, Nat.reduceLT, Nat.reduceEqDiff, Nat.reduceLeDiff, Nat.reduceSub, Nat.reduceMul, hjt', hy, Note.pv, hk]
          refine V.call rfl rfl (by simp [dOK]) ⟨9, [], by simp only [go_sem, ↓reduceIte, reduceCtorEq, Bool.false_eq_true, Bool.true_eq_false, Nat.reduceAdd, Nat.reduceLT, Nat.reduceEqDiff, Nat.reduceLeDiff, Nat.reduceSub, Nat.reduceMul], ⟨_, rfl, rfl, rfl⟩, .inl ⟨[], _, .inl (by simp only [go_sem, ↓reduceIte, reduceCtorEq, Bool.false_eq_true, Bool.true_eq_false, Nat.reduceAdd, Nat.reduceLT, Nat.reduceEqDiff, Nat.reduceLeDiff, Nat.reduceSub, Nat.reduceMul]), aw, .inl ⟨_, rfl, rfl, rfl, rfl⟩⟩⟩ ?_
          refine V.exec 400 ?_
          simp (config := {contextual := true}) only [go_sem, ↓reduceIte, reduceCtorEq, Bool.false_eq_true, Bool.true_eq_false, Nat.reduceAdd, Nat.reduceLT, Nat.reduceEqDiff, Nat.reduceLeDiff, Nat.reduceSub, Nat.reduceMul]
        · by_cases hv : (300 : Int) < (x.value.length : Int)
          · simp (config := {contextual := true}) only [go_sem, ↓reduceIte, reduceCtorEq, Bool.false_eq_true, Bool.true_eq_false, Nat.reduceAdd, Nat.reduceLT, Nat.reduceEqDiff, Nat.reduceLeDiff, Nat.reduceSub, Nat.reduceMul, hjt', hy, Note.pv, hk, hv]
            refine V.call rfl rfl (by simp [dOK]) ⟨9, [], by simp only [go_sem, ↓reduceIte, reduceCtorEq, Bool.false_eq_true, Bool.true_eq_false, Nat.reduceAdd, Nat.reduceLT, Nat.reduceEqDiff, Nat.reduceLeDiff, Nat.reduceSub, Nat.reduceMul], ⟨_, rfl, rfl, rfl⟩, .inl ⟨[], _, .inl (by simp only [go_sem, ↓reduceIte, reduceCtorEq, Bool.false_eq_true, Bool.true_eq_false, Nat.reduceAdd, Nat.reduceLT, Nat.reduceEqDiff, Nat.reduceLeDiff, Nat.reduceSub, Nat.reduceMul]), aw, .inl ⟨_, rfl, rfl, rfl, rfl⟩⟩⟩ ?_
            refine V.exec 400 ?_
            simp (config := {contextual := true}) only [go_sem, ↓reduceIte, reduceCtorEq, Bool.false_eq_true, Bool.true_eq_false, Nat.reduceAdd, Nat.reduceLT, Nat.reduceEqDiff, Nat.reduceLeDiff, Nat.reduceSub, Nat.reduceMul]
          · simp (config := {contextual := true}) only [go_sem, ↓reduceIte, reduceCtorEq, Bool.false_eq_true, Bool.true_eq_false, Nat.reduceAdd, Nat.reduceLT, Nat.reduceEqDiff, Nat.reduceLeDiff, Nat.reduceSub, Nat.reduceMul, hjt', hy, Note.pv, hk, hv, hw2]
            exact ⟨b.length - (j + 1), _, [], [], by omega, ⟨j + 1, by omega, rfl, rfl, rfl⟩, by simp only [go_sem, ↓reduceIte, reduceCtorEq, Bool.false_eq_true, Bool.true_eq_false, Nat.reduceAdd, Nat.reduceLT, Nat.reduceEqDiff, Nat.reduceLeDiff, Nat.reduceSub, Nat.reduceMul]⟩
      · have hjt' : ¬ (j : Int) < (b.length : Int) := by omega
        simp (config := {contextual := true}) only [go_sem, ↓reduceIte, reduceCtorEq, Bool.false_eq_true, Bool.true_eq_false, Nat.reduceAdd, Nat.reduceLT, Nat.reduceEqDiff, Nat.reduceLeDiff, Nat.reduceSub, Nat.reduceMul, hjt', hw]
        exact ⟨bs.length - (i + 1), _, [], [], by omega, ⟨i + 1, by omega, rfl, rfl, rfl⟩, by simp only [go_sem, ↓reduceIte, reduceCtorEq, Bool.false_eq_true, Bool.true_eq_false, Nat.reduceAdd, Nat.reduceLT, Nat.reduceEqDiff, Nat.reduceLeDiff, Nat.reduceSub, Nat.reduceMul]⟩
    · have hlt' : ¬ (i : Int) < (bs.length : Int) := by omega
      have c1 := batch_All [] 0 bs (by simp) (by omega) hb (by decide)
      have hlen := allV_len [] 0 bs
      have hwas : ∀ c p ends, _ → ∀ (i : Nat) (s : Int), _ → _ := fun c p ends h i s hs => @was_part bs c p ends h i s hs
      have hw0 := @was_zero bs
      have hwa := @was_all bs
      obtain ⟨c, p, ends, e, hR⟩ : ∃ x y z u, allV [] 0 bs = (x, y, z, u) := ⟨_, _, _, _, rfl⟩
      rw [hR] at c1 hlen hw0 hwa hwas
      simp only [List.length_nil, Nat.zero_add] at c1 hlen hw0 hwa hwas
      simp (config := {contextual := true}) only [go_sem, ↓reduceIte, reduceCtorEq, Bool.false_eq_true, Bool.true_eq_false, Nat.reduceAdd, Nat.reduceLT, Nat.reduceEqDiff, Nat.reduceLeDiff, Nat.reduceSub, Nat.reduceMul, hlt']
      refine V.call rfl rfl (by simp [dOK]) ⟨17, [], by simp only [go_sem, ↓reduceIte, reduceCtorEq, Bool.false_eq_true, Bool.true_eq_false, Nat.reduceAdd, Nat.reduceLT, Nat.reduceEqDiff, Nat.reduceLeDiff, Nat.reduceSub, Nat.reduceMul], ⟨_, rfl, rfl, rfl⟩, .inl ⟨[.row (([] : List Pair).map Pair.pv), .int .i64 0, .row (bs.map rowN)], _, .inl (by simp only [go_sem, ↓reduceIte, reduceCtorEq, Bool.false_eq_true, Bool.true_eq_false, Nat.reduceAdd, Nat.reduceLT, Nat.reduceEqDiff, Nat.reduceLeDiff, Nat.reduceSub, Nat.reduceMul, List.map_nil]), c1, .inr (.inl ⟨_, rfl, rfl, rfl⟩)⟩⟩ ?_
      refine V.exec 400 ?_
      by_cases he : e = 0
      · subst he
        simp (config := {contextual := true}) only [go_sem, ↓reduceIte, reduceCtorEq, Bool.false_eq_true, Bool.true_eq_false, Nat.reduceAdd, Nat.reduceLT, Nat.reduceEqDiff, Nat.reduceLeDiff, Nat.reduceSub, Nat.reduceMul]
        refine V.loop (fun m ls os => ∃ (i : Nat), i ≤ ends.length ∧ m = ends.length - i ∧
            ls = [(0, .val (.row (bs.map rowN))), (7, .val (.row (c.map Change.pv))), (8, .val (.row (p.map Pair.pv))), (62, .val (.row (ends.map pvZ))), (63, .val (.int .i64 ends.length)), (64, .val (.int .i64 i))] ∧ os = []) 0 ends.length
          [(0, .val (.row (bs.map rowN))), (7, .val (.row (c.map Change.pv))), (8, .val (.row (p.map Pair.pv))), (62, .val (.row (ends.map pvZ))), (63, .val (.int .i64 ends.length)), (64, .val (.int .i64 0))] [] []
          ⟨0, Nat.zero_le _, rfl, rfl, rfl⟩ (by simp only [go_sem, ↓reduceIte, reduceCtorEq, Bool.false_eq_true, Bool.true_eq_false, Nat.reduceAdd, Nat.reduceLT, Nat.reduceEqDiff, Nat.reduceLeDiff, Nat.reduceSub, Nat.reduceMul]) ?_
        rintro m ls os ⟨k, hk, rfl, rfl, rfl⟩
        refine V.exec 400 ?_
        by_cases hkt : k < ends.length
        · have hkt' : (k : Int) < (ends.length : Int) := by omega
          obtain ⟨s, hs⟩ : ∃ x, ends[k]? = some x := ⟨_, List.getElem?_eq_getElem hkt⟩
          have hw : IntKind.i64.wrap ((k : Int) + 1) = ((k + 1 : Nat) : Int) := by rw [wrap_small3] <;> omega
          obtain ⟨ca, ea, pa, hA, hat⟩ := hwas _ _ _ rfl k s hs
          have c2 := batch_All [] 0 (bs.take (k + 1)) (by simp) (by rw [List.length_take]; omega) (fun b hbm => hb b (List.mem_of_mem_take hbm)) (by decide)
          rw [hA] at c2
          simp only at c2
          have d1 := past_At p c 0 s (by omega) (by omega)
          rw [hat] at d1
          simp only at d1
          have hpal := allV_len [] 0 (bs.take (k + 1))
          rw [hA, List.length_take] at hpal
          simp only [List.length_nil, Nat.zero_add] at hpal
          simp (config := {contextual := true}) only [go_sem, ↓reduceIte, reduceCtorEq, Bool.false_eq_true, Bool.true_eq_false, Nat.reduceAdd, Nat.reduceLT, Nat.reduceEqDiff, Nat.reduceLeDiff, Nat.reduceSub, Nat.reduceMul, hkt', hs, pvZ, hw]
          refine ⟨by omega, ?_⟩
          refine V.call rfl rfl (by simp [dOK]) ⟨17, [], by simp only [go_sem, ↓reduceIte, reduceCtorEq, Bool.false_eq_true, Bool.true_eq_false, Nat.reduceAdd, Nat.reduceLT, Nat.reduceEqDiff, Nat.reduceLeDiff, Nat.reduceSub, Nat.reduceMul], ⟨_, rfl, rfl, rfl⟩, .inl ⟨[.row (([] : List Pair).map Pair.pv), .int .i64 0, .row ((bs.take (k + 1)).map rowN)], _, .inl (by simp only [go_sem, ↓reduceIte, reduceCtorEq, Bool.false_eq_true, Bool.true_eq_false, Nat.reduceAdd, Nat.reduceLT, Nat.reduceEqDiff, Nat.reduceLeDiff, Nat.reduceSub, Nat.reduceMul, List.map_nil, List.map_take]), c2, .inr (.inl ⟨_, rfl, rfl, rfl⟩)⟩⟩ ?_
          refine V.exec 400 ?_
          simp (config := {contextual := true}) only [go_sem, ↓reduceIte, reduceCtorEq, Bool.false_eq_true, Bool.true_eq_false, Nat.reduceAdd, Nat.reduceLT, Nat.reduceEqDiff, Nat.reduceLeDiff, Nat.reduceSub, Nat.reduceMul]
          refine V.call rfl rfl (by simp [dOK]) ⟨10, [], by simp only [go_sem, ↓reduceIte, reduceCtorEq, Bool.false_eq_true, Bool.true_eq_false, Nat.reduceAdd, Nat.reduceLT, Nat.reduceEqDiff, Nat.reduceLeDiff, Nat.reduceSub, Nat.reduceMul], ⟨_, rfl, rfl, rfl⟩, .inl ⟨[.row (p.map Pair.pv), .row (c.map Change.pv), .int .i64 0, .int .i64 s], _, .inl (by simp only [go_sem, ↓reduceIte, reduceCtorEq, Bool.false_eq_true, Bool.true_eq_false, Nat.reduceAdd, Nat.reduceLT, Nat.reduceEqDiff, Nat.reduceLeDiff, Nat.reduceSub, Nat.reduceMul]), d1, .inr (.inl ⟨_, rfl, rfl, rfl⟩)⟩⟩ ?_
          refine V.exec 400 ?_
          simp (config := {contextual := true}) only [go_sem, ↓reduceIte, reduceCtorEq, Bool.false_eq_true, Bool.true_eq_false, Nat.reduceAdd, Nat.reduceLT, Nat.reduceEqDiff, Nat.reduceLeDiff, Nat.reduceSub, Nat.reduceMul]
          refine V.call rfl rfl (by simp [dOK]) ⟨16, [], by simp only [go_sem, ↓reduceIte, reduceCtorEq, Bool.false_eq_true, Bool.true_eq_false, Nat.reduceAdd, Nat.reduceLT, Nat.reduceEqDiff, Nat.reduceLeDiff, Nat.reduceSub, Nat.reduceMul], ⟨_, rfl, rfl, rfl⟩, .inl ⟨[.row (pa.map Pair.pv), .row (pa.map Pair.pv)], _, .inl (by simp only [go_sem, ↓reduceIte, reduceCtorEq, Bool.false_eq_true, Bool.true_eq_false, Nat.reduceAdd, Nat.reduceLT, Nat.reduceEqDiff, Nat.reduceLeDiff, Nat.reduceSub, Nat.reduceMul]), ref03_Same pa pa (by omega), .inl ⟨_, rfl, rfl, rfl, rfl⟩⟩⟩ ?_
          refine V.exec 400 ?_
          simp (config := {contextual := true}) only [go_sem, ↓reduceIte, reduceCtorEq, Bool.false_eq_true, Bool.true_eq_false, Nat.reduceAdd, Nat.reduceLT, Nat.reduceEqDiff, Nat.reduceLeDiff, Nat.reduceSub, Nat.reduceMul, decide_true, hw]
          exact ⟨ends.length - (k + 1), _, [], [], by omega, ⟨k + 1, by omega, rfl, rfl, rfl⟩, by simp only [go_sem, ↓reduceIte, reduceCtorEq, Bool.false_eq_true, Bool.true_eq_false, Nat.reduceAdd, Nat.reduceLT, Nat.reduceEqDiff, Nat.reduceLeDiff, Nat.reduceSub, Nat.reduceMul]⟩
        · have hkt' : ¬ (k : Int) < (ends.length : Int) := by omega
          have d1 := past_At p c 0 0 (by omega) (by omega)
          have d2 := past_At p c 0 ((c.length : Int) + 5) (by omega) (by omega)
          rw [hw0 rfl] at d1
          rw [hwa rfl] at d2
          simp only at d1 d2
          have hw5 : IntKind.i64.wrap ((c.length : Int) + 5) = (c.length : Int) + 5 := by rw [wrap_small3] <;> omega
          have n0 : ((0 : Nat) : Int) = 0 := rfl
          simp (config := {contextual := true}) only [go_sem, ↓reduceIte, reduceCtorEq, Bool.false_eq_true, Bool.true_eq_false, Nat.reduceAdd, Nat.reduceLT, Nat.reduceEqDiff, Nat.reduceLeDiff, Nat.reduceSub, Nat.reduceMul, hkt']
          refine V.call rfl rfl (by simp [dOK]) ⟨10, [], by simp only [go_sem, ↓reduceIte, reduceCtorEq, Bool.false_eq_true, Bool.true_eq_false, Nat.reduceAdd, Nat.reduceLT, Nat.reduceEqDiff, Nat.reduceLeDiff, Nat.reduceSub, Nat.reduceMul], ⟨_, rfl, rfl, rfl⟩, .inl ⟨[.row (p.map Pair.pv), .row (c.map Change.pv), .int .i64 0, .int .i64 0], _, .inl (by simp only [go_sem, ↓reduceIte, reduceCtorEq, Bool.false_eq_true, Bool.true_eq_false, Nat.reduceAdd, Nat.reduceLT, Nat.reduceEqDiff, Nat.reduceLeDiff, Nat.reduceSub, Nat.reduceMul]), d1, .inr (.inl ⟨_, rfl, rfl, rfl⟩)⟩⟩ ?_
          refine V.exec 400 ?_
          simp (config := {contextual := true}) only [go_sem, ↓reduceIte, reduceCtorEq, Bool.false_eq_true, Bool.true_eq_false, Nat.reduceAdd, Nat.reduceLT, Nat.reduceEqDiff, Nat.reduceLeDiff, Nat.reduceSub, Nat.reduceMul, hw5]
          refine V.call rfl rfl (by simp [dOK]) ⟨10, [], by simp only [go_sem, ↓reduceIte, reduceCtorEq, Bool.false_eq_true, Bool.true_eq_false, Nat.reduceAdd, Nat.reduceLT, Nat.reduceEqDiff, Nat.reduceLeDiff, Nat.reduceSub, Nat.reduceMul], ⟨_, rfl, rfl, rfl⟩, .inl ⟨[.row (p.map Pair.pv), .row (c.map Change.pv), .int .i64 0, .int .i64 ((c.length : Int) + 5)], _, .inl (by simp only [go_sem, ↓reduceIte, reduceCtorEq, Bool.false_eq_true, Bool.true_eq_false, Nat.reduceAdd, Nat.reduceLT, Nat.reduceEqDiff, Nat.reduceLeDiff, Nat.reduceSub, Nat.reduceMul]), d2, .inr (.inl ⟨_, rfl, rfl, rfl⟩)⟩⟩ ?_
          refine V.exec 400 ?_
          simp (config := {contextual := true}) only [go_sem, ↓reduceIte, reduceCtorEq, Bool.false_eq_true, Bool.true_eq_false, Nat.reduceAdd, Nat.reduceLT, Nat.reduceEqDiff, Nat.reduceLeDiff, Nat.reduceSub, Nat.reduceMul, n0, List.map_nil, List.length_nil, decide_true]
          refine V.call rfl rfl (by simp [dOK]) ⟨16, [], by simp only [go_sem, ↓reduceIte, reduceCtorEq, Bool.false_eq_true, Bool.true_eq_false, Nat.reduceAdd, Nat.reduceLT, Nat.reduceEqDiff, Nat.reduceLeDiff, Nat.reduceSub, Nat.reduceMul], ⟨_, rfl, rfl, rfl⟩, .inl ⟨[.row (p.map Pair.pv), .row (p.map Pair.pv)], _, .inl (by simp only [go_sem, ↓reduceIte, reduceCtorEq, Bool.false_eq_true, Bool.true_eq_false, Nat.reduceAdd, Nat.reduceLT, Nat.reduceEqDiff, Nat.reduceLeDiff, Nat.reduceSub, Nat.reduceMul]), ref03_Same p p (by omega), .inl ⟨_, rfl, rfl, rfl, rfl⟩⟩⟩ ?_
          refine V.exec 400 ?_
          simp (config := {contextual := true}) only [go_sem, ↓reduceIte, reduceCtorEq, Bool.false_eq_true, Bool.true_eq_false, Nat.reduceAdd, Nat.reduceLT, Nat.reduceEqDiff, Nat.reduceLeDiff, Nat.reduceSub, Nat.reduceMul, decide_true]
          refine V.call rfl rfl (by simp [dOK]) ⟨9, [], by simp only [go_sem, ↓reduceIte, reduceCtorEq, Bool.false_eq_true, Bool.true_eq_false, Nat.reduceAdd, Nat.reduceLT, Nat.reduceEqDiff, Nat.reduceLeDiff, Nat.reduceSub, Nat.reduceMul], ⟨_, rfl, rfl, rfl⟩, .inl ⟨[], _, .inl (by simp only [go_sem, ↓reduceIte, reduceCtorEq, Bool.false_eq_true, Bool.true_eq_false, Nat.reduceAdd, Nat.reduceLT, Nat.reduceEqDiff, Nat.reduceLeDiff, Nat.reduceSub, Nat.reduceMul]), aw, .inl ⟨_, rfl, rfl, rfl, rfl⟩⟩⟩ ?_
          refine V.exec 400 ?_
          simp (config := {contextual := true}) only [go_sem, ↓reduceIte, reduceCtorEq, Bool.false_eq_true, Bool.true_eq_false, Nat.reduceAdd, Nat.reduceLT, Nat.reduceEqDiff, Nat.reduceLeDiff, Nat.reduceSub, Nat.reduceMul]
      · simp (config := {contextual := true}) only [go_sem, ↓reduceIte, reduceCtorEq, Bool.false_eq_true, Bool.true_eq_false, Nat.reduceAdd, Nat.reduceLT, Nat.reduceEqDiff, Nat.reduceLeDiff, Nat.reduceSub, Nat.reduceMul, he]
        refine V.call rfl rfl (by simp [dOK]) ⟨9, [], by simp only [go_sem, ↓reduceIte, reduceCtorEq, Bool.false_eq_true, Bool.true_eq_false, Nat.reduceAdd, Nat.reduceLT, Nat.reduceEqDiff, Nat.reduceLeDiff, Nat.reduceSub, Nat.reduceMul], ⟨_, rfl, rfl, rfl⟩, .inl ⟨[], _, .inl (by simp only [go_sem, ↓reduceIte, reduceCtorEq, Bool.false_eq_true, Bool.true_eq_false, Nat.reduceAdd, Nat.reduceLT, Nat.reduceEqDiff, Nat.reduceLeDiff, Nat.reduceSub, Nat.reduceMul]), aw, .inl ⟨_, rfl, rfl, rfl, rfl⟩⟩⟩ ?_
        refine V.exec 400 ?_
        simp (config := {contextual := true}) only [go_sem, ↓reduceIte, reduceCtorEq, Bool.false_eq_true, Bool.true_eq_false, Nat.reduceAdd, Nat.reduceLT, Nat.reduceEqDiff, Nat.reduceLeDiff, Nat.reduceSub, Nat.reduceMul]
  · have h10' : (10 : Int) < (bs.length : Int) := by omega
    simp (config := {contextual := true}) only [go_sem, ↓reduceIte, reduceCtorEq, Bool.false_eq_true, Bool.true_eq_false, Nat.reduceAdd, Nat.reduceLT, Nat.reduceEqDiff, Nat.reduceLeDiff, Nat.reduceSub, Nat.reduceMul, h10']
    refine V.call rfl rfl (by simp [dOK]) ⟨9, [], by simp only [go_sem, ↓reduceIte, reduceCtorEq, Bool.false_eq_true, Bool.true_eq_false, Nat.reduceAdd, Nat.reduceLT, Nat.reduceEqDiff, Nat.reduceLeDiff, Nat.reduceSub, Nat.reduceMul], ⟨_, rfl, rfl, rfl⟩, .inl ⟨[], _, .inl (by simp only [go_sem, ↓reduceIte, reduceCtorEq, Bool.false_eq_true, Bool.true_eq_false, Nat.reduceAdd, Nat.reduceLT, Nat.reduceEqDiff, Nat.reduceLeDiff, Nat.reduceSub, Nat.reduceMul]), aw, .inl ⟨_, rfl, rfl, rfl, rfl⟩⟩⟩ ?_
    refine V.exec 400 ?_
    simp (config := {contextual := true}) only [go_sem, ↓reduceIte, reduceCtorEq, Bool.false_eq_true, Bool.true_eq_false, Nat.reduceAdd, Nat.reduceLT, Nat.reduceEqDiff, Nat.reduceLeDiff, Nat.reduceSub, Nat.reduceMul]
theorem ctWasP (xs0 : List (List PV)) (l0 : xs0.length ≤ maxLen) (h0 : ∀ xs ∈ xs0, xs.length ≤ maxLen ∧ ∀ x ∈ xs, ∃ qs, x = .agg qs ∧ qs.map PV.kd = [.int .i64, .str, .str, .int .u64] ∧ ∀ q ∈ qs, q.wfv) :
    Ct Try.prog 7 (YtnhkknaplkjigaaVm.ops [.row (xs0.map PV.row)]) (.vals [.bool true]) := by
  obtain ⟨bs, hbs, hbl, hb⟩ := notes_rows xs0 h0
  rw [hbs]
  exact law_WasP bs (by rw [hbl]; exact l0) hb
end Go.Proofs.Ytnhkknaplkjigaa
