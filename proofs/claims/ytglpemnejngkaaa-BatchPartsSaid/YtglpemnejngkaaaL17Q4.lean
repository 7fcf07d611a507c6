/- A part of a proof: functions of the program, walked. -/
import Derived.Test.YtglpemnejngkaaaL17Q3
set_option linter.unusedVariables false
set_option linter.unusedSimpArgs false
namespace Go.Proofs.Ytglpemnejngkaaa
open Go Go.Proofs Go.Proofs.YtglpemnejngkaaaVm Go.Proofs.Ytglpemnejngkaaa.Ty

theorem Change.inj (s t : Change) : (s.pv = t.pv) = (s = t) := by
  obtain ⟨s1, s2, s3, s4, s5, s6⟩ := s
  obtain ⟨t1, t2, t3, t4, t5, t6⟩ := t
  cases s3 <;> cases s5 <;> cases t3 <;> cases t5 <;> simp [Change.pv]

theorem eqChange : EqT Try.prog 55 [.int .i64, .str, .bool, .str, .bool, .str] := EqT.of (by kernel_rfl) (by kernel_rfl) (by kernel_rfl)

set_option maxRecDepth 4000 in
set_option maxHeartbeats 8000000 in
theorem ref13_Same (a b : List Change) (hb : b.length ≤ 1000000) : Ct Try.prog 16 (YtglpemnejngkaaaVm.ops [.row (a.map Change.pv), .row (b.map Change.pv)]) (.vals [.bool (decide (a = b))]) := by
  refine Ct.of_V Try.func16 rfl (by simp [YtglpemnejngkaaaVm.ops, Try.f16]) ?_
  refine V.exec 400 ?_
  by_cases hl : a.length = b.length
  · simp (config := {contextual := true}) only [go_sem, ↓reduceIte, reduceCtorEq, Bool.false_eq_true, Bool.true_eq_false, Nat.reduceAdd, Nat.reduceLT, Nat.reduceEqDiff, Nat.reduceLeDiff, Nat.reduceSub, Nat.reduceMul, Try.f16, hl]
    refine V.loop (fun m ls os => ∃ i : Nat, i ≤ b.length ∧ m = b.length - i ∧ a.take i = b.take i ∧
        ls = [(0, .val (.row (a.map Change.pv))), (1, .val (.row (b.map Change.pv))), (5, .val (.int .i64 i))] ∧ os = []) 0 b.length [(0, .val (.row (a.map Change.pv))), (1, .val (.row (b.map Change.pv))), (5, .val (.int .i64 0))] [] []
      ⟨0, Nat.zero_le _, rfl, rfl, rfl, rfl⟩ (by simp only [go_sem, ↓reduceIte, reduceCtorEq, Bool.false_eq_true, Bool.true_eq_false, Nat.reduceAdd, Nat.reduceLT, Nat.reduceEqDiff, Nat.reduceLeDiff, Nat.reduceSub, Nat.reduceMul]) ?_
    rintro m ls os ⟨i, hi, rfl, heq, rfl, rfl⟩
    refine V.exec 400 ?_
    by_cases hlt : i < b.length
    · have hlt' : (i : Int) < (b.length : Int) := by omega
      have hla : i < a.length := by omega
      obtain ⟨x, hx⟩ : ∃ x, a[i]? = some x := ⟨_, List.getElem?_eq_getElem hla⟩
      obtain ⟨y, hy⟩ : ∃ y, b[i]? = some y := ⟨_, List.getElem?_eq_getElem hlt⟩
      have hw : IntKind.i64.wrap ((i : Int) + 1) = ((i + 1 : Nat) : Int) := by rw [wrap_small3] <;> omega
      have hinj := Change.inj x y
      simp only [Change.pv] at hinj
      simp (config := {contextual := true}) only [go_sem, ↓reduceIte, reduceCtorEq, Bool.false_eq_true, Bool.true_eq_false, Nat.reduceAdd, Nat.reduceLT, Nat.reduceEqDiff, Nat.reduceLeDiff, Nat.reduceSub, Nat.reduceMul, hl, hlt', hx, hy, Change.pv, hw, hinj, eqChange]
      refine ⟨by kernel_rfl, fun hne => ?_, fun he => ⟨b.length - (i + 1), _, [], [], by omega, ⟨i + 1, by omega, rfl, ?_, rfl, rfl⟩, ?_⟩⟩
      · have : a ≠ b := fun e => hne (by rw [e, hy] at hx; cases hx; rfl)
        simp [this]
      · rw [List.take_add_one, List.take_add_one, heq, hx, hy, he]
      · simp only [go_sem, ↓reduceIte, reduceCtorEq, Bool.false_eq_true, Bool.true_eq_false, Nat.reduceAdd, Nat.reduceLT, Nat.reduceEqDiff, Nat.reduceLeDiff, Nat.reduceSub, Nat.reduceMul]
    · have hlt' : ¬ (i : Int) < (b.length : Int) := by omega
      simp (config := {contextual := true}) only [go_sem, ↓reduceIte, reduceCtorEq, Bool.false_eq_true, Bool.true_eq_false, Nat.reduceAdd, Nat.reduceLT, Nat.reduceEqDiff, Nat.reduceLeDiff, Nat.reduceSub, Nat.reduceMul, hl, hlt']
      have : a = b := by rw [List.take_of_length_le (by omega), List.take_of_length_le (by omega)] at heq; exact heq
      simp [this]
  · have hl' : ¬ (a.length : Int) = (b.length : Int) := by omega
    have : a ≠ b := fun e => hl (by rw [e])
    simp (config := {contextual := true}) only [go_sem, ↓reduceIte, reduceCtorEq, Bool.false_eq_true, Bool.true_eq_false, Nat.reduceAdd, Nat.reduceLT, Nat.reduceEqDiff, Nat.reduceLeDiff, Nat.reduceSub, Nat.reduceMul, Try.f16, hl', this, not_false_eq_true]


theorem ofV_err {l : List Pair} {seq : Int} {n : Note} : (ofV l seq n).2 = 0 ∨ (ofV l seq n).2 = 1 ∨ (ofV l seq n).2 = 3 := by
  unfold ofV
  split
  · split
    · exact .inr (.inr rfl)
    · exact .inl rfl
  · exact .inr (.inl rfl)

set_option maxRecDepth 10000 in
set_option maxHeartbeats 16000000 in
theorem batch_Run (l : List Pair) (seq : Int) (ns : List Note) (hl : l.length ≤ 100000) (hn : ns.length ≤ 100000) (hseq : seq ≤ 9223372036854775807) : Ct Try.prog 12 (YtglpemnejngkaaaVm.ops [.row (l.map Pair.pv), .int .i64 seq, .row (ns.map Note.pv)]) (.vals [.row ((runV l seq ns).1.map Change.pv), .row ((runV l seq ns).2.1.map Pair.pv), .int .i64 (runV l seq ns).2.2]) := by
  have h2 : ∀ (l : List Pair), ∀ x ∈ l.map Pair.pv, x.cells.length = 2 := fun l x hx => by
    obtain ⟨s, _, rfl⟩ := List.mem_map.1 hx
    rfl
  have ccl := (ClonePair (l.map Pair.pv) (h2 l) (by simp; omega)).forget
  have hbad : ¬ (batchOk ns ∧ pairsOk l ∧ 0 ≤ seq ∧ seq ≤ 2147483647) → runV l seq ns = ([], l, 1) := fun h => by unfold runV; rw [if_neg h]
  refine Ct.of_V Try.func12 rfl (by simp [YtglpemnejngkaaaVm.ops, Try.f12]) ?_
  refine V.exec 400 ?_
  simp (config := {contextual := true}) only [go_sem, ↓reduceIte, reduceCtorEq, Bool.false_eq_true, Bool.true_eq_false, Nat.reduceAdd, Nat.reduceLT, Nat.reduceEqDiff, Nat.reduceLeDiff, Nat.reduceSub, Nat.reduceMul, Try.f12]
  refine V.call rfl rfl (by simp [dOK]) ⟨14, [], by simp only [go_sem, ↓reduceIte, reduceCtorEq, Bool.false_eq_true, Bool.true_eq_false, Nat.reduceAdd, Nat.reduceLT, Nat.reduceEqDiff, Nat.reduceLeDiff, Nat.reduceSub, Nat.reduceMul], ⟨_, rfl, rfl, rfl⟩, .inl ⟨[.row (ns.map Note.pv)], _, .inl (by simp only [go_sem, ↓reduceIte, reduceCtorEq, Bool.false_eq_true, Bool.true_eq_false, Nat.reduceAdd, Nat.reduceLT, Nat.reduceEqDiff, Nat.reduceLeDiff, Nat.reduceSub, Nat.reduceMul]), batch_Right ns (by omega), .inl ⟨_, rfl, rfl, rfl, rfl⟩⟩⟩ ?_
  refine V.exec 400 ?_
  by_cases hb : batchOk ns
  · simp (config := {contextual := true}) only [go_sem, ↓reduceIte, reduceCtorEq, Bool.false_eq_true, Bool.true_eq_false, Nat.reduceAdd, Nat.reduceLT, Nat.reduceEqDiff, Nat.reduceLeDiff, Nat.reduceSub, Nat.reduceMul, hb]
    refine V.call rfl rfl (by simp [dOK]) ⟨21, [], by simp only [go_sem, ↓reduceIte, reduceCtorEq, Bool.false_eq_true, Bool.true_eq_false, Nat.reduceAdd, Nat.reduceLT, Nat.reduceEqDiff, Nat.reduceLeDiff, Nat.reduceSub, Nat.reduceMul], ⟨_, rfl, rfl, rfl⟩, .inl ⟨[.row (l.map Pair.pv)], _, .inl (by simp only [go_sem, ↓reduceIte, reduceCtorEq, Bool.false_eq_true, Bool.true_eq_false, Nat.reduceAdd, Nat.reduceLT, Nat.reduceEqDiff, Nat.reduceLeDiff, Nat.reduceSub, Nat.reduceMul]), leaf_Right l (by omega), .inl ⟨_, rfl, rfl, rfl, rfl⟩⟩⟩ ?_
    refine V.exec 400 ?_
    by_cases hok : pairsOk l
    · by_cases h1 : seq < 0
      · have hv := hbad fun h => by omega
        simp (config := {contextual := true}) only [go_sem, ↓reduceIte, reduceCtorEq, Bool.false_eq_true, Bool.true_eq_false, Nat.reduceAdd, Nat.reduceLT, Nat.reduceEqDiff, Nat.reduceLeDiff, Nat.reduceSub, Nat.reduceMul, hok, h1, hv, List.map_nil]
      · by_cases h2' : 2147483647 < seq
        · have hv := hbad fun h => by omega
          simp (config := {contextual := true}) only [go_sem, ↓reduceIte, reduceCtorEq, Bool.false_eq_true, Bool.true_eq_false, Nat.reduceAdd, Nat.reduceLT, Nat.reduceEqDiff, Nat.reduceLeDiff, Nat.reduceSub, Nat.reduceMul, hok, h1, h2', hv, List.map_nil]
        · have hwl : IntKind.i64.wrap (2147483647 - (ns.length : Int)) = 2147483647 - (ns.length : Int) := by rw [wrap_small3] <;> omega
          by_cases h3 : 2147483647 - (ns.length : Int) < seq
          · have hv : runV l seq ns = ([], l, 5) := by unfold runV; rw [if_pos ⟨hb, hok, by omega, by omega⟩, if_pos h3]
            simp (config := {contextual := true}) only [go_sem, ↓reduceIte, reduceCtorEq, Bool.false_eq_true, Bool.true_eq_false, Nat.reduceAdd, Nat.reduceLT, Nat.reduceEqDiff, Nat.reduceLeDiff, Nat.reduceSub, Nat.reduceMul, hok, h1, h2', hwl, h3, hv, List.map_nil]
          · have hv : runV l seq ns = ((runGo l seq [] ns).1, (runGo l seq [] ns).2, 0) := by unfold runV; rw [if_pos ⟨hb, hok, by omega, by omega⟩, if_neg h3]
            rw [hv]
            obtain ⟨RO, RP, hR⟩ : ∃ a b, runGo l seq [] ns = (a, b) := ⟨_, _, rfl⟩
            rw [hR]
            simp only
            simp (config := {contextual := true}) only [go_sem, ↓reduceIte, reduceCtorEq, Bool.false_eq_true, Bool.true_eq_false, Nat.reduceAdd, Nat.reduceLT, Nat.reduceEqDiff, Nat.reduceLeDiff, Nat.reduceSub, Nat.reduceMul, hok, h1, h2', hwl, h3]
            refine V.call rfl rfl (by simp [dOK]) ⟨27, [], by simp only [go_sem, ↓reduceIte, reduceCtorEq, Bool.false_eq_true, Bool.true_eq_false, Nat.reduceAdd, Nat.reduceLT, Nat.reduceEqDiff, Nat.reduceLeDiff, Nat.reduceSub, Nat.reduceMul], ⟨_, rfl, rfl, rfl⟩, .inl ⟨[.row (l.map Pair.pv)], _, .inl (by simp only [go_sem, ↓reduceIte, reduceCtorEq, Bool.false_eq_true, Bool.true_eq_false, Nat.reduceAdd, Nat.reduceLT, Nat.reduceEqDiff, Nat.reduceLeDiff, Nat.reduceSub, Nat.reduceMul]), ccl, .inr (.inl ⟨_, rfl, rfl, rfl⟩)⟩⟩ ?_
            refine V.exec 400 ?_
            simp (config := {contextual := true}) only [go_sem, ↓reduceIte, reduceCtorEq, Bool.false_eq_true, Bool.true_eq_false, Nat.reduceAdd, Nat.reduceLT, Nat.reduceEqDiff, Nat.reduceLeDiff, Nat.reduceSub, Nat.reduceMul]
            refine V.loop (fun m ls os => ∃ (i : Nat) (out : List Change) (cur : List Pair), i ≤ ns.length ∧ m = ns.length - i ∧ pairsOk cur ∧ cur.length ≤ l.length + i ∧ out.length ≤ i ∧ runGo cur seq out (ns.drop i) = (RO, RP) ∧
                ls = [(1, .val (.int .i64 seq)), (9, .ref 0), (10, .val (.row (cur.map Pair.pv))), (42, .val (.row (ns.map Note.pv))), (43, .val (.int .i64 ns.length)), (44, .val (.int .i64 i))] ∧ os = [.row 55 (out.map Change.pv)]) 1 ns.length
              [(1, .val (.int .i64 seq)), (9, .ref 0), (10, .val (.row (l.map Pair.pv))), (42, .val (.row (ns.map Note.pv))), (43, .val (.int .i64 ns.length)), (44, .val (.int .i64 0))] [.row 55 []] [none]
              ⟨0, [], l, Nat.zero_le _, rfl, hok, Nat.le_refl _, Nat.le_refl _, hR, rfl, rfl⟩ (by simp only [go_sem, ↓reduceIte, reduceCtorEq, Bool.false_eq_true, Bool.true_eq_false, Nat.reduceAdd, Nat.reduceLT, Nat.reduceEqDiff, Nat.reduceLeDiff, Nat.reduceSub, Nat.reduceMul]; try decide) ?_
            rintro m ls os ⟨i, out, cur, hi, rfl, hco, hcl, hol, hca, rfl, rfl⟩
            refine V.exec 400 ?_
            by_cases hlt : i < ns.length
            · have hlt' : (i : Int) < (ns.length : Int) := by omega
              obtain ⟨x, hx⟩ : ∃ x, ns[i]? = some x := ⟨_, List.getElem?_eq_getElem hlt⟩
              have hxo : x.ok := hb.2 x (List.mem_of_getElem? hx)
              have hw : IntKind.i64.wrap ((i : Int) + 1) = ((i + 1 : Nat) : Int) := by rw [wrap_small3] <;> omega
              have hw1 : IntKind.i64.wrap (seq + (out.length : Int)) = seq + (out.length : Int) := by rw [wrap_small3] <;> omega
              have hw2 : IntKind.i64.wrap (seq + (out.length : Int) + 1) = seq + (out.length : Int) + 1 := by rw [wrap_small3] <;> omega
              have co := change_Of cur (seq + (out.length : Int) + 1) x (by omega)
              have hdo := @ofV_does cur (seq + (out.length : Int) + 1) x
              rw [drop_of_get hx, runGo] at hca
              have hoo := oneV_pairsOk hco hxo
              have hol2 := oneV_len ((pairsOk_iff cur).1 hco).1 x
              obtain ⟨c, e, hC⟩ : ∃ a b, ofV cur (seq + (out.length : Int) + 1) x = (a, b) := ⟨_, _, rfl⟩
              rw [hC] at co hca hdo
              simp only at co hca hdo
              simp (config := {contextual := true}) only [go_sem, ↓reduceIte, reduceCtorEq, Bool.false_eq_true, Bool.true_eq_false, Nat.reduceAdd, Nat.reduceLT, Nat.reduceEqDiff, Nat.reduceLeDiff, Nat.reduceSub, Nat.reduceMul, hlt', hx, Note.pv, hw1, hw2]
              refine V.call rfl rfl (by simp [dOK]) ⟨28, [], by simp only [go_sem, ↓reduceIte, reduceCtorEq, Bool.false_eq_true, Bool.true_eq_false, Nat.reduceAdd, Nat.reduceLT, Nat.reduceEqDiff, Nat.reduceLeDiff, Nat.reduceSub, Nat.reduceMul], ⟨_, rfl, rfl, rfl⟩, .inl ⟨[.row (cur.map Pair.pv), .int .i64 (seq + (out.length : Int) + 1), x.pv], _, .inl (by simp only [go_sem, ↓reduceIte, reduceCtorEq, Bool.false_eq_true, Bool.true_eq_false, Nat.reduceAdd, Nat.reduceLT, Nat.reduceEqDiff, Nat.reduceLeDiff, Nat.reduceSub, Nat.reduceMul, Note.pv]), co, .inr (.inl ⟨_, rfl, rfl, rfl⟩)⟩⟩ ?_
              refine V.exec 400 ?_
              by_cases he : e = 0
              · rw [if_pos he] at hca
                have hdv := (hdo he).2.2.2.1
                have cd := change_Do cur [c] (by omega) (by simp)
                rw [hdv] at cd
                simp only at cd
                subst he
                simp (config := {contextual := true}) only [go_sem, ↓reduceIte, reduceCtorEq, Bool.false_eq_true, Bool.true_eq_false, Nat.reduceAdd, Nat.reduceLT, Nat.reduceEqDiff, Nat.reduceLeDiff, Nat.reduceSub, Nat.reduceMul, Change.pv]
                refine ⟨⟨by omega, by omega⟩, ?_⟩
                refine V.call rfl rfl (by simp [dOK]) ⟨23, [], by simp only [go_sem, ↓reduceIte, reduceCtorEq, Bool.false_eq_true, Bool.true_eq_false, Nat.reduceAdd, Nat.reduceLT, Nat.reduceEqDiff, Nat.reduceLeDiff, Nat.reduceSub, Nat.reduceMul], ⟨_, rfl, rfl, rfl⟩, .inl ⟨[.row (cur.map Pair.pv), .row ([c].map Change.pv)], _, .inl (by simp only [go_sem, ↓reduceIte, reduceCtorEq, Bool.false_eq_true, Bool.true_eq_false, Nat.reduceAdd, Nat.reduceLT, Nat.reduceEqDiff, Nat.reduceLeDiff, Nat.reduceSub, Nat.reduceMul, Change.pv, List.map_cons, List.map_nil]), cd, .inr (.inl ⟨_, rfl, rfl, rfl⟩)⟩⟩ ?_
                refine V.exec 400 ?_
                simp (config := {contextual := true}) only [go_sem, ↓reduceIte, reduceCtorEq, Bool.false_eq_true, Bool.true_eq_false, Nat.reduceAdd, Nat.reduceLT, Nat.reduceEqDiff, Nat.reduceLeDiff, Nat.reduceSub, Nat.reduceMul, hw]
                refine ⟨ns.length - (i + 1), _, _, [some 25], by omega, ⟨i + 1, out ++ [c], oneV cur x, by omega, rfl, hoo, by omega, by simp; omega, hca, rfl, rfl⟩, ?_⟩
                simp only [go_sem, ↓reduceIte, reduceCtorEq, Bool.false_eq_true, Bool.true_eq_false, Nat.reduceAdd, Nat.reduceLT, Nat.reduceEqDiff, Nat.reduceLeDiff, Nat.reduceSub, Nat.reduceMul, List.map_append, List.map_cons, List.map_nil, Change.pv]
                try decide
              · rw [if_neg he] at hca
                simp (config := {contextual := true}) only [go_sem, ↓reduceIte, reduceCtorEq, Bool.false_eq_true, Bool.true_eq_false, Nat.reduceAdd, Nat.reduceLT, Nat.reduceEqDiff, Nat.reduceLeDiff, Nat.reduceSub, Nat.reduceMul, Change.pv, he, hw]
                refine ⟨ns.length - (i + 1), _, _, [some 0], by omega, ⟨i + 1, out, cur, by omega, rfl, hco, by omega, by omega, hca, rfl, rfl⟩, ?_⟩
                simp only [go_sem, ↓reduceIte, reduceCtorEq, Bool.false_eq_true, Bool.true_eq_false, Nat.reduceAdd, Nat.reduceLT, Nat.reduceEqDiff, Nat.reduceLeDiff, Nat.reduceSub, Nat.reduceMul]
                try decide
            · have hlt' : ¬ (i : Int) < (ns.length : Int) := by omega
              have hd : ns.drop i = [] := List.drop_eq_nil_of_le (by omega)
              rw [hd, runGo, Prod.mk.injEq] at hca
              obtain ⟨rfl, rfl⟩ := hca
              simp (config := {contextual := true}) only [go_sem, ↓reduceIte, reduceCtorEq, Bool.false_eq_true, Bool.true_eq_false, Nat.reduceAdd, Nat.reduceLT, Nat.reduceEqDiff, Nat.reduceLeDiff, Nat.reduceSub, Nat.reduceMul, hlt']
    · have hv := hbad fun h => hok h.2.1
      simp (config := {contextual := true}) only [go_sem, ↓reduceIte, reduceCtorEq, Bool.false_eq_true, Bool.true_eq_false, Nat.reduceAdd, Nat.reduceLT, Nat.reduceEqDiff, Nat.reduceLeDiff, Nat.reduceSub, Nat.reduceMul, hok, hv, List.map_nil]
  · have hv := hbad fun h => hb h.1
    simp (config := {contextual := true}) only [go_sem, ↓reduceIte, reduceCtorEq, Bool.false_eq_true, Bool.true_eq_false, Nat.reduceAdd, Nat.reduceLT, Nat.reduceEqDiff, Nat.reduceLeDiff, Nat.reduceSub, Nat.reduceMul, hb, hv, List.map_nil]
end Go.Proofs.Ytglpemnejngkaaa
