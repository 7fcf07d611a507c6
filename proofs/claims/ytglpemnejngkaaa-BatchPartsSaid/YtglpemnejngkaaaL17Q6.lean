/- A part of a proof: functions of the program, walked. -/
import Derived.Test.YtglpemnejngkaaaL17Q5
set_option linter.unusedVariables false
set_option linter.unusedSimpArgs false
namespace Go.Proofs.Ytglpemnejngkaaa
open Go Go.Proofs Go.Proofs.YtglpemnejngkaaaVm Go.Proofs.Ytglpemnejngkaaa.Ty

theorem notes_all17 (ns : List Note) : notesOk' ns = notesAll ns := rfl
theorem one_slice {α : Type} {l : List α} {i : Nat} {x : α} (h : l[i]? = some x) : (l.take (i + 1)).drop i = [x] := by
  rw [List.take_add_one, h, List.drop_append_of_le_length (by have := (List.getElem?_eq_some_iff.1 h).1; simp; omega)]
  rw [List.drop_eq_nil_of_le (by simp; omega)]; rfl

set_option maxRecDepth 10000 in
set_option maxHeartbeats 16000000 in
theorem ref17_Run (l : List Pair) (seq : Int) (ns : List Note) (hl : l.length ≤ 100000) (hn : ns.length ≤ 100000) (hseq : seq ≤ 9223372036854775807) : Ct Try.prog 13 (YtglpemnejngkaaaVm.ops [.row (l.map Pair.pv), .int .i64 seq, .row (ns.map Note.pv)]) (.vals [.row ((runV l seq ns).1.map Change.pv), .row ((runV l seq ns).2.1.map Pair.pv), .int .i64 (runV l seq ns).2.2]) := by
  have cA := ref09_All ns (by omega)
  simp only [notes_all17] at cA
  have hbad : ¬ (batchOk ns ∧ pairsOk l ∧ 0 ≤ seq ∧ seq ≤ 2147483647) → runV l seq ns = ([], l, 1) := fun h => by unfold runV; rw [if_neg h]
  refine Ct.of_V Try.func13 rfl (by simp [YtglpemnejngkaaaVm.ops, Try.f13]) ?_
  refine V.exec 400 ?_
  simp (config := {contextual := true}) only [go_sem, ↓reduceIte, reduceCtorEq, Bool.false_eq_true, Bool.true_eq_false, Nat.reduceAdd, Nat.reduceLT, Nat.reduceEqDiff, Nat.reduceLeDiff, Nat.reduceSub, Nat.reduceMul, Try.f13]
  refine V.call rfl rfl (by simp [dOK]) ⟨29, [], by simp only [go_sem, ↓reduceIte, reduceCtorEq, Bool.false_eq_true, Bool.true_eq_false, Nat.reduceAdd, Nat.reduceLT, Nat.reduceEqDiff, Nat.reduceLeDiff, Nat.reduceSub, Nat.reduceMul], ⟨_, rfl, rfl, rfl⟩, .inl ⟨[.row (l.map Pair.pv)], _, .inl (by simp only [go_sem, ↓reduceIte, reduceCtorEq, Bool.false_eq_true, Bool.true_eq_false, Nat.reduceAdd, Nat.reduceLT, Nat.reduceEqDiff, Nat.reduceLeDiff, Nat.reduceSub, Nat.reduceMul]), ref10_Right l (by omega), .inl ⟨_, rfl, rfl, rfl, rfl⟩⟩⟩ ?_
  refine V.exec 400 ?_
  simp (config := {contextual := true}) only [go_sem, ↓reduceIte, reduceCtorEq, Bool.false_eq_true, Bool.true_eq_false, Nat.reduceAdd, Nat.reduceLT, Nat.reduceEqDiff, Nat.reduceLeDiff, Nat.reduceSub, Nat.reduceMul]
  refine V.call rfl rfl (by simp [dOK]) ⟨15, [], by simp only [go_sem, ↓reduceIte, reduceCtorEq, Bool.false_eq_true, Bool.true_eq_false, Nat.reduceAdd, Nat.reduceLT, Nat.reduceEqDiff, Nat.reduceLeDiff, Nat.reduceSub, Nat.reduceMul], ⟨_, rfl, rfl, rfl⟩, .inl ⟨[.row (ns.map Note.pv)], _, .inl (by simp only [go_sem, ↓reduceIte, reduceCtorEq, Bool.false_eq_true, Bool.true_eq_false, Nat.reduceAdd, Nat.reduceLT, Nat.reduceEqDiff, Nat.reduceLeDiff, Nat.reduceSub, Nat.reduceMul]), cA, .inl ⟨_, rfl, rfl, rfl, rfl⟩⟩⟩ ?_
  refine V.exec 400 ?_
  by_cases hok : pairsOk l
  · by_cases hall : notesAll ns
    · by_cases h8 : ns.length ≤ 8
      · have h8' : ¬ (8 : Int) < (ns.length : Int) := by omega
        have hb : batchOk ns := ⟨h8, hall⟩
        by_cases h1 : seq < 0
        · have hv := hbad fun h => by omega
          simp (config := {contextual := true}) only [go_sem, ↓reduceIte, reduceCtorEq, Bool.false_eq_true, Bool.true_eq_false, Nat.reduceAdd, Nat.reduceLT, Nat.reduceEqDiff, Nat.reduceLeDiff, Nat.reduceSub, Nat.reduceMul, hok, hall, h8', h1, hv, List.map_nil]
        · by_cases h2' : 2147483647 < seq
          · have hv := hbad fun h => by omega
            simp (config := {contextual := true}) only [go_sem, ↓reduceIte, reduceCtorEq, Bool.false_eq_true, Bool.true_eq_false, Nat.reduceAdd, Nat.reduceLT, Nat.reduceEqDiff, Nat.reduceLeDiff, Nat.reduceSub, Nat.reduceMul, hok, hall, h8', h1, h2', hv, List.map_nil]
          · have hwl : IntKind.i64.wrap (seq + (ns.length : Int)) = seq + (ns.length : Int) := by rw [wrap_small3] <;> omega
            by_cases h3 : 2147483647 < seq + (ns.length : Int)
            · have hv : runV l seq ns = ([], l, 5) := by unfold runV; rw [if_pos ⟨hb, hok, by omega, by omega⟩, if_pos (by omega)]
              simp (config := {contextual := true}) only [go_sem, ↓reduceIte, reduceCtorEq, Bool.false_eq_true, Bool.true_eq_false, Nat.reduceAdd, Nat.reduceLT, Nat.reduceEqDiff, Nat.reduceLeDiff, Nat.reduceSub, Nat.reduceMul, hok, hall, h8', h1, h2', hwl, h3, hv, List.map_nil]
            · have hv : runV l seq ns = ((runGo l seq [] ns).1, (runGo l seq [] ns).2, 0) := by unfold runV; rw [if_pos ⟨hb, hok, by omega, by omega⟩, if_neg (by omega)]
              rw [hv]
              obtain ⟨RO, RP, hR⟩ : ∃ a b, runGo l seq [] ns = (a, b) := ⟨_, _, rfl⟩
              rw [hR]
              simp only
              simp (config := {contextual := true}) only [go_sem, ↓reduceIte, reduceCtorEq, Bool.false_eq_true, Bool.true_eq_false, Nat.reduceAdd, Nat.reduceLT, Nat.reduceEqDiff, Nat.reduceLeDiff, Nat.reduceSub, Nat.reduceMul, hok, hall, h8', h1, h2', hwl, h3]
              refine V.loop (fun m ls os => ∃ (i : Nat) (out : List Change) (cur : List Pair), i ≤ ns.length ∧ m = ns.length - i ∧ pairsOk cur ∧ cur.length ≤ l.length + i ∧ out.length ≤ i ∧ runGo cur seq out (ns.drop i) = (RO, RP) ∧
                  ls = [(1, .val (.int .i64 (seq + (out.length : Int)))), (2, .val (.row (ns.map Note.pv))), (11, .ref 0), (12, .val (.row (cur.map Pair.pv))), (13, .val (.int .i64 i))] ∧ os = [.row 55 (out.map Change.pv)]) 1 ns.length
                [(1, .val (.int .i64 seq)), (2, .val (.row (ns.map Note.pv))), (11, .ref 0), (12, .val (.row (l.map Pair.pv))), (13, .val (.int .i64 0))] [.row 55 []] [none]
                ⟨0, [], l, Nat.zero_le _, rfl, hok, Nat.le_refl _, Nat.le_refl _, hR, by simp, rfl⟩ (by simp only [go_sem, ↓reduceIte, reduceCtorEq, Bool.false_eq_true, Bool.true_eq_false, Nat.reduceAdd, Nat.reduceLT, Nat.reduceEqDiff, Nat.reduceLeDiff, Nat.reduceSub, Nat.reduceMul]; try decide) ?_
              rintro m ls os ⟨i, out, cur, hi, rfl, hco, hcl, hol, hca, rfl, rfl⟩
              refine V.exec 400 ?_
              by_cases hlt : i < ns.length
              · have hlt' : (i : Int) < (ns.length : Int) := by omega
                obtain ⟨x, hx⟩ : ∃ x, ns[i]? = some x := ⟨_, List.getElem?_eq_getElem hlt⟩
                have hxo : x.ok := hb.2 x (List.mem_of_getElem? hx)
                have hw : IntKind.i64.wrap ((i : Int) + 1) = ((i + 1 : Nat) : Int) := by rw [wrap_small3] <;> omega
                have hw2 : IntKind.i64.wrap (seq + (out.length : Int) + 1) = seq + (out.length : Int) + 1 := by rw [wrap_small3] <;> omega
                have co := ref15_Of cur (seq + (out.length : Int) + 1) x (by omega)
                have hno := fun h => (@ofV_none cur (seq + (out.length : Int) + 1) x hco hxo (by omega) (by omega) h).1
                have ca := ref10_Apply cur [x] (by omega) (by simp)
                rw [applyV_ok hco ((notesOk_one x).2 hxo)] at ca
                have e1 : appV cur [x] = oneV cur x := rfl
                rw [e1] at ca
                simp only at ca
                rw [drop_of_get hx, runGo] at hca
                have hoo := oneV_pairsOk hco hxo
                have hol2 := oneV_len ((pairsOk_iff cur).1 hco).1 x
                have hcast : ∀ n : Nat, seq + ((n + 1 : Nat) : Int) = seq + (n : Int) + 1 := fun n => by omega
                have hxs := one_slice (l := ns.map Note.pv) (i := i) (x := x.pv) (by rw [List.getElem?_map, hx]; rfl)
                obtain ⟨c, e, hC⟩ : ∃ a b, ofV cur (seq + (out.length : Int) + 1) x = (a, b) := ⟨_, _, rfl⟩
                rw [hC] at co hca hno
                simp only at co hca hno
                simp (config := {contextual := true}) only [go_sem, ↓reduceIte, reduceCtorEq, Bool.false_eq_true, Bool.true_eq_false, Nat.reduceAdd, Nat.reduceLT, Nat.reduceEqDiff, Nat.reduceLeDiff, Nat.reduceSub, Nat.reduceMul, hlt', hx, Note.pv, hw2]
                refine V.call rfl rfl (by simp [dOK]) ⟨30, [], by simp only [go_sem, ↓reduceIte, reduceCtorEq, Bool.false_eq_true, Bool.true_eq_false, Nat.reduceAdd, Nat.reduceLT, Nat.reduceEqDiff, Nat.reduceLeDiff, Nat.reduceSub, Nat.reduceMul], ⟨_, rfl, rfl, rfl⟩, .inl ⟨[.row (cur.map Pair.pv), .int .i64 (seq + (out.length : Int) + 1), x.pv], _, .inl (by simp only [go_sem, ↓reduceIte, reduceCtorEq, Bool.false_eq_true, Bool.true_eq_false, Nat.reduceAdd, Nat.reduceLT, Nat.reduceEqDiff, Nat.reduceLeDiff, Nat.reduceSub, Nat.reduceMul, Note.pv]), co, .inr (.inl ⟨_, rfl, rfl, rfl⟩)⟩⟩ ?_
                refine V.exec 400 ?_
                simp (config := {contextual := true}) only [go_sem, ↓reduceIte, reduceCtorEq, Bool.false_eq_true, Bool.true_eq_false, Nat.reduceAdd, Nat.reduceLT, Nat.reduceEqDiff, Nat.reduceLeDiff, Nat.reduceSub, Nat.reduceMul, Change.pv, hw]
                refine ⟨⟨by omega, by omega, fun j _ => rfl⟩, ?_⟩
                refine V.call rfl rfl (by simp [dOK]) ⟨31, [], by simp only [go_sem, ↓reduceIte, reduceCtorEq, Bool.false_eq_true, Bool.true_eq_false, Nat.reduceAdd, Nat.reduceLT, Nat.reduceEqDiff, Nat.reduceLeDiff, Nat.reduceSub, Nat.reduceMul], ⟨_, rfl, rfl, rfl⟩, .inl ⟨[.row (cur.map Pair.pv), .row ([x].map Note.pv)], _, .inl (by simp only [go_sem, ↓reduceIte, reduceCtorEq, Bool.false_eq_true, Bool.true_eq_false, Nat.reduceAdd, Nat.reduceLT, Nat.reduceEqDiff, Nat.reduceLeDiff, Nat.reduceSub, Nat.reduceMul, hxs, Note.pv, List.map_cons, List.map_nil]), ca, .inr (.inl ⟨_, rfl, rfl, rfl⟩)⟩⟩ ?_
                refine V.exec 400 ?_
                by_cases he : e = 0
                · rw [if_pos he] at hca
                  subst he
                  simp (config := {contextual := true}) only [go_sem, ↓reduceIte, reduceCtorEq, Bool.false_eq_true, Bool.true_eq_false, Nat.reduceAdd, Nat.reduceLT, Nat.reduceEqDiff, Nat.reduceLeDiff, Nat.reduceSub, Nat.reduceMul, Change.pv, hw2, hw]
                  refine ⟨⟨by omega, by omega⟩, ns.length - (i + 1), _, _, [some 35], by omega, ⟨i + 1, out ++ [c], oneV cur x, by omega, rfl, hoo, by omega, by simp; omega, hca, rfl, rfl⟩, ?_⟩
                  simp only [go_sem, ↓reduceIte, reduceCtorEq, Bool.false_eq_true, Bool.true_eq_false, Nat.reduceAdd, Nat.reduceLT, Nat.reduceEqDiff, Nat.reduceLeDiff, Nat.reduceSub, Nat.reduceMul, List.map_append, List.map_cons, List.map_nil, Change.pv, List.length_append, List.length_cons, List.length_nil, Nat.zero_add, hcast]
                  try decide
                · rw [if_neg he] at hca
                  rw [hno he] at hoo hol2
                  simp (config := {contextual := true}) only [go_sem, ↓reduceIte, reduceCtorEq, Bool.false_eq_true, Bool.true_eq_false, Nat.reduceAdd, Nat.reduceLT, Nat.reduceEqDiff, Nat.reduceLeDiff, Nat.reduceSub, Nat.reduceMul, Change.pv, he, hw]
                  refine ⟨ns.length - (i + 1), _, _, [some 0], by omega, ⟨i + 1, out, cur, by omega, rfl, hco, by omega, by omega, hca, rfl, rfl⟩, ?_⟩
                  simp only [go_sem, ↓reduceIte, reduceCtorEq, Bool.false_eq_true, Bool.true_eq_false, Nat.reduceAdd, Nat.reduceLT, Nat.reduceEqDiff, Nat.reduceLeDiff, Nat.reduceSub, Nat.reduceMul, hno he]
                  try decide
              · have hlt' : ¬ (i : Int) < (ns.length : Int) := by omega
                have hd : ns.drop i = [] := List.drop_eq_nil_of_le (by omega)
                rw [hd, runGo, Prod.mk.injEq] at hca
                obtain ⟨rfl, rfl⟩ := hca
                simp (config := {contextual := true}) only [go_sem, ↓reduceIte, reduceCtorEq, Bool.false_eq_true, Bool.true_eq_false, Nat.reduceAdd, Nat.reduceLT, Nat.reduceEqDiff, Nat.reduceLeDiff, Nat.reduceSub, Nat.reduceMul, hlt']
      · have h8' : (8 : Int) < (ns.length : Int) := by omega
        have hv := hbad fun h => h8 h.1.1
        simp (config := {contextual := true}) only [go_sem, ↓reduceIte, reduceCtorEq, Bool.false_eq_true, Bool.true_eq_false, Nat.reduceAdd, Nat.reduceLT, Nat.reduceEqDiff, Nat.reduceLeDiff, Nat.reduceSub, Nat.reduceMul, hok, hall, h8', hv, List.map_nil]
    · have hv := hbad fun h => hall h.1.2
      simp (config := {contextual := true}) only [go_sem, ↓reduceIte, reduceCtorEq, Bool.false_eq_true, Bool.true_eq_false, Nat.reduceAdd, Nat.reduceLT, Nat.reduceEqDiff, Nat.reduceLeDiff, Nat.reduceSub, Nat.reduceMul, hok, hall, hv, List.map_nil]
  · have hv := hbad fun h => hok h.2.1
    simp (config := {contextual := true}) only [go_sem, ↓reduceIte, reduceCtorEq, Bool.false_eq_true, Bool.true_eq_false, Nat.reduceAdd, Nat.reduceLT, Nat.reduceEqDiff, Nat.reduceLeDiff, Nat.reduceSub, Nat.reduceMul, hok, hv, List.map_nil]
end Go.Proofs.Ytglpemnejngkaaa
