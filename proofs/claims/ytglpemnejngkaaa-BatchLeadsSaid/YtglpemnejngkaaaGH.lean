/- A part of a proof: functions of the program, walked. -/
import Derived.Test.YtglpemnejngkaaaGG
import Derived.Test.YtglpemnejngkaaaGE
import Derived.Test.YtglpemnejngkaaaGF
set_option linter.unusedVariables false
set_option linter.unusedSimpArgs false
namespace Go.Proofs.Ytglpemnejngkaaa
open Go Go.Proofs Go.Proofs.YtglpemnejngkaaaVm Go.Proofs.Ytglpemnejngkaaa.Ty

theorem allGo_len (l0 : List Pair) : ∀ (bs : List (List Note)) (p : List Pair) (seq : Int) (out : List Change) (ends : List Int),
    (allGo l0 p seq out ends bs).1.length ≤ out.length + 8 * bs.length ∧ ((allGo l0 p seq out ends bs).2.1.length ≤ p.length + 8 * bs.length ∨ (allGo l0 p seq out ends bs).2.1 = l0) ∧ (allGo l0 p seq out ends bs).2.2.1.length ≤ ends.length + bs.length
  | [], p, seq, out, ends => by simp [allGo]
  | b :: r, p, seq, out, ends => by
    unfold allGo
    split
    · rename_i h
      have hf := runV_facts h
      have h8 := hf.1.1
      have h5 := hf.2.2.2.2.1
      have h6 := hf.2.2.2.2.2.1
      have ih := allGo_len l0 r (runV p seq b).2.1 (seq + ((runV p seq b).1.length : Int)) (out ++ (runV p seq b).1) (ends ++ [seq + ((runV p seq b).1.length : Int)])
      rw [List.length_append, List.length_append, List.length_singleton] at ih
      rw [List.length_cons]
      refine ⟨by omega, ?_, by omega⟩
      rcases ih.2.1 with h | h
      · left; omega
      · right; exact h
    · simp
theorem allV_len (l : List Pair) (seq : Int) (bs : List (List Note)) : (allV l seq bs).1.length ≤ 8 * bs.length ∧ (allV l seq bs).2.1.length ≤ l.length + 8 * bs.length ∧ (allV l seq bs).2.2.1.length ≤ bs.length := by
  have h := allGo_len l bs l seq [] []
  simp only [List.length_nil, Nat.zero_add] at h
  unfold allV
  refine ⟨h.1, ?_, h.2.2⟩
  rcases h.2.1 with g | g
  · exact g
  · rw [g]; omega

set_option maxRecDepth 10000 in
set_option maxHeartbeats 16000000 in
theorem law_All (l : List Pair) (seq : Int) (bs : List (List Note)) (hl : l.length ≤ maxLen) (hn : bs.length ≤ maxLen) (hb : ∀ b ∈ bs, b.length ≤ maxLen) (hseq : seq ≤ 9223372036854775807) :
    Ct Try.prog 4 (YtglpemnejngkaaaVm.ops [.row (l.map Pair.pv), .int .i64 seq, .row (bs.map rowN)]) (.vals [.bool true]) := by
  have aw := law17_awake
  simp only [maxLen] at hl hn hb
  refine Ct.of_V Try.func4 rfl (by simp [YtglpemnejngkaaaVm.ops, Try.f4]) ?_
  refine V.exec 400 ?_
  simp (config := {contextual := true}) only [go_sem, ↓reduceIte, reduceCtorEq, Bool.false_eq_true, Bool.true_eq_false, Nat.reduceAdd, Nat.reduceLT, Nat.reduceEqDiff, Nat.reduceLeDiff, Nat.reduceSub, Nat.reduceMul, Try.f4]
  refine V.call rfl rfl (by simp [dOK]) ⟨9, [], by simp only [go_sem, ↓reduceIte, reduceCtorEq, Bool.false_eq_true, Bool.true_eq_false, Nat.reduceAdd, Nat.reduceLT, Nat.reduceEqDiff, Nat.reduceLeDiff, Nat.reduceSub, Nat.reduceMul], ⟨_, rfl, rfl, rfl⟩, .inl ⟨[.row (l.map Pair.pv)], _, .inl (by simp only [go_sem, ↓reduceIte, reduceCtorEq, Bool.false_eq_true, Bool.true_eq_false, Nat.reduceAdd, Nat.reduceLT, Nat.reduceEqDiff, Nat.reduceLeDiff, Nat.reduceSub, Nat.reduceMul]), law17_small l (by omega), .inl ⟨_, rfl, rfl, rfl, rfl⟩⟩⟩ ?_
  refine V.exec 400 ?_
  by_cases h1 : smallP l
  · have hl60 := h1.1
    by_cases h10 : bs.length ≤ 10
    · have h10' : ¬ (10 : Int) < (bs.length : Int) := by omega
      simp (config := {contextual := true}) only [go_sem, ↓reduceIte, reduceCtorEq, Bool.false_eq_true, Bool.true_eq_false, Nat.reduceAdd, Nat.reduceLT, Nat.reduceEqDiff, Nat.reduceLeDiff, Nat.reduceSub, Nat.reduceMul, h1, h10']
      refine V.loop (fun m ls os => ∃ (i : Nat), i ≤ bs.length ∧ m = bs.length - i ∧ (∀ b ∈ bs.take i, b.length ≤ 20) ∧
          ls = [(0, .val (.row (l.map Pair.pv))), (1, .val (.int .i64 seq)), (2, .val (.row (bs.map rowN))), (26, .val (.row (bs.map rowN))), (27, .val (.int .i64 bs.length)), (28, .val (.int .i64 i))] ∧ os = []) 0 bs.length
        [(0, .val (.row (l.map Pair.pv))), (1, .val (.int .i64 seq)), (2, .val (.row (bs.map rowN))), (26, .val (.row (bs.map rowN))), (27, .val (.int .i64 bs.length)), (28, .val (.int .i64 0))] [] []
        ⟨0, Nat.zero_le _, rfl, by simp, rfl, rfl⟩ (by simp only [go_sem, ↓reduceIte, reduceCtorEq, Bool.false_eq_true, Bool.true_eq_false, Nat.reduceAdd, Nat.reduceLT, Nat.reduceEqDiff, Nat.reduceLeDiff, Nat.reduceSub, Nat.reduceMul]) ?_
      rintro m ls os ⟨i, hi, rfl, hall, rfl, rfl⟩
      refine V.exec 400 ?_
      by_cases hlt : i < bs.length
      · have hlt' : (i : Int) < (bs.length : Int) := by omega
        obtain ⟨b, hx⟩ : ∃ x, bs[i]? = some x := ⟨_, List.getElem?_eq_getElem hlt⟩
        have hw : IntKind.i64.wrap ((i : Int) + 1) = ((i + 1 : Nat) : Int) := by rw [wrap_small3] <;> omega
        have hbl := hb b (List.mem_of_getElem? hx)
        simp (config := {contextual := true}) only [go_sem, ↓reduceIte, reduceCtorEq, Bool.false_eq_true, Bool.true_eq_false, Nat.reduceAdd, Nat.reduceLT, Nat.reduceEqDiff, Nat.reduceLeDiff, Nat.reduceSub, Nat.reduceMul, hlt', hx, rowN]
        refine V.call rfl rfl (by simp [dOK]) ⟨10, [], by simp only [go_sem, ↓reduceIte, reduceCtorEq, Bool.false_eq_true, Bool.true_eq_false, Nat.reduceAdd, Nat.reduceLT, Nat.reduceEqDiff, Nat.reduceLeDiff, Nat.reduceSub, Nat.reduceMul], ⟨_, rfl, rfl, rfl⟩, .inl ⟨[.row (b.map Note.pv)], _, .inl (by simp only [go_sem, ↓reduceIte, reduceCtorEq, Bool.false_eq_true, Bool.true_eq_false, Nat.reduceAdd, Nat.reduceLT, Nat.reduceEqDiff, Nat.reduceLeDiff, Nat.reduceSub, Nat.reduceMul]), law17_few b (by omega), .inl ⟨_, rfl, rfl, rfl, rfl⟩⟩⟩ ?_
        refine V.exec 400 ?_
        by_cases hf : fewN b
        · have hall' : ∀ b' ∈ bs.take (i + 1), b'.length ≤ 20 := fun b' hb' => by
            rw [List.take_add_one, hx] at hb'
            rcases List.mem_append.1 hb' with hb' | hb'
            · exact hall b' hb'
            · simp at hb'; subst hb'; exact hf.1
          simp (config := {contextual := true}) only [go_sem, ↓reduceIte, reduceCtorEq, Bool.false_eq_true, Bool.true_eq_false, Nat.reduceAdd, Nat.reduceLT, Nat.reduceEqDiff, Nat.reduceLeDiff, Nat.reduceSub, Nat.reduceMul, hf, hw]
          exact ⟨bs.length - (i + 1), _, [], [], by omega, ⟨i + 1, by omega, rfl, hall', rfl, rfl⟩, by simp only [go_sem, ↓reduceIte, reduceCtorEq, Bool.false_eq_true, Bool.true_eq_false, Nat.reduceAdd, Nat.reduceLT, Nat.reduceEqDiff, Nat.reduceLeDiff, Nat.reduceSub, Nat.reduceMul, rowN]⟩
        · simp (config := {contextual := true}) only [go_sem, ↓reduceIte, reduceCtorEq, Bool.false_eq_true, Bool.true_eq_false, Nat.reduceAdd, Nat.reduceLT, Nat.reduceEqDiff, Nat.reduceLeDiff, Nat.reduceSub, Nat.reduceMul, hf]
          refine V.call rfl rfl (by simp [dOK]) ⟨11, [], by simp only [go_sem, ↓reduceIte, reduceCtorEq, Bool.false_eq_true, Bool.true_eq_false, Nat.reduceAdd, Nat.reduceLT, Nat.reduceEqDiff, Nat.reduceLeDiff, Nat.reduceSub, Nat.reduceMul], ⟨_, rfl, rfl, rfl⟩, .inl ⟨[], _, .inl (by simp only [go_sem, ↓reduceIte, reduceCtorEq, Bool.false_eq_true, Bool.true_eq_false, Nat.reduceAdd, Nat.reduceLT, Nat.reduceEqDiff, Nat.reduceLeDiff, Nat.reduceSub, Nat.reduceMul]), aw, .inl ⟨_, rfl, rfl, rfl, rfl⟩⟩⟩ ?_
          refine V.exec 400 ?_
          simp (config := {contextual := true}) only [go_sem, ↓reduceIte, reduceCtorEq, Bool.false_eq_true, Bool.true_eq_false, Nat.reduceAdd, Nat.reduceLT, Nat.reduceEqDiff, Nat.reduceLeDiff, Nat.reduceSub, Nat.reduceMul]
      · have hlt' : ¬ (i : Int) < (bs.length : Int) := by omega
        rw [List.take_of_length_le (by omega)] at hall
        have c1 := batch_All l seq bs (by omega) (by omega) (fun b hb => Nat.le_trans (hall b hb) (by decide)) hseq
        have c2 := ref17_All l seq bs (by omega) (by omega) (fun b hb => Nat.le_trans (hall b hb) (by decide)) hseq
        have hlen := allV_len l seq bs
        obtain ⟨a, p, n, e, hR⟩ : ∃ x y z u, allV l seq bs = (x, y, z, u) := ⟨_, _, _, _, rfl⟩
        rw [hR] at c1 c2 hlen
        simp only at c1 c2 hlen
        simp (config := {contextual := true}) only [go_sem, ↓reduceIte, reduceCtorEq, Bool.false_eq_true, Bool.true_eq_false, Nat.reduceAdd, Nat.reduceLT, Nat.reduceEqDiff, Nat.reduceLeDiff, Nat.reduceSub, Nat.reduceMul, hlt']
        refine V.call rfl rfl (by simp [dOK]) ⟨18, [], by simp only [go_sem, ↓reduceIte, reduceCtorEq, Bool.false_eq_true, Bool.true_eq_false, Nat.reduceAdd, Nat.reduceLT, Nat.reduceEqDiff, Nat.reduceLeDiff, Nat.reduceSub, Nat.reduceMul], ⟨_, rfl, rfl, rfl⟩, .inl ⟨[.row (l.map Pair.pv), .int .i64 seq, .row (bs.map rowN)], _, .inl (by simp only [go_sem, ↓reduceIte, reduceCtorEq, Bool.false_eq_true, Bool.true_eq_false, Nat.reduceAdd, Nat.reduceLT, Nat.reduceEqDiff, Nat.reduceLeDiff, Nat.reduceSub, Nat.reduceMul]), c1, .inr (.inl ⟨_, rfl, rfl, rfl⟩)⟩⟩ ?_
        refine V.exec 400 ?_
        simp (config := {contextual := true}) only [go_sem, ↓reduceIte, reduceCtorEq, Bool.false_eq_true, Bool.true_eq_false, Nat.reduceAdd, Nat.reduceLT, Nat.reduceEqDiff, Nat.reduceLeDiff, Nat.reduceSub, Nat.reduceMul]
        refine V.call rfl rfl (by simp [dOK]) ⟨19, [], by simp only [go_sem, ↓reduceIte, reduceCtorEq, Bool.false_eq_true, Bool.true_eq_false, Nat.reduceAdd, Nat.reduceLT, Nat.reduceEqDiff, Nat.reduceLeDiff, Nat.reduceSub, Nat.reduceMul], ⟨_, rfl, rfl, rfl⟩, .inl ⟨[.row (l.map Pair.pv), .int .i64 seq, .row (bs.map rowN)], _, .inl (by simp only [go_sem, ↓reduceIte, reduceCtorEq, Bool.false_eq_true, Bool.true_eq_false, Nat.reduceAdd, Nat.reduceLT, Nat.reduceEqDiff, Nat.reduceLeDiff, Nat.reduceSub, Nat.reduceMul]), c2, .inr (.inl ⟨_, rfl, rfl, rfl⟩)⟩⟩ ?_
        refine V.exec 400 ?_
        simp (config := {contextual := true}) only [go_sem, ↓reduceIte, reduceCtorEq, Bool.false_eq_true, Bool.true_eq_false, Nat.reduceAdd, Nat.reduceLT, Nat.reduceEqDiff, Nat.reduceLeDiff, Nat.reduceSub, Nat.reduceMul]
        refine V.call rfl rfl (by simp [dOK]) ⟨16, [], by simp only [go_sem, ↓reduceIte, reduceCtorEq, Bool.false_eq_true, Bool.true_eq_false, Nat.reduceAdd, Nat.reduceLT, Nat.reduceEqDiff, Nat.reduceLeDiff, Nat.reduceSub, Nat.reduceMul], ⟨_, rfl, rfl, rfl⟩, .inl ⟨[.row (a.map Change.pv), .row (a.map Change.pv)], _, .inl (by simp only [go_sem, ↓reduceIte, reduceCtorEq, Bool.false_eq_true, Bool.true_eq_false, Nat.reduceAdd, Nat.reduceLT, Nat.reduceEqDiff, Nat.reduceLeDiff, Nat.reduceSub, Nat.reduceMul]), ref13_Same a a (by omega), .inl ⟨_, rfl, rfl, rfl, rfl⟩⟩⟩ ?_
        refine V.exec 400 ?_
        simp (config := {contextual := true}) only [go_sem, ↓reduceIte, reduceCtorEq, Bool.false_eq_true, Bool.true_eq_false, Nat.reduceAdd, Nat.reduceLT, Nat.reduceEqDiff, Nat.reduceLeDiff, Nat.reduceSub, Nat.reduceMul, decide_true]
        refine V.call rfl rfl (by simp [dOK]) ⟨17, [], by simp only [go_sem, ↓reduceIte, reduceCtorEq, Bool.false_eq_true, Bool.true_eq_false, Nat.reduceAdd, Nat.reduceLT, Nat.reduceEqDiff, Nat.reduceLeDiff, Nat.reduceSub, Nat.reduceMul], ⟨_, rfl, rfl, rfl⟩, .inl ⟨[.row (p.map Pair.pv), .row (p.map Pair.pv)], _, .inl (by simp only [go_sem, ↓reduceIte, reduceCtorEq, Bool.false_eq_true, Bool.true_eq_false, Nat.reduceAdd, Nat.reduceLT, Nat.reduceEqDiff, Nat.reduceLeDiff, Nat.reduceSub, Nat.reduceMul]), ref03_Same p p (by omega), .inl ⟨_, rfl, rfl, rfl, rfl⟩⟩⟩ ?_
        refine V.exec 400 ?_
        simp (config := {contextual := true}) only [go_sem, ↓reduceIte, reduceCtorEq, Bool.false_eq_true, Bool.true_eq_false, Nat.reduceAdd, Nat.reduceLT, Nat.reduceEqDiff, Nat.reduceLeDiff, Nat.reduceSub, Nat.reduceMul, decide_true]
        refine V.call rfl rfl (by simp [dOK]) ⟨20, [], by simp only [go_sem, ↓reduceIte, reduceCtorEq, Bool.false_eq_true, Bool.true_eq_false, Nat.reduceAdd, Nat.reduceLT, Nat.reduceEqDiff, Nat.reduceLeDiff, Nat.reduceSub, Nat.reduceMul], ⟨_, rfl, rfl, rfl⟩, .inl ⟨[.row (n.map pvZ), .row (n.map pvZ)], _, .inl (by simp only [go_sem, ↓reduceIte, reduceCtorEq, Bool.false_eq_true, Bool.true_eq_false, Nat.reduceAdd, Nat.reduceLT, Nat.reduceEqDiff, Nat.reduceLeDiff, Nat.reduceSub, Nat.reduceMul]), ref17_Numbers n n (by omega), .inl ⟨_, rfl, rfl, rfl, rfl⟩⟩⟩ ?_
        refine V.exec 400 ?_
        simp (config := {contextual := true}) only [go_sem, ↓reduceIte, reduceCtorEq, Bool.false_eq_true, Bool.true_eq_false, Nat.reduceAdd, Nat.reduceLT, Nat.reduceEqDiff, Nat.reduceLeDiff, Nat.reduceSub, Nat.reduceMul, decide_true]
        refine V.call rfl rfl (by simp [dOK]) ⟨11, [], by simp only [go_sem, ↓reduceIte, reduceCtorEq, Bool.false_eq_true, Bool.true_eq_false, Nat.reduceAdd, Nat.reduceLT, Nat.reduceEqDiff, Nat.reduceLeDiff, Nat.reduceSub, Nat.reduceMul], ⟨_, rfl, rfl, rfl⟩, .inl ⟨[], _, .inl (by simp only [go_sem, ↓reduceIte, reduceCtorEq, Bool.false_eq_true, Bool.true_eq_false, Nat.reduceAdd, Nat.reduceLT, Nat.reduceEqDiff, Nat.reduceLeDiff, Nat.reduceSub, Nat.reduceMul]), aw, .inl ⟨_, rfl, rfl, rfl, rfl⟩⟩⟩ ?_
        refine V.exec 400 ?_
        simp (config := {contextual := true}) only [go_sem, ↓reduceIte, reduceCtorEq, Bool.false_eq_true, Bool.true_eq_false, Nat.reduceAdd, Nat.reduceLT, Nat.reduceEqDiff, Nat.reduceLeDiff, Nat.reduceSub, Nat.reduceMul]
    · have h10' : (10 : Int) < (bs.length : Int) := by omega
      simp (config := {contextual := true}) only [go_sem, ↓reduceIte, reduceCtorEq, Bool.false_eq_true, Bool.true_eq_false, Nat.reduceAdd, Nat.reduceLT, Nat.reduceEqDiff, Nat.reduceLeDiff, Nat.reduceSub, Nat.reduceMul, h1, h10']
      refine V.call rfl rfl (by simp [dOK]) ⟨11, [], by simp only [go_sem, ↓reduceIte, reduceCtorEq, Bool.false_eq_true, Bool.true_eq_false, Nat.reduceAdd, Nat.reduceLT, Nat.reduceEqDiff, Nat.reduceLeDiff, Nat.reduceSub, Nat.reduceMul], ⟨_, rfl, rfl, rfl⟩, .inl ⟨[], _, .inl (by simp only [go_sem, ↓reduceIte, reduceCtorEq, Bool.false_eq_true, Bool.true_eq_false, Nat.reduceAdd, Nat.reduceLT, Nat.reduceEqDiff, Nat.reduceLeDiff, Nat.reduceSub, Nat.reduceMul]), aw, .inl ⟨_, rfl, rfl, rfl, rfl⟩⟩⟩ ?_
      refine V.exec 400 ?_
      simp (config := {contextual := true}) only [go_sem, ↓reduceIte, reduceCtorEq, Bool.false_eq_true, Bool.true_eq_false, Nat.reduceAdd, Nat.reduceLT, Nat.reduceEqDiff, Nat.reduceLeDiff, Nat.reduceSub, Nat.reduceMul]
  · simp (config := {contextual := true}) only [go_sem, ↓reduceIte, reduceCtorEq, Bool.false_eq_true, Bool.true_eq_false, Nat.reduceAdd, Nat.reduceLT, Nat.reduceEqDiff, Nat.reduceLeDiff, Nat.reduceSub, Nat.reduceMul, h1]
    refine V.call rfl rfl (by simp [dOK]) ⟨11, [], by simp only [go_sem, ↓reduceIte, reduceCtorEq, Bool.false_eq_true, Bool.true_eq_false, Nat.reduceAdd, Nat.reduceLT, Nat.reduceEqDiff, Nat.reduceLeDiff, Nat.reduceSub, Nat.reduceMul], ⟨_, rfl, rfl, rfl⟩, .inl ⟨[], _, .inl (by simp only [go_sem, ↓reduceIte, reduceCtorEq, Bool.false_eq_true, Bool.true_eq_false, Nat.reduceAdd, Nat.reduceLT, Nat.reduceEqDiff, Nat.reduceLeDiff, Nat.reduceSub, Nat.reduceMul]), aw, .inl ⟨_, rfl, rfl, rfl, rfl⟩⟩⟩ ?_
    refine V.exec 400 ?_
    simp (config := {contextual := true}) only [go_sem, ↓reduceIte, reduceCtorEq, Bool.false_eq_true, Bool.true_eq_false, Nat.reduceAdd, Nat.reduceLT, Nat.reduceEqDiff, Nat.reduceLeDiff, Nat.reduceSub, Nat.reduceMul]
theorem notes_rows (xss : List (List PV)) (h : ∀ xs ∈ xss, xs.length ≤ maxLen ∧ ∀ x ∈ xs, ∃ qs, x = .agg qs ∧ qs.map PV.kd = [.int .i64, .str, .str, .int .u64] ∧ ∀ q ∈ qs, q.wfv) :
    ∃ bs : List (List Note), xss.map PV.row = bs.map rowN ∧ bs.length = xss.length ∧ ∀ b ∈ bs, b.length ≤ maxLen := by
  induction xss with
  | nil => exact ⟨[], rfl, rfl, by simp⟩
  | cons x r ih =>
    obtain ⟨t, ht, hl, hb⟩ := ih fun y hy => h y (List.mem_cons_of_mem _ hy)
    obtain ⟨g1, g2⟩ := h x List.mem_cons_self
    obtain ⟨n, rfl⟩ := note_of x g2
    refine ⟨n :: t, by rw [List.map_cons, List.map_cons, ht]; rfl, by simp [hl], fun b hbm => ?_⟩
    rcases List.mem_cons.1 hbm with rfl | hbm
    · simpa using g1
    · exact hb b hbm
theorem ctAll (xs0 : List PV) (l0 : xs0.length ≤ maxLen) (h0 : ∀ x ∈ xs0, ∃ qs, x = .agg qs ∧ qs.map PV.kd = [.str, .str] ∧ ∀ q ∈ qs, q.wfv) (a1 : Int) (w1 : (Lit.int .i64 a1).wf = true)
    (xs2 : List (List PV)) (l2 : xs2.length ≤ maxLen) (h2 : ∀ xs ∈ xs2, xs.length ≤ maxLen ∧ ∀ x ∈ xs, ∃ qs, x = .agg qs ∧ qs.map PV.kd = [.int .i64, .str, .str, .int .u64] ∧ ∀ q ∈ qs, q.wfv) :
    Ct Try.prog 4 (YtglpemnejngkaaaVm.ops [.row xs0, .int .i64 a1, .row (xs2.map PV.row)]) (.vals [.bool true]) := by
  obtain ⟨l, rfl⟩ := pair_of xs0 h0
  obtain ⟨bs, hbs, hbl, hb⟩ := notes_rows xs2 h2
  rw [hbs]
  exact law_All l a1 bs (by simpa using l0) (by rw [hbl]; exact l2) hb (int_top w1)
end Go.Proofs.Ytglpemnejngkaaa
set_option linter.unusedVariables false
set_option linter.unusedSimpArgs false
namespace Go.Proofs.Ytglpemnejngkaaa
open Go Go.Proofs Go.Proofs.YtglpemnejngkaaaVm Go.Proofs.Ytglpemnejngkaaa.Ty

theorem allGo_cons (l0 : List Pair) {p : List Pair} {seq : Int} {x : List Note} (out : List Change) (ends : List Int) (r : List (List Note)) (h : (runV p seq x).2.2 = 0) :
    allGo l0 p seq out ends (x :: r) = allGo l0 (runV p seq x).2.1 (seq + ((runV p seq x).1.length : Int)) (out ++ (runV p seq x).1) (ends ++ [seq + ((runV p seq x).1.length : Int)]) r := by rw [allGo, if_pos h]
theorem allGo_app (l0 : List Pair) (b : List (List Note)) : ∀ (a : List (List Note)) (p : List Pair) (seq : Int) (out : List Change) (ends : List Int),
    allGo l0 p seq out ends (a ++ b) = if (allGo l0 p seq out ends a).2.2.2 = 0 then allGo l0 (allGo l0 p seq out ends a).2.1 (seq + ((allGo l0 p seq out ends a).1.length : Int) - (out.length : Int)) (allGo l0 p seq out ends a).1 (allGo l0 p seq out ends a).2.2.1 b else allGo l0 p seq out ends a
  | [], p, seq, out, ends => by
    have e : seq + (out.length : Int) - (out.length : Int) = seq := by omega
    simp only [List.nil_append, allGo, ↓reduceIte, e]
  | x :: r, p, seq, out, ends => by
    rw [List.cons_append]
    by_cases h : (runV p seq x).2.2 = 0
    · have ih := allGo_app l0 b r (runV p seq x).2.1 (seq + ((runV p seq x).1.length : Int)) (out ++ (runV p seq x).1) (ends ++ [seq + ((runV p seq x).1.length : Int)])
      rw [allGo_cons l0 out ends (r ++ b) h, allGo_cons l0 out ends r h, ih]
      have e : ∀ n : Int, seq + ((runV p seq x).1.length : Int) + n - ((out ++ (runV p seq x).1).length : Int) = seq + n - (out.length : Int) := fun n => by rw [List.length_append]; omega
      rw [e]
    · have e1 : ∀ t, allGo l0 p seq out ends (x :: t) = ([], l0, [], (runV p seq x).2.2) := fun t => by rw [allGo, if_neg h]
      rw [e1, e1, if_neg h]
theorem allGo_err (l0 : List Pair) : ∀ (a : List (List Note)) (p : List Pair) (seq : Int) (out : List Change) (ends : List Int), (allGo l0 p seq out ends a).2.2.2 ≠ 0 → allGo l0 p seq out ends a = ([], l0, [], (allGo l0 p seq out ends a).2.2.2)
  | [], p, seq, out, ends, h => absurd rfl h
  | x :: r, p, seq, out, ends, h => by
    unfold allGo at *
    by_cases h' : (runV p seq x).2.2 = 0
    · rw [if_pos h'] at *
      exact allGo_err l0 r _ _ _ _ h
    · rw [if_neg h']
theorem allGo_pre (l0 l1 : List Pair) (o : List Change) (d : List Int) : ∀ (a : List (List Note)) (p : List Pair) (seq : Int) (out : List Change) (ends : List Int),
    (allGo l0 p seq (o ++ out) (d ++ ends) a).2.2.2 = (allGo l1 p seq out ends a).2.2.2 ∧ ((allGo l1 p seq out ends a).2.2.2 = 0 → allGo l0 p seq (o ++ out) (d ++ ends) a = (o ++ (allGo l1 p seq out ends a).1, (allGo l1 p seq out ends a).2.1, d ++ (allGo l1 p seq out ends a).2.2.1, 0))
  | [], p, seq, out, ends => ⟨rfl, fun _ => rfl⟩
  | x :: r, p, seq, out, ends => by
    unfold allGo
    by_cases h : (runV p seq x).2.2 = 0
    · rw [if_pos h, if_pos h, List.append_assoc, List.append_assoc]
      exact allGo_pre l0 l1 o d r _ _ _ _
    · rw [if_neg h, if_neg h]
      exact ⟨rfl, fun g => absurd g h⟩
theorem allGo_seq (l0 : List Pair) : ∀ (a : List (List Note)) (p : List Pair) (seq : Int) (out : List Change) (ends : List Int), (allGo l0 p seq out ends a).2.2.2 = 0 →
    (allGo l0 p seq out ends a).1.length = out.length ∨ seq + ((allGo l0 p seq out ends a).1.length : Int) - (out.length : Int) ≤ 2147483647
  | [], p, seq, out, ends, _ => .inl rfl
  | x :: r, p, seq, out, ends, h => by
    unfold allGo at *
    by_cases h' : (runV p seq x).2.2 = 0
    · rw [if_pos h'] at *
      have hf := runV_facts h'
      have h4 := hf.2.2.2.1
      have h5 := hf.2.2.2.2.1
      have ih := allGo_seq l0 r _ _ _ _ h
      rw [List.length_append] at ih
      right
      rcases ih with ih | ih <;> omega
    · rw [if_neg h'] at h
      exact absurd h h'
theorem allV_seq (l : List Pair) (seq : Int) (a : List (List Note)) : (allV l seq a).1.length = 0 ∨ seq + ((allV l seq a).1.length : Int) ≤ 2147483647 := by
  unfold allV
  by_cases h : (allGo l l seq [] [] a).2.2.2 = 0
  · have := allGo_seq l a l seq [] [] h
    simpa using this
  · rw [allGo_err l a l seq [] [] h]; simp
theorem all_parts (l : List Pair) (seq : Int) (a b : List (List Note)) :
    ((allV l seq a).2.2.2 ≠ 0 → (allV l seq (a ++ b)).2.2.2 ≠ 0) ∧
    ((allV l seq a).2.2.2 = 0 → (allV l seq (a ++ b)).2.2.2 = (allV (allV l seq a).2.1 (seq + ((allV l seq a).1.length : Int)) b).2.2.2 ∧
      ((allV (allV l seq a).2.1 (seq + ((allV l seq a).1.length : Int)) b).2.2.2 = 0 → allV l seq (a ++ b) = ((allV l seq a).1 ++ (allV (allV l seq a).2.1 (seq + ((allV l seq a).1.length : Int)) b).1, (allV (allV l seq a).2.1 (seq + ((allV l seq a).1.length : Int)) b).2.1, (allV l seq a).2.2.1 ++ (allV (allV l seq a).2.1 (seq + ((allV l seq a).1.length : Int)) b).2.2.1, 0))) := by
  unfold allV
  rw [allGo_app l b a l seq [] []]
  refine ⟨fun h => by rw [if_neg h]; exact h, fun h => ?_⟩
  rw [if_pos h]
  have e : ∀ n : Int, seq + n - (([] : List Change).length : Int) = seq + n := fun n => by simp
  rw [e]
  have hp := allGo_pre l (allGo l l seq [] [] a).2.1 (allGo l l seq [] [] a).1 (allGo l l seq [] [] a).2.2.1 b (allGo l l seq [] [] a).2.1 (seq + ((allGo l l seq [] [] a).1.length : Int)) [] []
  simp only [List.append_nil] at hp
  exact hp
end Go.Proofs.Ytglpemnejngkaaa
set_option linter.unusedVariables false
set_option linter.unusedSimpArgs false
namespace Go.Proofs.Ytglpemnejngkaaa
open Go Go.Proofs Go.Proofs.YtglpemnejngkaaaVm Go.Proofs.Ytglpemnejngkaaa.Ty

theorem allV_err (l : List Pair) (seq : Int) (a : List (List Note)) (h : (allV l seq a).2.2.2 ≠ 0) : (allV l seq a).1 = [] ∧ (allV l seq a).2.1 = l := by
  have := allGo_err l a l seq [] [] h
  unfold allV
  rw [this]
  exact ⟨rfl, rfl⟩

set_option maxRecDepth 10000 in
set_option maxHeartbeats 16000000 in
theorem law_PartsB (l : List Pair) (seq : Int) (a b : List (List Note)) (hl : l.length ≤ maxLen) (hna : a.length ≤ maxLen) (hnb : b.length ≤ maxLen) (hba : ∀ x ∈ a, x.length ≤ maxLen) (hbb : ∀ x ∈ b, x.length ≤ maxLen) (hs0 : -9223372036854775808 ≤ seq) (hseq : seq ≤ 9223372036854775807) :
    Ct Try.prog 5 (YtglpemnejngkaaaVm.ops [.row (l.map Pair.pv), .int .i64 seq, .row (a.map rowN), .row (b.map rowN)]) (.vals [.bool true]) := by
  have aw := law17_awake
  simp only [maxLen] at hl hna hnb hba hbb
  refine Ct.of_V Try.func5 rfl (by simp [YtglpemnejngkaaaVm.ops, Try.f5]) ?_
  refine V.exec 400 ?_
  simp (config := {contextual := true}) only [go_sem, ↓reduceIte, reduceCtorEq, Bool.false_eq_true, Bool.true_eq_false, Nat.reduceAdd, Nat.reduceLT, Nat.reduceEqDiff, Nat.reduceLeDiff, Nat.reduceSub, Nat.reduceMul, Try.f5]
  refine V.call rfl rfl (by simp [dOK]) ⟨9, [], by simp only [go_sem, ↓reduceIte, reduceCtorEq, Bool.false_eq_true, Bool.true_eq_false, Nat.reduceAdd, Nat.reduceLT, Nat.reduceEqDiff, Nat.reduceLeDiff, Nat.reduceSub, Nat.reduceMul], ⟨_, rfl, rfl, rfl⟩, .inl ⟨[.row (l.map Pair.pv)], _, .inl (by simp only [go_sem, ↓reduceIte, reduceCtorEq, Bool.false_eq_true, Bool.true_eq_false, Nat.reduceAdd, Nat.reduceLT, Nat.reduceEqDiff, Nat.reduceLeDiff, Nat.reduceSub, Nat.reduceMul]), law17_small l (by omega), .inl ⟨_, rfl, rfl, rfl, rfl⟩⟩⟩ ?_
  refine V.exec 400 ?_
  by_cases h1 : smallP l
  · have hl60 := h1.1
    by_cases h10 : a.length ≤ 10
    · have h10' : ¬ (10 : Int) < (a.length : Int) := by omega
      by_cases h11 : b.length ≤ 10
      · have h11' : ¬ (10 : Int) < (b.length : Int) := by omega
        simp (config := {contextual := true}) only [go_sem, ↓reduceIte, reduceCtorEq, Bool.false_eq_true, Bool.true_eq_false, Nat.reduceAdd, Nat.reduceLT, Nat.reduceEqDiff, Nat.reduceLeDiff, Nat.reduceSub, Nat.reduceMul, h1, h10', h11']
        have hcl : ∀ (x : List (List Note)), ∀ y ∈ x.map rowN, y.cells.length = 1 := fun x y hy => by
          obtain ⟨s, _, rfl⟩ := List.mem_map.1 hy
          rfl
        refine ⟨fun _ _ => rfl, ⟨by omega, by omega⟩, fun _ _ => rfl, ⟨by omega, by omega⟩, ?_⟩
        have hlb : ((a ++ b).length : Int) = (a.length : Int) + (b.length : Int) := by rw [List.length_append]; omega
        refine V.loop (fun m ls os => ∃ (i : Nat), i ≤ (a ++ b).length ∧ m = (a ++ b).length - i ∧ (∀ x ∈ (a ++ b).take i, x.length ≤ 20) ∧
            ls = [(0, .val (.row (l.map Pair.pv))), (1, .val (.int .i64 seq)), (2, .val (.row (a.map rowN))), (3, .val (.row (b.map rowN))), (41, .ref 0), (42, .val (.int .i64 (a ++ b).length)), (43, .val (.int .i64 i))] ∧ os = [.row 23 ((a ++ b).map rowN)]) 1 (a ++ b).length
          [(0, .val (.row (l.map Pair.pv))), (1, .val (.int .i64 seq)), (2, .val (.row (a.map rowN))), (3, .val (.row (b.map rowN))), (41, .ref 0), (42, .val (.int .i64 (a ++ b).length)), (43, .val (.int .i64 0))] [.row 23 ((a ++ b).map rowN)] [some 22]
          ⟨0, Nat.zero_le _, rfl, by simp, rfl, rfl⟩ (by simp only [go_sem, ↓reduceIte, reduceCtorEq, Bool.false_eq_true, Bool.true_eq_false, Nat.reduceAdd, Nat.reduceLT, Nat.reduceEqDiff, Nat.reduceLeDiff, Nat.reduceSub, Nat.reduceMul, List.map_append, List.nil_append, List.length_append, List.length_map]; try decide) ?_
        rintro m ls os ⟨i, hi, rfl, hall, rfl, rfl⟩
        refine V.exec 400 ?_
        by_cases hlt : i < (a ++ b).length
        · have hlt' : (i : Int) < ((a ++ b).length : Int) := by omega
          obtain ⟨q, hx⟩ : ∃ x, (a ++ b)[i]? = some x := ⟨_, List.getElem?_eq_getElem hlt⟩
          have hqm := List.mem_of_getElem? hx
          have hql : q.length ≤ 2 ^ 63 - 1 := by
            rcases List.mem_append.1 hqm with h | h
            · exact hba q h
            · exact hbb q h
          rw [List.length_append] at hi hlt
          have hw : IntKind.i64.wrap ((i : Int) + 1) = ((i + 1 : Nat) : Int) := by rw [wrap_small3] <;> omega
          generalize hL : a ++ b = L at *
          simp (config := {contextual := true}) only [go_sem, ↓reduceIte, reduceCtorEq, Bool.false_eq_true, Bool.true_eq_false, Nat.reduceAdd, Nat.reduceLT, Nat.reduceEqDiff, Nat.reduceLeDiff, Nat.reduceSub, Nat.reduceMul, hlt', hx, rowN]
          refine V.call rfl rfl (by simp [dOK]) ⟨10, [], by simp only [go_sem, ↓reduceIte, reduceCtorEq, Bool.false_eq_true, Bool.true_eq_false, Nat.reduceAdd, Nat.reduceLT, Nat.reduceEqDiff, Nat.reduceLeDiff, Nat.reduceSub, Nat.reduceMul], ⟨_, rfl, rfl, rfl⟩, .inl ⟨[.row (q.map Note.pv)], _, .inl (by simp only [go_sem, ↓reduceIte, reduceCtorEq, Bool.false_eq_true, Bool.true_eq_false, Nat.reduceAdd, Nat.reduceLT, Nat.reduceEqDiff, Nat.reduceLeDiff, Nat.reduceSub, Nat.reduceMul]), law17_few q (by omega), .inl ⟨_, rfl, rfl, rfl, rfl⟩⟩⟩ ?_
          refine V.exec 400 ?_
          by_cases hf : fewN q
          · have hall' : ∀ x ∈ L.take (i + 1), x.length ≤ 20 := fun x hx' => by
              rw [List.take_add_one, hx] at hx'
              rcases List.mem_append.1 hx' with hx' | hx'
              · exact hall x hx'
              · simp at hx'; subst hx'; exact hf.1
            simp (config := {contextual := true}) only [go_sem, ↓reduceIte, reduceCtorEq, Bool.false_eq_true, Bool.true_eq_false, Nat.reduceAdd, Nat.reduceLT, Nat.reduceEqDiff, Nat.reduceLeDiff, Nat.reduceSub, Nat.reduceMul, hf, hw]
            refine ⟨L.length - (i + 1), _, _, [some 0], by omega, ⟨i + 1, by omega, rfl, hall', rfl, rfl⟩, ?_⟩
            simp only [go_sem, ↓reduceIte, reduceCtorEq, Bool.false_eq_true, Bool.true_eq_false, Nat.reduceAdd, Nat.reduceLT, Nat.reduceEqDiff, Nat.reduceLeDiff, Nat.reduceSub, Nat.reduceMul, rowN]
            try decide
          · simp (config := {contextual := true}) only [go_sem, ↓reduceIte, reduceCtorEq, Bool.false_eq_true, Bool.true_eq_false, Nat.reduceAdd, Nat.reduceLT, Nat.reduceEqDiff, Nat.reduceLeDiff, Nat.reduceSub, Nat.reduceMul, hf]
            refine V.call rfl rfl (by simp [dOK]) ⟨11, [], by simp only [go_sem, ↓reduceIte, reduceCtorEq, Bool.false_eq_true, Bool.true_eq_false, Nat.reduceAdd, Nat.reduceLT, Nat.reduceEqDiff, Nat.reduceLeDiff, Nat.reduceSub, Nat.reduceMul], ⟨_, rfl, rfl, rfl⟩, .inl ⟨[], _, .inl (by simp only [go_sem, ↓reduceIte, reduceCtorEq, Bool.false_eq_true, Bool.true_eq_false, Nat.reduceAdd, Nat.reduceLT, Nat.reduceEqDiff, Nat.reduceLeDiff, Nat.reduceSub, Nat.reduceMul]), aw, .inl ⟨_, rfl, rfl, rfl, rfl⟩⟩⟩ ?_
            refine V.exec 400 ?_
            simp (config := {contextual := true}) only [go_sem, ↓reduceIte, reduceCtorEq, Bool.false_eq_true, Bool.true_eq_false, Nat.reduceAdd, Nat.reduceLT, Nat.reduceEqDiff, Nat.reduceLeDiff, Nat.reduceSub, Nat.reduceMul]
        · have hlt' : ¬ (i : Int) < ((a ++ b).length : Int) := by omega
          rw [List.take_of_length_le (by omega)] at hall
          have hba' : ∀ x ∈ a, x.length ≤ 100000 := fun x hx => Nat.le_trans (hall x (List.mem_append_left _ hx)) (by decide)
          have hbb' : ∀ x ∈ b, x.length ≤ 100000 := fun x hx => Nat.le_trans (hall x (List.mem_append_right _ hx)) (by decide)
          have c1 := batch_All l seq a (by omega) (by omega) hba' hseq
          have hlenA := allV_len l seq a
          have hsqA := allV_seq l seq a
          have herA := allV_err l seq a
          have hpt := all_parts l seq a b
          have c3 := batch_All l seq (a ++ b) (by omega) (by rw [List.length_append]; omega) (fun x hx => Nat.le_trans (hall x hx) (by decide)) hseq
          have hlenX := allV_len l seq (a ++ b)
          obtain ⟨cA, pA, mA, eA, hA⟩ : ∃ x y z u, allV l seq a = (x, y, z, u) := ⟨_, _, _, _, rfl⟩
          rw [hA] at c1 hlenA hsqA herA hpt
          simp only at c1 hlenA hsqA herA hpt
          have c2 := batch_All pA (seq + (cA.length : Int)) b (by omega) (by omega) hbb' (by omega)
          have hlenB := allV_len pA (seq + (cA.length : Int)) b
          obtain ⟨cB, pB, mB, eB, hB⟩ : ∃ x y z u, allV pA (seq + (cA.length : Int)) b = (x, y, z, u) := ⟨_, _, _, _, rfl⟩
          rw [hB] at c2 hpt hlenB
          simp only at c2 hpt hlenB
          obtain ⟨cX, pX, mX, eX, hX⟩ : ∃ x y z u, allV l seq (a ++ b) = (x, y, z, u) := ⟨_, _, _, _, rfl⟩
          rw [hX] at c3 hpt hlenX
          simp only at c3 hpt hlenX
          rw [List.length_append] at hlenX
          have hws : IntKind.i64.wrap (seq + (cA.length : Int)) = seq + (cA.length : Int) := by rw [wrap_small3] <;> omega
          simp (config := {contextual := true}) only [go_sem, ↓reduceIte, reduceCtorEq, Bool.false_eq_true, Bool.true_eq_false, Nat.reduceAdd, Nat.reduceLT, Nat.reduceEqDiff, Nat.reduceLeDiff, Nat.reduceSub, Nat.reduceMul, hlt']
          refine V.call rfl rfl (by simp [dOK]) ⟨18, [], by simp only [go_sem, ↓reduceIte, reduceCtorEq, Bool.false_eq_true, Bool.true_eq_false, Nat.reduceAdd, Nat.reduceLT, Nat.reduceEqDiff, Nat.reduceLeDiff, Nat.reduceSub, Nat.reduceMul], ⟨_, rfl, rfl, rfl⟩, .inl ⟨[.row (l.map Pair.pv), .int .i64 seq, .row (a.map rowN)], _, .inl (by simp only [go_sem, ↓reduceIte, reduceCtorEq, Bool.false_eq_true, Bool.true_eq_false, Nat.reduceAdd, Nat.reduceLT, Nat.reduceEqDiff, Nat.reduceLeDiff, Nat.reduceSub, Nat.reduceMul]), c1, .inr (.inl ⟨_, rfl, rfl, rfl⟩)⟩⟩ ?_
          refine V.exec 400 ?_
          simp (config := {contextual := true}) only [go_sem, ↓reduceIte, reduceCtorEq, Bool.false_eq_true, Bool.true_eq_false, Nat.reduceAdd, Nat.reduceLT, Nat.reduceEqDiff, Nat.reduceLeDiff, Nat.reduceSub, Nat.reduceMul, hws]
          refine V.call rfl rfl (by simp [dOK]) ⟨18, [], by simp only [go_sem, ↓reduceIte, reduceCtorEq, Bool.false_eq_true, Bool.true_eq_false, Nat.reduceAdd, Nat.reduceLT, Nat.reduceEqDiff, Nat.reduceLeDiff, Nat.reduceSub, Nat.reduceMul], ⟨_, rfl, rfl, rfl⟩, .inl ⟨[.row (pA.map Pair.pv), .int .i64 (seq + (cA.length : Int)), .row (b.map rowN)], _, .inl (by simp only [go_sem, ↓reduceIte, reduceCtorEq, Bool.false_eq_true, Bool.true_eq_false, Nat.reduceAdd, Nat.reduceLT, Nat.reduceEqDiff, Nat.reduceLeDiff, Nat.reduceSub, Nat.reduceMul]), c2, .inr (.inl ⟨_, rfl, rfl, rfl⟩)⟩⟩ ?_
          refine V.exec 400 ?_
          simp (config := {contextual := true}) only [go_sem, ↓reduceIte, reduceCtorEq, Bool.false_eq_true, Bool.true_eq_false, Nat.reduceAdd, Nat.reduceLT, Nat.reduceEqDiff, Nat.reduceLeDiff, Nat.reduceSub, Nat.reduceMul]
          refine ⟨fun _ _ => rfl, ⟨by omega, by omega⟩, fun _ _ => rfl, ⟨by omega, by omega⟩, ?_⟩
          refine V.call rfl rfl (by simp [dOK]) ⟨18, [], by simp only [go_sem, ↓reduceIte, reduceCtorEq, Bool.false_eq_true, Bool.true_eq_false, Nat.reduceAdd, Nat.reduceLT, Nat.reduceEqDiff, Nat.reduceLeDiff, Nat.reduceSub, Nat.reduceMul], ⟨_, rfl, rfl, rfl⟩, .inl ⟨[.row (l.map Pair.pv), .int .i64 seq, .row ((a ++ b).map rowN)], _, .inl (by simp only [go_sem, ↓reduceIte, reduceCtorEq, Bool.false_eq_true, Bool.true_eq_false, Nat.reduceAdd, Nat.reduceLT, Nat.reduceEqDiff, Nat.reduceLeDiff, Nat.reduceSub, Nat.reduceMul, List.map_append, List.nil_append]), c3, .inr (.inl ⟨_, rfl, rfl, rfl⟩)⟩⟩ ?_
          refine V.exec 400 ?_
          by_cases hg : eX = 0
          · have hA0 : eA = 0 := Classical.byContradiction fun h => hpt.1 h hg
            obtain ⟨g1, g2⟩ := hpt.2 hA0
            have hB0 : eB = 0 := by rw [← g1]; exact hg
            have g3 := g2 hB0
            simp only [Prod.mk.injEq] at g3
            obtain ⟨rfl, rfl, rfl, rfl⟩ := g3
            subst hA0 hB0
            simp (config := {contextual := true}) only [go_sem, ↓reduceIte, reduceCtorEq, Bool.false_eq_true, Bool.true_eq_false, Nat.reduceAdd, Nat.reduceLT, Nat.reduceEqDiff, Nat.reduceLeDiff, Nat.reduceSub, Nat.reduceMul]
            refine ⟨fun _ _ => rfl, ⟨by omega, by omega⟩, fun _ _ => rfl, ⟨by omega, by omega⟩, ?_⟩
            refine V.call rfl rfl (by simp [dOK]) ⟨16, [], by simp only [go_sem, ↓reduceIte, reduceCtorEq, Bool.false_eq_true, Bool.true_eq_false, Nat.reduceAdd, Nat.reduceLT, Nat.reduceEqDiff, Nat.reduceLeDiff, Nat.reduceSub, Nat.reduceMul], ⟨_, rfl, rfl, rfl⟩, .inl ⟨[.row ((cA ++ cB).map Change.pv), .row ((cA ++ cB).map Change.pv)], _, .inl (by simp only [go_sem, ↓reduceIte, reduceCtorEq, Bool.false_eq_true, Bool.true_eq_false, Nat.reduceAdd, Nat.reduceLT, Nat.reduceEqDiff, Nat.reduceLeDiff, Nat.reduceSub, Nat.reduceMul, List.map_append, List.nil_append]), ref13_Same (cA ++ cB) (cA ++ cB) (by rw [List.length_append]; omega), .inl ⟨_, rfl, rfl, rfl, rfl⟩⟩⟩ ?_
            refine V.exec 400 ?_
            simp (config := {contextual := true}) only [go_sem, ↓reduceIte, reduceCtorEq, Bool.false_eq_true, Bool.true_eq_false, Nat.reduceAdd, Nat.reduceLT, Nat.reduceEqDiff, Nat.reduceLeDiff, Nat.reduceSub, Nat.reduceMul, decide_true]
            refine V.call rfl rfl (by simp [dOK]) ⟨17, [], by simp only [go_sem, ↓reduceIte, reduceCtorEq, Bool.false_eq_true, Bool.true_eq_false, Nat.reduceAdd, Nat.reduceLT, Nat.reduceEqDiff, Nat.reduceLeDiff, Nat.reduceSub, Nat.reduceMul], ⟨_, rfl, rfl, rfl⟩, .inl ⟨[.row (pX.map Pair.pv), .row (pX.map Pair.pv)], _, .inl (by simp only [go_sem, ↓reduceIte, reduceCtorEq, Bool.false_eq_true, Bool.true_eq_false, Nat.reduceAdd, Nat.reduceLT, Nat.reduceEqDiff, Nat.reduceLeDiff, Nat.reduceSub, Nat.reduceMul]), ref03_Same pX pX (by omega), .inl ⟨_, rfl, rfl, rfl, rfl⟩⟩⟩ ?_
            refine V.exec 400 ?_
            simp (config := {contextual := true}) only [go_sem, ↓reduceIte, reduceCtorEq, Bool.false_eq_true, Bool.true_eq_false, Nat.reduceAdd, Nat.reduceLT, Nat.reduceEqDiff, Nat.reduceLeDiff, Nat.reduceSub, Nat.reduceMul, decide_true]
            refine ⟨fun _ _ => rfl, ⟨by omega, by omega⟩, fun _ _ => rfl, ⟨by omega, by omega⟩, ?_⟩
            refine V.call rfl rfl (by simp [dOK]) ⟨20, [], by simp only [go_sem, ↓reduceIte, reduceCtorEq, Bool.false_eq_true, Bool.true_eq_false, Nat.reduceAdd, Nat.reduceLT, Nat.reduceEqDiff, Nat.reduceLeDiff, Nat.reduceSub, Nat.reduceMul], ⟨_, rfl, rfl, rfl⟩, .inl ⟨[.row ((mA ++ mB).map pvZ), .row ((mA ++ mB).map pvZ)], _, .inl (by simp only [go_sem, ↓reduceIte, reduceCtorEq, Bool.false_eq_true, Bool.true_eq_false, Nat.reduceAdd, Nat.reduceLT, Nat.reduceEqDiff, Nat.reduceLeDiff, Nat.reduceSub, Nat.reduceMul, List.map_append, List.nil_append]), ref17_Numbers (mA ++ mB) (mA ++ mB) (by rw [List.length_append]; omega), .inl ⟨_, rfl, rfl, rfl, rfl⟩⟩⟩ ?_
            refine V.exec 400 ?_
            simp (config := {contextual := true}) only [go_sem, ↓reduceIte, reduceCtorEq, Bool.false_eq_true, Bool.true_eq_false, Nat.reduceAdd, Nat.reduceLT, Nat.reduceEqDiff, Nat.reduceLeDiff, Nat.reduceSub, Nat.reduceMul, decide_true]
            refine V.call rfl rfl (by simp [dOK]) ⟨11, [], by simp only [go_sem, ↓reduceIte, reduceCtorEq, Bool.false_eq_true, Bool.true_eq_false, Nat.reduceAdd, Nat.reduceLT, Nat.reduceEqDiff, Nat.reduceLeDiff, Nat.reduceSub, Nat.reduceMul], ⟨_, rfl, rfl, rfl⟩, .inl ⟨[], _, .inl (by simp only [go_sem, ↓reduceIte, reduceCtorEq, Bool.false_eq_true, Bool.true_eq_false, Nat.reduceAdd, Nat.reduceLT, Nat.reduceEqDiff, Nat.reduceLeDiff, Nat.reduceSub, Nat.reduceMul]), aw, .inl ⟨_, rfl, rfl, rfl, rfl⟩⟩⟩ ?_
            refine V.exec 400 ?_
            simp (config := {contextual := true}) only [go_sem, ↓reduceIte, reduceCtorEq, Bool.false_eq_true, Bool.true_eq_false, Nat.reduceAdd, Nat.reduceLT, Nat.reduceEqDiff, Nat.reduceLeDiff, Nat.reduceSub, Nat.reduceMul]
          · have : eA ≠ 0 ∨ eB ≠ 0 := by
              by_cases h : eA = 0
              · right; rw [← (hpt.2 h).1]; exact hg
              · exact .inl h
            by_cases hA0 : eA = 0
            · have hB0 : ¬ eB = 0 := this.resolve_left (fun h => h hA0)
              simp (config := {contextual := true}) only [go_sem, ↓reduceIte, reduceCtorEq, Bool.false_eq_true, Bool.true_eq_false, Nat.reduceAdd, Nat.reduceLT, Nat.reduceEqDiff, Nat.reduceLeDiff, Nat.reduceSub, Nat.reduceMul, hg, hA0, hB0]
              refine V.call rfl rfl (by simp [dOK]) ⟨11, [], by simp only [go_sem, ↓reduceIte, reduceCtorEq, Bool.false_eq_true, Bool.true_eq_false, Nat.reduceAdd, Nat.reduceLT, Nat.reduceEqDiff, Nat.reduceLeDiff, Nat.reduceSub, Nat.reduceMul], ⟨_, rfl, rfl, rfl⟩, .inl ⟨[], _, .inl (by simp only [go_sem, ↓reduceIte, reduceCtorEq, Bool.false_eq_true, Bool.true_eq_false, Nat.reduceAdd, Nat.reduceLT, Nat.reduceEqDiff, Nat.reduceLeDiff, Nat.reduceSub, Nat.reduceMul]), aw, .inl ⟨_, rfl, rfl, rfl, rfl⟩⟩⟩ ?_
              refine V.exec 400 ?_
              simp (config := {contextual := true}) only [go_sem, ↓reduceIte, reduceCtorEq, Bool.false_eq_true, Bool.true_eq_false, Nat.reduceAdd, Nat.reduceLT, Nat.reduceEqDiff, Nat.reduceLeDiff, Nat.reduceSub, Nat.reduceMul]
            · simp (config := {contextual := true}) only [go_sem, ↓reduceIte, reduceCtorEq, Bool.false_eq_true, Bool.true_eq_false, Nat.reduceAdd, Nat.reduceLT, Nat.reduceEqDiff, Nat.reduceLeDiff, Nat.reduceSub, Nat.reduceMul, hg, hA0]
              refine V.call rfl rfl (by simp [dOK]) ⟨11, [], by simp only [go_sem, ↓reduceIte, reduceCtorEq, Bool.false_eq_true, Bool.true_eq_false, Nat.reduceAdd, Nat.reduceLT, Nat.reduceEqDiff, Nat.reduceLeDiff, Nat.reduceSub, Nat.reduceMul], ⟨_, rfl, rfl, rfl⟩, .inl ⟨[], _, .inl (by simp only [go_sem, ↓reduceIte, reduceCtorEq, Bool.false_eq_true, Bool.true_eq_false, Nat.reduceAdd, Nat.reduceLT, Nat.reduceEqDiff, Nat.reduceLeDiff, Nat.reduceSub, Nat.reduceMul]), aw, .inl ⟨_, rfl, rfl, rfl, rfl⟩⟩⟩ ?_
              refine V.exec 400 ?_
              simp (config := {contextual := true}) only [go_sem, ↓reduceIte, reduceCtorEq, Bool.false_eq_true, Bool.true_eq_false, Nat.reduceAdd, Nat.reduceLT, Nat.reduceEqDiff, Nat.reduceLeDiff, Nat.reduceSub, Nat.reduceMul]
      · have h11' : (10 : Int) < (b.length : Int) := by omega
        simp (config := {contextual := true}) only [go_sem, ↓reduceIte, reduceCtorEq, Bool.false_eq_true, Bool.true_eq_false, Nat.reduceAdd, Nat.reduceLT, Nat.reduceEqDiff, Nat.reduceLeDiff, Nat.reduceSub, Nat.reduceMul, h1, h10', h11']
        refine V.call rfl rfl (by simp [dOK]) ⟨11, [], by simp only [go_sem, ↓reduceIte, reduceCtorEq, Bool.false_eq_true, Bool.true_eq_false, Nat.reduceAdd, Nat.reduceLT, Nat.reduceEqDiff, Nat.reduceLeDiff, Nat.reduceSub, Nat.reduceMul], ⟨_, rfl, rfl, rfl⟩, .inl ⟨[], _, .inl (by simp only [go_sem, ↓reduceIte, reduceCtorEq, Bool.false_eq_true, Bool.true_eq_false, Nat.reduceAdd, Nat.reduceLT, Nat.reduceEqDiff, Nat.reduceLeDiff, Nat.reduceSub, Nat.reduceMul]), aw, .inl ⟨_, rfl, rfl, rfl, rfl⟩⟩⟩ ?_
        refine V.exec 400 ?_
        simp (config := {contextual := true}) only [go_sem, ↓reduceIte, reduceCtorEq, Bool.false_eq_true, Bool.true_eq_false, Nat.reduceAdd, Nat.reduceLT, Nat.reduceEqDiff, Nat.reduceLeDiff, Nat.reduceSub, Nat.reduceMul]
    · have h10' : (10 : Int) < (a.length : Int) := by omega
      simp (config := {contextual := true}) only [go_sem, ↓reduceIte, reduceCtorEq, Bool.false_eq_true, Bool.true_eq_false, Nat.reduceAdd, Nat.reduceLT, Nat.reduceEqDiff, Nat.reduceLeDiff, Nat.reduceSub, Nat.reduceMul, h1, h10']
      refine V.call rfl rfl (by simp [dOK]) ⟨11, [], by simp only [go_sem, ↓reduceIte, reduceCtorEq, Bool.false_eq_true, Bool.true_eq_false, Nat.reduceAdd, Nat.reduceLT, Nat.reduceEqDiff, Nat.reduceLeDiff, Nat.reduceSub, Nat.reduceMul], ⟨_, rfl, rfl, rfl⟩, .inl ⟨[], _, .inl (by simp only [go_sem, ↓reduceIte, reduceCtorEq, Bool.false_eq_true, Bool.true_eq_false, Nat.reduceAdd, Nat.reduceLT, Nat.reduceEqDiff, Nat.reduceLeDiff, Nat.reduceSub, Nat.reduceMul]), aw, .inl ⟨_, rfl, rfl, rfl, rfl⟩⟩⟩ ?_
      refine V.exec 400 ?_
      simp (config := {contextual := true}) only [go_sem, ↓reduceIte, reduceCtorEq, Bool.false_eq_true, Bool.true_eq_false, Nat.reduceAdd, Nat.reduceLT, Nat.reduceEqDiff, Nat.reduceLeDiff, Nat.reduceSub, Nat.reduceMul]
  · simp (config := {contextual := true}) only [go_sem, ↓reduceIte, reduceCtorEq, Bool.false_eq_true, Bool.true_eq_false, Nat.reduceAdd, Nat.reduceLT, Nat.reduceEqDiff, Nat.reduceLeDiff, Nat.reduceSub, Nat.reduceMul, h1]
    refine V.call rfl rfl (by simp [dOK]) ⟨11, [], by simp only [go_sem, ↓reduceIte, reduceCtorEq, Bool.false_eq_true, Bool.true_eq_false, Nat.reduceAdd, Nat.reduceLT, Nat.reduceEqDiff, Nat.reduceLeDiff, Nat.reduceSub, Nat.reduceMul], ⟨_, rfl, rfl, rfl⟩, .inl ⟨[], _, .inl (by simp only [go_sem, ↓reduceIte, reduceCtorEq, Bool.false_eq_true, Bool.true_eq_false, Nat.reduceAdd, Nat.reduceLT, Nat.reduceEqDiff, Nat.reduceLeDiff, Nat.reduceSub, Nat.reduceMul]), aw, .inl ⟨_, rfl, rfl, rfl, rfl⟩⟩⟩ ?_
    refine V.exec 400 ?_
    simp (config := {contextual := true}) only [go_sem, ↓reduceIte, reduceCtorEq, Bool.false_eq_true, Bool.true_eq_false, Nat.reduceAdd, Nat.reduceLT, Nat.reduceEqDiff, Nat.reduceLeDiff, Nat.reduceSub, Nat.reduceMul]
theorem int_bot {a : Int} (w : (Lit.int .i64 a).wf = true) : -9223372036854775808 ≤ a := by
  simp only [Lit.wf, Bool.and_eq_true, decide_eq_true_eq] at w
  have e2 : IntKind.min .i64 = -9223372036854775808 := by decide
  rw [e2] at w
  exact w.1
theorem ctPartsB (xs0 : List PV) (l0 : xs0.length ≤ maxLen) (h0 : ∀ x ∈ xs0, ∃ qs, x = .agg qs ∧ qs.map PV.kd = [.str, .str] ∧ ∀ q ∈ qs, q.wfv) (a1 : Int) (w1 : (Lit.int .i64 a1).wf = true)
    (xs2 : List (List PV)) (l2 : xs2.length ≤ maxLen) (h2 : ∀ xs ∈ xs2, xs.length ≤ maxLen ∧ ∀ x ∈ xs, ∃ qs, x = .agg qs ∧ qs.map PV.kd = [.int .i64, .str, .str, .int .u64] ∧ ∀ q ∈ qs, q.wfv)
    (xs3 : List (List PV)) (l3 : xs3.length ≤ maxLen) (h3 : ∀ xs ∈ xs3, xs.length ≤ maxLen ∧ ∀ x ∈ xs, ∃ qs, x = .agg qs ∧ qs.map PV.kd = [.int .i64, .str, .str, .int .u64] ∧ ∀ q ∈ qs, q.wfv) :
    Ct Try.prog 5 (YtglpemnejngkaaaVm.ops [.row xs0, .int .i64 a1, .row (xs2.map PV.row), .row (xs3.map PV.row)]) (.vals [.bool true]) := by
  obtain ⟨l, rfl⟩ := pair_of xs0 h0
  obtain ⟨a, ha, hal, hab⟩ := notes_rows xs2 h2
  obtain ⟨b, hb, hbl, hbb⟩ := notes_rows xs3 h3
  rw [ha, hb]
  exact law_PartsB l a1 a b (by simpa using l0) (by rw [hal]; exact l2) (by rw [hbl]; exact l3) hab hbb (int_bot w1) (int_top w1)
end Go.Proofs.Ytglpemnejngkaaa
set_option linter.unusedVariables false
set_option linter.unusedSimpArgs false
namespace Go.Proofs.Ytglpemnejngkaaa
open Go Go.Proofs Go.Proofs.YtglpemnejngkaaaVm Go.Proofs.Ytglpemnejngkaaa.Ty

def turnC (c : Change) : Change := ⟨c.seq, c.key, c.has, c.aft, c.had, c.bef⟩

set_option maxHeartbeats 4000000 in
theorem change_turned (c : Change) : Ct Try.prog 41 (YtglpemnejngkaaaVm.ops [c.pv]) (.vals [(turnC c).pv]) := by
  refine Ct.of_V Try.func41 rfl (by simp [YtglpemnejngkaaaVm.ops, Try.f41]) ?_
  refine V.exec 400 ?_
  simp (config := {contextual := true}) only [go_sem, ↓reduceIte, reduceCtorEq, Bool.false_eq_true, Bool.true_eq_false, Nat.reduceAdd, Nat.reduceLT, Nat.reduceEqDiff, Nat.reduceLeDiff, Nat.reduceSub, Nat.reduceMul, Try.f41, Change.pv, turnC]
  rfl

theorem Backward (xs : List PV) : Ct Try.prog 40 (YtglpemnejngkaaaVm.ops [.row xs]) (.vals [.fn 54 [.ptr (.row xs)]]) := by
  refine Ct.of_V Try.func40 rfl (by simp [YtglpemnejngkaaaVm.ops, Try.f40]) ?_
  refine V.exec 400 ?_
  simp (config := {contextual := true}) only [go_sem, ↓reduceIte, reduceCtorEq, Bool.false_eq_true, Bool.true_eq_false, Nat.reduceAdd, Nat.reduceLT, Nat.reduceEqDiff, Nat.reduceLeDiff, Nat.reduceSub, Nat.reduceMul, Try.f40]

def undoV (l : List Pair) (cs : List Change) : List Pair × Int := doV l (cs.reverse.map turnC)

/-- What has been put behind, when k rounds are over. -/
def backs (cs : List Change) (k : Nat) : List Change := (cs.reverse.take k).map turnC
theorem backs_succ (cs : List Change) (k : Nat) {x : Change} (h : cs[cs.length - 1 - k]? = some x) (hk : k < cs.length) : backs cs (k + 1) = backs cs k ++ [turnC x] := by
  unfold backs
  have : cs.reverse[k]? = some x := by rw [List.getElem?_reverse hk]; exact h
  rw [List.take_add_one, this]; simp
theorem backs_all (cs : List Change) : backs cs cs.length = cs.reverse.map turnC := by unfold backs; rw [List.take_of_length_le (by simp)]

theorem backs_zero (cs : List Change) : backs cs 0 = [] := rfl

def undoOs (cs : List Change) (k : Nat) : List Ob := [.box false [.ref 1], .row 55 ((backs cs k).map Change.pv)]

set_option maxRecDepth 10000 in
set_option maxHeartbeats 16000000 in
theorem change_Undo (l : List Pair) (cs : List Change) (hl : l.length ≤ 200000) (hn : cs.length ≤ 200000) : Ct Try.prog 24 (YtglpemnejngkaaaVm.ops [.row (l.map Pair.pv), .row (cs.map Change.pv)]) (.vals [.row ((undoV l cs).1.map Pair.pv), .int .i64 (undoV l cs).2]) := by
  refine Ct.of_V Try.func24 rfl (by simp [YtglpemnejngkaaaVm.ops, Try.f24]) ?_
  refine V.exec 400 ?_
  simp (config := {contextual := true}) only [go_sem, ↓reduceIte, reduceCtorEq, Bool.false_eq_true, Bool.true_eq_false, Nat.reduceAdd, Nat.reduceLT, Nat.reduceEqDiff, Nat.reduceLeDiff, Nat.reduceSub, Nat.reduceMul, Try.f24]
  refine V.call rfl rfl (by simp [dOK]) ⟨40, [], by simp only [go_sem, ↓reduceIte, reduceCtorEq, Bool.false_eq_true, Bool.true_eq_false, Nat.reduceAdd, Nat.reduceLT, Nat.reduceEqDiff, Nat.reduceLeDiff, Nat.reduceSub, Nat.reduceMul], ⟨_, rfl, rfl, rfl⟩, .inl ⟨[.row (cs.map Change.pv)], _, .inl (by simp only [go_sem, ↓reduceIte, reduceCtorEq, Bool.false_eq_true, Bool.true_eq_false, Nat.reduceAdd, Nat.reduceLT, Nat.reduceEqDiff, Nat.reduceLeDiff, Nat.reduceSub, Nat.reduceMul]), Backward (cs.map Change.pv), .inr (.inl ⟨_, rfl, rfl, rfl⟩)⟩⟩ ?_
  refine V.exec 400 ?_
  simp (config := {contextual := true}) only [go_sem, ↓reduceIte, reduceCtorEq, Bool.false_eq_true, Bool.true_eq_false, Nat.reduceAdd, Nat.reduceLT, Nat.reduceEqDiff, Nat.reduceLeDiff, Nat.reduceSub, Nat.reduceMul]
  refine V.cut 0 [(0, .val (.row (l.map Pair.pv))), (6, .adr 0 0), (10, .val (.fn 54 [.ptr (.row (cs.map Change.pv))]))] (undoOs cs 0) [some 4, none] (by simp only [go_sem, ↓reduceIte, reduceCtorEq, Bool.false_eq_true, Bool.true_eq_false, Nat.reduceAdd, Nat.reduceLT, Nat.reduceEqDiff, Nat.reduceLeDiff, Nat.reduceSub, Nat.reduceMul, undoOs, backs_zero, List.map_nil]; exact ⟨_, rfl, by decide⟩) ?_
  refine V.sem _ (SemCode.rangeL (x0 := .ptr (.row (cs.map Change.pv))) (fun i => i = 0) (fun ob => ob = (litSt [] (undoOs cs cs.length) 0).ob) (by simp only [go_sem, ↓reduceIte, reduceCtorEq, Bool.false_eq_true, Bool.true_eq_false, Nat.reduceAdd, Nat.reduceLT, Nat.reduceEqDiff, Nat.reduceLeDiff, Nat.reduceSub, Nat.reduceMul]) ⟨_, rfl, rfl, rfl⟩ Try.func54 rfl rfl (by simp [Try.f54]) (by decide) (by decide) ?_ ?_ 0 ?_) ?_
  · intro x hx i hi
    simp only [List.mem_cons, List.not_mem_nil, or_false] at hx
    rcases hx with rfl | rfl | rfl
    · exact hi.elim
    · exact hi.symm
    · exact hi.elim
  · rintro i rfl
    simp [litSt, undoOs]
  · intro rl rec md h1 h2 h3 h4 h5 h6 h7 h8 hYK
    refine V.exec 400 ?_
    have hw0 : IntKind.i64.wrap ((cs.length : Int) - 1) = (cs.length : Int) - 1 := by rw [wrap_small3] <;> omega
    simp (config := {contextual := true}) only [go_sem, ↓reduceIte, reduceCtorEq, Bool.false_eq_true, Bool.true_eq_false, Nat.reduceAdd, Nat.reduceLT, Nat.reduceEqDiff, Nat.reduceLeDiff, Nat.reduceSub, Nat.reduceMul, Try.f54, exec_retg, h8, hw0]
    refine V.lp (fun m σ => ∃ k, k ≤ cs.length ∧ m = cs.length - k ∧ σ.sl 0 = .val (.yld rl) ∧ σ.sl 1 = .val (.ptr (.row (cs.map Change.pv))) ∧ σ.sl 3 = .val (.int .i64 ((cs.length : Int) - 1 - k)) ∧ σ.ob = (litSt [] (undoOs cs k) 0).ob) cs.length ⟨0, Nat.zero_le _, rfl, by simp only [go_sem, ↓reduceIte, reduceCtorEq, Bool.false_eq_true, Bool.true_eq_false, Nat.reduceAdd, Nat.reduceLT, Nat.reduceEqDiff, Nat.reduceLeDiff, Nat.reduceSub, Nat.reduceMul], by simp only [go_sem, ↓reduceIte, reduceCtorEq, Bool.false_eq_true, Bool.true_eq_false, Nat.reduceAdd, Nat.reduceLT, Nat.reduceEqDiff, Nat.reduceLeDiff, Nat.reduceSub, Nat.reduceMul], by simp only [go_sem, ↓reduceIte, reduceCtorEq, Bool.false_eq_true, Bool.true_eq_false, Nat.reduceAdd, Nat.reduceLT, Nat.reduceEqDiff, Nat.reduceLeDiff, Nat.reduceSub, Nat.reduceMul, Int.sub_zero, Int.natCast_zero], rfl⟩ ?_
    rintro m σ ⟨k, hk, rfl, s0, s1, s3, so⟩
    refine V.exec 400 ?_
    by_cases hlt : k < cs.length
    · have hge : (0 : Int) ≤ (cs.length : Int) - 1 - k := by omega
      have hnat : ((cs.length : Int) - 1 - k).toNat = cs.length - 1 - k := by omega
      obtain ⟨x, hx⟩ : ∃ x, cs[cs.length - 1 - k]? = some x := ⟨_, List.getElem?_eq_getElem (by omega)⟩
      have hbs : (backs cs (k + 1)).map Change.pv = (backs cs k).map Change.pv ++ [(turnC x).pv] := by rw [backs_succ cs k hx hlt]; simp
      have hround : V .rnd Try.prog 23 (fun _ => False) [.code rec.assign, .stop (fun τ1 => V .rnd Try.prog 23 (fun τ => τ.ob 0 = .box false [.ref 106] ∧ τ.ob 106 = .row 55 ((backs cs (k + 1)).map Change.pv)) [.code rec.body] τ1)]
          (roundSt (litSt [(0, .val (.row (l.map Pair.pv))), (6, .adr 0 0), (10, .val (.fn 54 [.ptr (.row (cs.map Change.pv))]))] (undoOs cs 0) 0) 11 12 (.int .i64 ((cs.length : Int) - 1 - k)) x.pv σ.ob 100) := by
        rw [roundSt_lit _ _ _ _ _ _ _ _ (undoOs cs k) so, h5, h6]
        refine V.exec 400 ?_
        simp (config := {contextual := true}) only [go_sem, ↓reduceIte, reduceCtorEq, Bool.false_eq_true, Bool.true_eq_false, Nat.reduceAdd, Nat.reduceLT, Nat.reduceEqDiff, Nat.reduceLeDiff, Nat.reduceSub, Nat.reduceMul, undoOs, Change.pv]
        refine V.exec 400 ?_
        simp (config := {contextual := true}) only [go_sem, ↓reduceIte, reduceCtorEq, Bool.false_eq_true, Bool.true_eq_false, Nat.reduceAdd, Nat.reduceLT, Nat.reduceEqDiff, Nat.reduceLeDiff, Nat.reduceSub, Nat.reduceMul, Change.pv]
        refine DV.call [] [] (by simp only [go_sem, ↓reduceIte, reduceCtorEq, Bool.false_eq_true, Bool.true_eq_false, Nat.reduceAdd, Nat.reduceLT, Nat.reduceEqDiff, Nat.reduceLeDiff, Nat.reduceSub, Nat.reduceMul, Change.pv]) (by simp [dOK]) ⟨41, [], by simp only [go_sem, ↓reduceIte, reduceCtorEq, Bool.false_eq_true, Bool.true_eq_false, Nat.reduceAdd, Nat.reduceLT, Nat.reduceEqDiff, Nat.reduceLeDiff, Nat.reduceSub, Nat.reduceMul, Change.pv], ⟨_, rfl, rfl, rfl⟩, .inl ⟨[x.pv], _, .inl (by simp only [go_sem, ↓reduceIte, reduceCtorEq, Bool.false_eq_true, Bool.true_eq_false, Nat.reduceAdd, Nat.reduceLT, Nat.reduceEqDiff, Nat.reduceLeDiff, Nat.reduceSub, Nat.reduceMul, Change.pv]), change_turned x, .inr (.inl ⟨_, rfl, rfl, rfl⟩)⟩⟩ (by simp only [go_sem, ↓reduceIte, reduceCtorEq, Bool.false_eq_true, Bool.true_eq_false, Nat.reduceAdd, Nat.reduceLT, Nat.reduceEqDiff, Nat.reduceLeDiff, Nat.reduceSub, Nat.reduceMul, Change.pv]) (by simp only [go_sem, ↓reduceIte, reduceCtorEq, Bool.false_eq_true, Bool.true_eq_false, Nat.reduceAdd, Nat.reduceLT, Nat.reduceEqDiff, Nat.reduceLeDiff, Nat.reduceSub, Nat.reduceMul, Change.pv]) (by simp only [go_sem, ↓reduceIte, reduceCtorEq, Bool.false_eq_true, Bool.true_eq_false, Nat.reduceAdd, Nat.reduceLT, Nat.reduceEqDiff, Nat.reduceLeDiff, Nat.reduceSub, Nat.reduceMul, Change.pv]) (by simp) ?_
        refine DV.exec 400 ?_
        simp (config := {contextual := true}) only [go_sem, ↓reduceIte, reduceCtorEq, Bool.false_eq_true, Bool.true_eq_false, Nat.reduceAdd, Nat.reduceLT, Nat.reduceEqDiff, Nat.reduceLeDiff, Nat.reduceSub, Nat.reduceMul, Change.pv, turnC, hbs]
        have hbl : (backs cs k).length ≤ 200000 := by unfold backs; simp; omega
        exact ⟨⟨by omega, by omega⟩, by kernel_rfl⟩
      have hw1 : IntKind.i64.wrap ((cs.length : Int) - 1 - k - 1) = (cs.length : Int) - 1 - ((k + 1 : Nat) : Int) := by rw [wrap_small3] <;> omega
      simp (config := {contextual := true}) only [go_sem, ↓reduceIte, reduceCtorEq, Bool.false_eq_true, Bool.true_eq_false, Nat.reduceAdd, Nat.reduceLT, Nat.reduceEqDiff, Nat.reduceLeDiff, Nat.reduceSub, Nat.reduceMul, s0, s1, s3, hge, hnat, hx, Change.pv]
      simp only [Change.pv] at hround
      refine V.sop (J := fun σ' => V md _ _ _ _ σ') (SemOp.yield hYK h1 h2 h3 h4 (by decide) (by decide) rfl rfl (by simp only [go_sem, ↓reduceIte, reduceCtorEq, Bool.false_eq_true, Bool.true_eq_false, Nat.reduceAdd, Nat.reduceLT, Nat.reduceEqDiff, Nat.reduceLeDiff, Nat.reduceSub, Nat.reduceMul]) (by simp only [go_sem, ↓reduceIte, reduceCtorEq, Bool.false_eq_true, Bool.true_eq_false, Nat.reduceAdd, Nat.reduceLT, Nat.reduceEqDiff, Nat.reduceLeDiff, Nat.reduceSub, Nat.reduceMul]) (by simp only [go_sem, ↓reduceIte, reduceCtorEq, Bool.false_eq_true, Bool.true_eq_false, Nat.reduceAdd, Nat.reduceLT, Nat.reduceEqDiff, Nat.reduceLeDiff, Nat.reduceSub, Nat.reduceMul]) (by simp [dOK]) 100 hround (fun _ h => h) 0 ?_) (fun _ h => h)
      rintro ⟨sl2, ob2, ck2⟩ ⟨o1, o2⟩
      have o1 : ob2 0 = _ := o1
      have o2 : ob2 106 = _ := o2
      refine ⟨[(0, .val (.yld rl)), (1, .val (.ptr (.row (cs.map Change.pv)))), (3, .val (.int .i64 ((cs.length : Int) - 1 - k))), (17, .val (.bool true))], undoOs cs (k + 1), [some 0, some 106], 0, ?_, ?_, ?_⟩
      · simp only [go_sem, ↓reduceIte, reduceCtorEq, Bool.false_eq_true, Bool.true_eq_false, Nat.reduceAdd, Nat.reduceLT, Nat.reduceEqDiff, Nat.reduceLeDiff, Nat.reduceSub, Nat.reduceMul, s0, s1, s3, o1, o2, undoOs]
        decide
      · rintro i rfl; rfl
      · refine V.exec 400 ?_
        simp (config := {contextual := true}) only [go_sem, ↓reduceIte, reduceCtorEq, Bool.false_eq_true, Bool.true_eq_false, Nat.reduceAdd, Nat.reduceLT, Nat.reduceEqDiff, Nat.reduceLeDiff, Nat.reduceSub, Nat.reduceMul, hw1]
        exact ⟨cs.length - (k + 1), by omega, k + 1, by omega, rfl, rfl, rfl⟩
    · have hge : ¬ (0 : Int) ≤ (cs.length : Int) - 1 - k := by omega
      obtain rfl : k = cs.length := by omega
      simp (config := {contextual := true}) only [go_sem, ↓reduceIte, reduceCtorEq, Bool.false_eq_true, Bool.true_eq_false, Nat.reduceAdd, Nat.reduceLT, Nat.reduceEqDiff, Nat.reduceLeDiff, Nat.reduceSub, Nat.reduceMul, s0, s1, s3, hge]
      exact so
  · rintro ⟨sl, ob, ck⟩ ⟨hs, ho⟩
    have hs : sl = _ := hs
    have ho : ob = _ := ho
    subst hs ho
    show V _ _ _ _ _ (litSt [(0, .val (.row (l.map Pair.pv))), (6, .adr 0 0), (10, .val (.fn 54 [.ptr (.row (cs.map Change.pv))]))] (undoOs cs cs.length) ck)
    refine V.cut 10 [(0, .val (.row (l.map Pair.pv))), (6, .adr 0 0)] [.box false [.ref 1], .row 55 ((cs.reverse.map turnC).map Change.pv)] [some 0, some 1] (by simp only [go_sem, ↓reduceIte, reduceCtorEq, Bool.false_eq_true, Bool.true_eq_false, Nat.reduceAdd, Nat.reduceLT, Nat.reduceEqDiff, Nat.reduceLeDiff, Nat.reduceSub, Nat.reduceMul, undoOs, backs_all]; decide) ?_
    refine V.exec 400 ?_
    simp (config := {contextual := true}) only [go_sem, ↓reduceIte, reduceCtorEq, Bool.false_eq_true, Bool.true_eq_false, Nat.reduceAdd, Nat.reduceLT, Nat.reduceEqDiff, Nat.reduceLeDiff, Nat.reduceSub, Nat.reduceMul]
    refine V.call rfl rfl (by simp [dOK]) ⟨23, [], by simp only [go_sem, ↓reduceIte, reduceCtorEq, Bool.false_eq_true, Bool.true_eq_false, Nat.reduceAdd, Nat.reduceLT, Nat.reduceEqDiff, Nat.reduceLeDiff, Nat.reduceSub, Nat.reduceMul], ⟨_, rfl, rfl, rfl⟩, .inl ⟨[.row (l.map Pair.pv), .row ((cs.reverse.map turnC).map Change.pv)], _, .inl (by simp only [go_sem, ↓reduceIte, reduceCtorEq, Bool.false_eq_true, Bool.true_eq_false, Nat.reduceAdd, Nat.reduceLT, Nat.reduceEqDiff, Nat.reduceLeDiff, Nat.reduceSub, Nat.reduceMul]), change_Do l (cs.reverse.map turnC) hl (by simpa using hn), .inr (.inl ⟨_, rfl, rfl, rfl⟩)⟩⟩ ?_
    refine V.exec 400 ?_
    simp (config := {contextual := true}) only [go_sem, ↓reduceIte, reduceCtorEq, Bool.false_eq_true, Bool.true_eq_false, Nat.reduceAdd, Nat.reduceLT, Nat.reduceEqDiff, Nat.reduceLeDiff, Nat.reduceSub, Nat.reduceMul, undoV]
end Go.Proofs.Ytglpemnejngkaaa
set_option linter.unusedVariables false
set_option linter.unusedSimpArgs false
namespace Go.Proofs.Ytglpemnejngkaaa
open Go Go.Proofs Go.Proofs.YtglpemnejngkaaaVm Go.Proofs.Ytglpemnejngkaaa.Ty

def joinOk (a b : Change) : Prop := a.ok ∧ b.ok ∧ a.key = b.key ∧ a.seq < b.seq ∧ a.aft = b.bef ∧ a.has = b.had
instance instJoinOk (a b : Change) : Decidable (joinOk a b) := by unfold joinOk; infer_instance
def joinV (a b : Change) : Change × Int := if joinOk a b then madeV b.seq b.key (a.bef, a.had) (b.aft, b.has) else (Change.zero, 1)

end Go.Proofs.Ytglpemnejngkaaa
set_option linter.unusedVariables false
set_option linter.unusedSimpArgs false
namespace Go.Proofs.Ytglpemnejngkaaa
open Go Go.Proofs Go.Proofs.YtglpemnejngkaaaVm Go.Proofs.Ytglpemnejngkaaa.Ty

/-- Do pairs have a key just so? -/
def fitsP (l : List Pair) (k : List UInt8) (has : Bool) (v : List UInt8) : Prop := match getL l k with
  | some p => has = true ∧ p.value = v
  | none => has = false
instance instFitsP (l : List Pair) (k : List UInt8) (has : Bool) (v : List UInt8) : Decidable (fitsP l k has v) := by unfold fitsP; split <;> infer_instance

/-- Pairs with a key just so. -/
def insR (k v : List UInt8) : List Pair → List Pair
  | [] => [⟨k, v⟩]
  | p :: r => if slt p.key k then p :: insR k v r else ⟨k, v⟩ :: (p :: r).filter (fun p => decide (¬ p.key = k))
def setR (l : List Pair) (k : List UInt8) (has : Bool) (v : List UInt8) : List Pair := if has = true then insR k v l else l.filter (fun p => decide (¬ p.key = k))
def restR (d : Bool) (k v : List UInt8) (l : List Pair) : List Pair := if d = true then l.filter (fun p => decide (¬ p.key = k)) else insR k v l

theorem restR_len (d : Bool) (k v : List UInt8) : ∀ l : List Pair, (restR d k v l).length ≤ l.length + 1
  | [] => by cases d <;> simp [restR, insR]
  | p :: r => by
    have ih := restR_len d k v r
    unfold restR at *
    cases d with
    | true =>
      have h := List.length_filter_le (fun p => decide (¬ p.key = k)) (p :: r)
      rw [if_pos rfl]; omega
    | false =>
      rw [if_neg (by decide)] at *
      unfold insR
      split
      · simp only [List.length_cons]; omega
      · have h := List.length_filter_le (fun p => decide (¬ p.key = k)) (p :: r)
        simp only [List.length_cons] at *; omega

end Go.Proofs.Ytglpemnejngkaaa
set_option linter.unusedVariables false
set_option linter.unusedSimpArgs false
namespace Go.Proofs.Ytglpemnejngkaaa
open Go Go.Proofs Go.Proofs.YtglpemnejngkaaaVm Go.Proofs.Ytglpemnejngkaaa.Ty

theorem insR_mem {k v : List UInt8} : ∀ (l : List Pair), Sorted l → ∀ p, p ∈ insR k v l ↔ p = ⟨k, v⟩ ∨ (p ∈ l ∧ p.key ≠ k)
  | [], _, p => by simp [insR]
  | q :: r, hs, p => by
    have hs' := hs
    cases hs with
    | cons h1 h2 =>
      have ih := insR_mem (k := k) (v := v) r h2 p
      unfold insR
      split
      · rename_i hq
        have hne : q.key ≠ k := fun e => slt_irrefl k (by rw [e] at hq; exact hq)
        rw [List.mem_cons, ih, List.mem_cons]
        constructor
        · rintro (rfl | h | h)
          · exact .inr ⟨.inl rfl, hne⟩
          · exact .inl h
          · exact .inr ⟨.inr h.1, h.2⟩
        · rintro (h | ⟨rfl | h, h3⟩)
          · exact .inr (.inl h)
          · exact .inl rfl
          · exact .inr (.inr ⟨h, h3⟩)
      · rw [List.mem_cons, List.mem_filter]
        simp
theorem insR_sorted {k v : List UInt8} : ∀ (l : List Pair), Sorted l → Sorted (insR k v l)
  | [], _ => List.pairwise_singleton _ _
  | q :: r, hs => by
    have hs' := hs
    cases hs with
    | cons h1 h2 =>
      have ih := insR_sorted (k := k) (v := v) r h2
      unfold insR
      split
      · rename_i hq
        refine List.pairwise_cons.2 ⟨fun p hp => ?_, ih⟩
        rcases (insR_mem r h2 p).1 hp with rfl | hp
        · exact hq
        · exact h1 p hp.1
      · rename_i hq
        refine List.pairwise_cons.2 ⟨fun p hp => ?_, hs'.filter _⟩
        rw [List.mem_filter] at hp
        have hne : p.key ≠ k := by simpa using hp.2
        rcases slt_total k p.key with h | h | h
        · exact h
        · exact absurd h.symm hne
        · exfalso
          rcases List.mem_cons.1 hp.1 with rfl | hm
          · exact hq h
          · exact hq (slt_trans (h1 p hm) h)
theorem setR_sorted {l : List Pair} (hs : Sorted l) (k : List UInt8) (has : Bool) (v : List UInt8) : Sorted (setR l k has v) := by
  unfold setR; split
  · exact insR_sorted l hs
  · exact hs.filter _
theorem setR_val {l : List Pair} (hs : Sorted l) (k : List UInt8) (has : Bool) (v : List UInt8) (k' : List UInt8) : val (setR l k has v) k' = if k' = k then (if has = true then some v else none) else val l k' := by
  apply Option.ext
  intro w
  rw [val_iff (setR_sorted hs k has v)]
  unfold setR
  cases has with
  | true =>
    rw [if_pos rfl, insR_mem l hs]
    by_cases hk : k' = k
    · subst hk; simp [eq_comm]
    · rw [if_neg hk, val_iff hs]; simp [hk]
  | false =>
    rw [if_neg (by decide), List.mem_filter]
    by_cases hk : k' = k
    · subst hk; simp
    · rw [if_neg hk, val_iff hs]; simp [hk]
/-- What a change makes of pairs. -/
theorem setR_note {l : List Pair} (hs : Sorted l) (c : Change) : setR l c.key c.has c.aft = oneV l (noteC c) := by
  refine val_ext (setR_sorted hs _ _ _) (oneV_sorted hs _) fun k => ?_
  rw [setR_val hs, oneV_val hs, noteC_key]
  split
  · unfold noteC
    split
    · rw [stepO_put _ rfl]
    · rw [stepO_del _ rfl]
  · rfl
theorem setR_len (l : List Pair) (k : List UInt8) (has : Bool) (v : List UInt8) : (setR l k has v).length ≤ l.length + 1 := by
  have := restR_len (!has) k v l
  cases has <;> exact this
theorem fits_iff {l : List Pair} (h : pairsOk l) {c : Change} (hc : c.ok) : fitsP l c.key c.had c.bef ↔ fitC l c := by
  unfold fitsP fitC getV
  rw [if_pos h]
  cases getL l c.key with
  | none =>
    simp only [Prod.mk.injEq]
    constructor
    · intro h1
      rcases hc.2.2.2.2.2.1 with h2 | h2
      · rw [h1] at h2; cases h2
      · exact ⟨h2.symm, h1.symm⟩
    · rintro ⟨_, h2⟩; exact h2.symm
  | some p =>
    simp only [Prod.mk.injEq]
    constructor
    · rintro ⟨h1, h2⟩; exact ⟨h2, h1.symm⟩
    · rintro ⟨h1, h2⟩; exact ⟨h2.symm, h1⟩
theorem turn_ok (c : Change) : (turnC c).ok ↔ c.ok := by
  unfold Change.ok turnC
  simp only
  grind

end Go.Proofs.Ytglpemnejngkaaa
set_option linter.unusedVariables false
set_option linter.unusedSimpArgs false
namespace Go.Proofs.Ytglpemnejngkaaa
open Go Go.Proofs Go.Proofs.YtglpemnejngkaaaVm

theorem turn_turn (c : Change) : turnC (turnC c) = c := rfl
theorem turn_key (c : Change) : (turnC c).key = c.key := rfl
theorem val_note {l : List Pair} (hs : Sorted l) (c : Change) (k : List UInt8) : val (oneV l (noteC c)) k = if k = c.key then (if c.has = true then some c.aft else none) else val l k := by
  rw [← setR_note hs, setR_val hs]
theorem fitC_val {l : List Pair} (h : pairsOk l) {c : Change} (hc : c.ok) : fitC l c ↔ val l c.key = (if c.had = true then some c.bef else none) := by
  unfold fitC
  rw [getV_val h]
  cases hv : val l c.key with
  | none =>
    simp only [Prod.mk.injEq]
    cases hh : c.had with
    | true => simp
    | false =>
      have := hc.2.2.2.2.2.1
      rw [hh] at this
      simp at this
      simp [this]
  | some v =>
    simp only [Prod.mk.injEq]
    cases hh : c.had with
    | true => simp
    | false => simp
theorem doGo_app : ∀ (xs ys : List Change) (l : List Pair), doGo l (xs ++ ys) = (doGo l xs).bind fun p => doGo p ys
  | [], _, _ => rfl
  | c :: r, ys, l => by
    simp only [List.cons_append, doGo]
    split
    · exact doGo_app r ys _
    · rfl
theorem doGo_ok : ∀ (cs : List Change) {l a : List Pair}, pairsOk l → doGo l cs = some a → pairsOk a ∧ ∀ c ∈ cs, c.ok
  | [], l, a, h, e => by cases e; exact ⟨h, by simp⟩
  | c :: r, l, a, h, e => by
    simp only [doGo] at e
    split at e
    · rename_i hc
      have ih := doGo_ok r (oneV_pairsOk h (noteC_ok hc.1)) e
      exact ⟨ih.1, fun x hx => by
        rcases List.mem_cons.1 hx with rfl | hx
        · exact hc.1
        · exact ih.2 x hx⟩
    · cases e
theorem turn_fit {l : List Pair} (h : pairsOk l) {c : Change} (hc : c.ok) : fitC (oneV l (noteC c)) (turnC c) := by
  have hp := oneV_pairsOk h (noteC_ok hc)
  rw [fitC_val hp ((turn_ok c).2 hc), turn_key, val_note ((pairsOk_iff l).1 h).1, if_pos rfl]
  rfl
theorem turn_back {l : List Pair} (h : pairsOk l) {c : Change} (hc : c.ok) (hf : fitC l c) : oneV (oneV l (noteC c)) (noteC (turnC c)) = l := by
  have hs := ((pairsOk_iff l).1 h).1
  have hp := oneV_pairsOk h (noteC_ok hc)
  have hsp := ((pairsOk_iff _).1 hp).1
  refine val_ext (oneV_sorted hsp _) hs fun k => ?_
  rw [val_note hsp, turn_key]
  split
  · rename_i e
    rw [e, (fitC_val h hc).1 hf]; rfl
  · rename_i hk
    rw [val_note hs, if_neg hk]
theorem doGo_undo : ∀ (cs : List Change) {l a : List Pair}, pairsOk l → doGo l cs = some a → doGo a (cs.reverse.map turnC) = some l
  | [], l, a, h, e => by cases e; rfl
  | c :: r, l, a, h, e => by
    simp only [doGo] at e
    split at e
    · rename_i hc
      have ih := doGo_undo r (oneV_pairsOk h (noteC_ok hc.1)) e
      rw [List.reverse_cons, List.map_append, doGo_app, ih, Option.bind_some]
      simp only [List.map_cons, List.map_nil, doGo]
      rw [if_pos ⟨(turn_ok c).2 hc.1, turn_fit h hc.1⟩, turn_back h hc.1 hc.2]
    · cases e
theorem doV_zero {l a : List Pair} {cs : List Change} : doV l cs = (a, 0) ↔ pairsOk l ∧ doGo l cs = some a := by
  unfold doV
  split
  · rename_i h
    cases hg : doGo l cs with
    | none => simp
    | some q => simp [h]
  · rename_i h
    simp [h]
theorem doV_err {l : List Pair} {cs : List Change} (h : (doV l cs).2 ≠ 0) : doV l cs = (l, 1) := by
  unfold doV at *
  split at h
  · rename_i hp
    cases hg : doGo l cs with
    | none => simp [hp]
    | some q => rw [hg] at h; exact absurd rfl h
  · rename_i hp; simp [hp]
theorem doV_cases (l : List Pair) (cs : List Change) : (∃ a, doV l cs = (a, 0)) ∨ doV l cs = (l, 1) := by
  by_cases h : (doV l cs).2 = 0
  · exact .inl ⟨(doV l cs).1, by rw [← h]⟩
  · exact .inr (doV_err h)
theorem do_undo {l a : List Pair} {cs : List Change} (h : doV l cs = (a, 0)) : undoV a cs = (l, 0) ∧ pairsOk a := by
  obtain ⟨h1, h2⟩ := doV_zero.1 h
  have h3 := (doGo_ok cs h1 h2).1
  exact ⟨doV_zero.2 ⟨h3, doGo_undo cs h1 h2⟩, h3⟩
theorem undo_do {l a : List Pair} {cs : List Change} (h : undoV l cs = (a, 0)) : doV a cs = (l, 0) ∧ pairsOk a := by
  have := do_undo (cs := cs.reverse.map turnC) h
  unfold undoV at this
  rw [← List.map_reverse, List.reverse_reverse, List.map_map] at this
  have e : cs.map (turnC ∘ turnC) = cs := by
    have : (turnC ∘ turnC) = id := funext fun c => rfl
    rw [this, List.map_id]
  rw [e] at this
  exact this
theorem oneV_grow {l : List Pair} (h : pairsOk l) (n : Note) : (oneV l n).length ≤ l.length + 1 := oneV_len ((pairsOk_iff l).1 h).1 n
theorem doGo_len : ∀ (cs : List Change) {l a : List Pair}, pairsOk l → doGo l cs = some a → a.length ≤ l.length + cs.length
  | [], l, a, h, e => by cases e; exact Nat.le_refl _
  | c :: r, l, a, h, e => by
    simp only [doGo] at e
    split at e
    · rename_i hc
      have h1 := doGo_len r (oneV_pairsOk h (noteC_ok hc.1)) e
      have h2 := oneV_grow h (noteC c)
      simp only [List.length_cons]; omega
    · cases e
theorem doV_len (l : List Pair) (cs : List Change) : (doV l cs).1.length ≤ l.length + cs.length := by
  rcases doV_cases l cs with ⟨a, h⟩ | h
  · obtain ⟨h1, h2⟩ := doV_zero.1 h
    rw [h]; exact doGo_len cs h1 h2
  · rw [h]; simp
theorem undoV_len (l : List Pair) (cs : List Change) : (undoV l cs).1.length ≤ l.length + cs.length := by
  have := doV_len l (cs.reverse.map turnC)
  simpa [undoV] using this
/-- What is joined. -/
def joinC (a b : Change) : Change := ⟨b.seq, b.key, a.had, a.bef, b.has, b.aft⟩
theorem joinV_cases (a b : Change) : (joinV a b = (joinC a b, 0) ∧ joinOk a b ∧ ¬ (a.had = false ∧ b.has = false)) ∨ (joinV a b = (Change.zero, 3) ∧ joinOk a b ∧ a.had = false ∧ b.has = false) ∨ (joinV a b = (Change.zero, 1) ∧ ¬ joinOk a b) := by
  unfold joinV madeV
  by_cases h : joinOk a b
  · rw [if_pos h]
    simp only
    by_cases h2 : a.had = false ∧ b.has = false
    · rw [if_pos h2]; exact .inr (.inl ⟨rfl, h, h2⟩)
    · rw [if_neg h2]; exact .inl ⟨rfl, h, h2⟩
  · rw [if_neg h]; exact .inr (.inr ⟨rfl, h⟩)
theorem joinC_ok {a b : Change} (h : joinOk a b) (hn : ¬ (a.had = false ∧ b.has = false)) : (joinC a b).ok := by
  obtain ⟨ha, hb, hk, hs, _⟩ := h
  refine ⟨hb.1, ha.2.1, hb.2.2.1, hb.2.2.2.1, hb.2.2.2.2.1, ha.2.2.2.2.2.1, hb.2.2.2.2.2.2.1, ?_⟩
  show a.had = true ∨ b.has = true
  cases h1 : a.had with
  | true => exact .inl rfl
  | false =>
    cases h2 : b.has with
    | true => exact .inr rfl
    | false => exact absurd ⟨h1, h2⟩ hn
theorem oneV_two {l : List Pair} (hs : Sorted l) {a b c : Change} (h1 : a.key = b.key) (h2 : c.key = b.key) (h3 : c.has = b.has) (h4 : c.aft = b.aft) : oneV (oneV l (noteC a)) (noteC b) = oneV l (noteC c) := by
  have hs2 := oneV_sorted hs (noteC a)
  refine val_ext (oneV_sorted hs2 _) (oneV_sorted hs _) fun k => ?_
  rw [val_note hs2, val_note hs, val_note hs, h2, h3, h4]
  split
  · rfl
  · rename_i hk
    rw [if_neg (by rw [h1]; exact hk)]
theorem fitC_join {l : List Pair} {a b : Change} (hk : a.key = b.key) : fitC l a ↔ fitC l (joinC a b) := by
  unfold fitC joinC
  simp only [hk]
/-- What is joined does what both do. -/
theorem join_does {l p : List Pair} {a b : Change} (h : pairsOk l) (hj : joinOk a b) (hn : ¬ (a.had = false ∧ b.has = false)) (hd : doGo l [a, b] = some p) : doGo l [joinC a b] = some p := by
  simp only [doGo] at *
  split at hd
  · rename_i h1
    split at hd
    · rename_i h2
      rw [if_pos ⟨joinC_ok hj hn, (fitC_join hj.2.2.1).1 h1.2⟩, ← hd]
      rw [oneV_two ((pairsOk_iff l).1 h).1 (c := joinC a b) hj.2.2.1 rfl rfl rfl]
    · cases hd
  · cases hd
theorem join_none {l p : List Pair} {a b : Change} (h : pairsOk l) (hj : joinOk a b) (h1 : a.had = false) (h2 : b.has = false) (hd : doGo l [a, b] = some p) : p = l := by
  simp only [doGo] at *
  split at hd
  · rename_i g1
    split at hd
    · cases hd
      have hs := ((pairsOk_iff l).1 h).1
      have hs2 := oneV_sorted hs (noteC a)
      refine val_ext (oneV_sorted hs2 _) hs fun k => ?_
      rw [val_note hs2, val_note hs]
      split
      · rename_i e
        have := (fitC_val h g1.1).1 g1.2
        rw [e, ← hj.2.2.1, this, h1, h2]; rfl
      · rename_i hk
        rw [if_neg (by rw [hj.2.2.1]; exact hk)]
    · cases hd
  · cases hd
theorem join_assoc {a b c : Change} (h1 : joinV a b = (joinC a b, 0)) (h2 : joinV b c = (joinC b c, 0)) : joinV (joinC a b) c = joinV a (joinC b c) := by
  have j1 : joinOk a b ∧ ¬ (a.had = false ∧ b.has = false) := by
    rcases joinV_cases a b with ⟨_, g1, g2⟩ | ⟨e, _⟩ | ⟨e, _⟩
    · exact ⟨g1, g2⟩
    · rw [e] at h1; exact absurd (congrArg Prod.snd h1) (show ¬ ((_ : Int) = 0) by decide)
    · rw [e] at h1; exact absurd (congrArg Prod.snd h1) (show ¬ ((_ : Int) = 0) by decide)
  have j2 : joinOk b c ∧ ¬ (b.had = false ∧ c.has = false) := by
    rcases joinV_cases b c with ⟨_, g1, g2⟩ | ⟨e, _⟩ | ⟨e, _⟩
    · exact ⟨g1, g2⟩
    · rw [e] at h2; exact absurd (congrArg Prod.snd h2) (show ¬ ((_ : Int) = 0) by decide)
    · rw [e] at h2; exact absurd (congrArg Prod.snd h2) (show ¬ ((_ : Int) = 0) by decide)
  have k1 := joinC_ok j1.1 j1.2
  have k2 := joinC_ok j2.1 j2.2
  obtain ⟨⟨a1, a2, a3, a4, a5, a6⟩, _⟩ := j1
  obtain ⟨⟨b1, b2, b3, b4, b5, b6⟩, _⟩ := j2
  unfold joinV
  have e1 : joinOk (joinC a b) c := ⟨k1, b2, b3, b4, b5, b6⟩
  have e2 : joinOk a (joinC b c) := ⟨a1, k2, (by show a.key = c.key; rw [a3, b3]), (by show a.seq < c.seq; omega), a5, a6⟩
  rw [if_pos e1, if_pos e2]
  rfl
end Go.Proofs.Ytglpemnejngkaaa
set_option linter.unusedVariables false
set_option linter.unusedSimpArgs false
namespace Go.Proofs.Ytglpemnejngkaaa
open Go Go.Proofs Go.Proofs.YtglpemnejngkaaaVm

/-- Numbers one behind the other. -/
def Consec (base : Int) (c : List Change) : Prop := ∀ (j : Nat) (x : Change), c[j]? = some x → x.seq = base + j + 1
theorem Consec.snoc {base : Int} {c : List Change} {x : Change} (h : Consec base c) (hx : x.seq = base + c.length + 1) : Consec base (c ++ [x]) := fun j y hj => by
  by_cases hlt : j < c.length
  · rw [List.getElem?_append_left hlt] at hj; exact h j y hj
  · rw [List.getElem?_append_right (by omega)] at hj
    by_cases he : j = c.length
    · subst he
      simp at hj
      rw [← hj]; exact hx
    · have : j - c.length ≠ 0 := by omega
      rw [List.getElem?_singleton] at hj
      rw [if_neg this] at hj; cases hj
theorem Consec.app {base : Int} {c d : List Change} (h : Consec base c) (hd : Consec (base + c.length) d) : Consec base (c ++ d) := fun j y hj => by
  by_cases hlt : j < c.length
  · rw [List.getElem?_append_left hlt] at hj; exact h j y hj
  · rw [List.getElem?_append_right (by omega)] at hj
    have := hd _ y hj
    rw [this]; omega

theorem runGo_lead (l : List Pair) (hl : pairsOk l) : ∀ (ns : List Note) (p : List Pair) (seq : Int) (out : List Change), pairsOk p → notesAll ns → 0 ≤ seq + out.length → seq + out.length + ns.length ≤ 2147483647 →
    doGo l out = some p → Consec seq out → doGo l (runGo p seq out ns).1 = some (runGo p seq out ns).2 ∧ Consec seq (runGo p seq out ns).1 ∧ appV p ns = (runGo p seq out ns).2
  | [], p, seq, out, _, _, _, _, hd, hc => ⟨hd, hc, rfl⟩
  | n :: r, p, seq, out, hp, hn, h0, hm, hd, hc => by
    have hx := hn n List.mem_cons_self
    have hr : notesAll r := fun y hy => hn y (List.mem_cons_of_mem _ hy)
    simp only [List.length_cons] at hm
    unfold runGo
    have e : appV p (n :: r) = appV (oneV p n) r := rfl
    rw [e]
    split
    · rename_i h
      obtain ⟨g1, g2, g3, g4, g5, g6⟩ := ofV_does h
      refine runGo_lead l hl r (oneV p n) seq _ (oneV_pairsOk hp hx) hr (by rw [List.length_append, List.length_singleton]; omega) (by rw [List.length_append, List.length_singleton]; omega) ?_ (hc.snoc g6)
      rw [doGo_app, hd, Option.bind_some]
      exact (doV_zero.1 g4).2
    · rename_i h
      obtain ⟨g1, _⟩ := ofV_none hp hx (by omega) (by omega) h
      rw [g1]
      exact runGo_lead l hl r p seq out hp hr h0 (by omega) hd hc
theorem runV_lead {l : List Pair} {seq : Int} {ns : List Note} (h : (runV l seq ns).2.2 = 0) : pairsOk l ∧ notesAll ns ∧ pairsOk (runV l seq ns).2.1 ∧ doGo l (runV l seq ns).1 = some (runV l seq ns).2.1 ∧ Consec seq (runV l seq ns).1 ∧ appV l ns = (runV l seq ns).2.1 := by
  obtain ⟨h1, h2, h3, h4, h5, h6, h7, h8⟩ := runV_facts h
  have := runGo_lead l h2 ns l seq [] h2 h1.2 (by simpa using h3) (by simpa using h4) rfl (fun j x hj => by simp at hj)
  rw [h8]
  rw [h8] at h7
  exact ⟨h2, h1.2, h7, this⟩
theorem allGo_lead (l l0 : List Pair) (base : Int) (hl : pairsOk l) : ∀ (bs : List (List Note)) (p : List Pair) (seq : Int) (out : List Change) (ends : List Int), pairsOk p → doGo l out = some p → Consec base out → seq = base + out.length →
    (allGo l0 p seq out ends bs).2.2.2 = 0 →
    doGo l (allGo l0 p seq out ends bs).1 = some (allGo l0 p seq out ends bs).2.1 ∧ Consec base (allGo l0 p seq out ends bs).1 ∧ appV p bs.flatten = (allGo l0 p seq out ends bs).2.1 ∧ pairsOk (allGo l0 p seq out ends bs).2.1 ∧
      (allGo l0 p seq out ends bs).2.2.1.length = ends.length + bs.length ∧ (ends.getLast? = some seq ∨ bs ≠ [] → (allGo l0 p seq out ends bs).2.2.1.getLast? = some (base + (allGo l0 p seq out ends bs).1.length)) ∧ notesAll bs.flatten
  | [], p, seq, out, ends, hp, hd, hc, hs, h => ⟨hd, hc, rfl, hp, rfl, fun g => by
      rcases g with g | g
      · show ends.getLast? = _
        rw [g, hs]; rfl
      · exact absurd rfl g, by intro x hx; simp at hx⟩
  | b :: r, p, seq, out, ends, hp, hd, hc, hs, h => by
    unfold allGo at *
    by_cases hb : (runV p seq b).2.2 = 0
    · rw [if_pos hb] at h ⊢
      obtain ⟨g1, g2, g3, g4, g5, g6⟩ := runV_lead hb
      have ih := allGo_lead l l0 base hl r (runV p seq b).2.1 (seq + ((runV p seq b).1.length : Int)) (out ++ (runV p seq b).1) (ends ++ [seq + ((runV p seq b).1.length : Int)]) g3
        (by rw [doGo_app, hd, Option.bind_some]; exact g4) (hc.app (by rw [← hs]; exact g5)) (by rw [List.length_append]; omega) h
      obtain ⟨i1, i2, i3, i4, i5, i6, i7⟩ := ih
      refine ⟨i1, i2, ?_, i4, ?_, fun _ => i6 (.inl (by simp)), ?_⟩
      · rw [List.flatten_cons, appV_app, g6]; exact i3
      · rw [i5]; simp; omega
      · intro x hx
        rw [List.flatten_cons, List.mem_append] at hx
        rcases hx with hx | hx
        · exact g2 x hx
        · exact i7 x hx
    · rw [if_neg hb] at h
      exact absurd h hb
/-- What batches make. -/
structure Lead (l : List Pair) (seq : Int) (bs : List (List Note)) (c : List Change) (p : List Pair) (ends : List Int) : Prop where
  ok : pairsOk l
  does : doGo l c = some p
  seqs : Consec seq c
  notes : appV l bs.flatten = p
  pok : pairsOk p
  elen : ends.length = bs.length
  last : bs ≠ [] → ends.getLast? = some (seq + c.length)
  nok : notesAll bs.flatten
theorem allV_lead {l : List Pair} {seq : Int} {bs : List (List Note)} (hl : pairsOk l) {c : List Change} {p : List Pair} {ends : List Int} (h : allV l seq bs = (c, p, ends, 0)) : Lead l seq bs c p ends := by
  have h0 : (allV l seq bs).2.2.2 = 0 := by rw [h]
  have := allGo_lead l l seq hl bs l seq [] [] hl rfl (fun j x hj => by simp at hj) (by simp) h0
  have e : allGo l l seq [] [] bs = (c, p, ends, 0) := h
  rw [e] at this
  obtain ⟨i1, i2, i3, i4, i5, i6, i7⟩ := this
  exact ⟨hl, i1, i2, i3, i4, by simpa using i5, fun hb => i6 (.inr hb), i7⟩
theorem allV_right {l : List Pair} {seq : Int} {b : List Note} {bs : List (List Note)} {c : List Change} {p : List Pair} {ends : List Int} (h : allV l seq (b :: bs) = (c, p, ends, 0)) : pairsOk l := by
  unfold allV allGo at h
  by_cases hb : (runV l seq b).2.2 = 0
  · exact (runV_lead hb).1
  · rw [if_neg hb] at h
    have := congrArg (fun x => x.2.2.2) h
    exact absurd this hb
end Go.Proofs.Ytglpemnejngkaaa
set_option linter.unusedVariables false
set_option linter.unusedSimpArgs false
namespace Go.Proofs.Ytglpemnejngkaaa
open Go Go.Proofs Go.Proofs.YtglpemnejngkaaaVm Go.Proofs.Ytglpemnejngkaaa.Ty

/-- Changes whose numbers rise. -/
def trailFrom : Option Int → List Change → Prop
  | _, [] => True
  | last, c :: r => c.ok ∧ (∀ s, last = some s → s < c.seq) ∧ trailFrom (some c.seq) r
def trailOk (l : List Change) : Prop := trailFrom none l
instance instTF : ∀ (last : Option Int) (l : List Change), Decidable (trailFrom last l)
  | _, [] => isTrue trivial
  | none, s :: r => by
    unfold trailFrom
    have := instTF (some s.seq) r
    have : Decidable (∀ k, none = some k → k < s.seq) := isTrue (fun k h => by cases h)
    infer_instance
  | some k, s :: r => by
    unfold trailFrom
    have := instTF (some s.seq) r
    have : Decidable (∀ k', some k = some k' → k' < s.seq) := decidable_of_iff (k < s.seq) ⟨fun h k' e => by cases e; exact h, fun h => h k rfl⟩
    infer_instance
instance instTrailOk (l : List Change) : Decidable (trailOk l) := by unfold trailOk; infer_instance
def prevSeq (l : List Change) (i : Nat) : Option Int := if i = 0 then none else (l[i - 1]?).map Change.seq

set_option maxRecDepth 4000 in
set_option maxHeartbeats 8000000 in
theorem trail_Right (l : List Change) (hl : l.length ≤ 1000000) : Ct Try.prog 26 (YtglpemnejngkaaaVm.ops [.row (l.map Change.pv)]) (.vals [.bool (decide (trailOk l))]) := by
  refine Ct.of_V Try.func26 rfl (by simp [YtglpemnejngkaaaVm.ops, Try.f26]) ?_
  refine V.exec 400 ?_
  simp (config := {contextual := true}) only [go_sem, ↓reduceIte, reduceCtorEq, Bool.false_eq_true, Bool.true_eq_false, Nat.reduceAdd, Nat.reduceLT, Nat.reduceEqDiff, Nat.reduceLeDiff, Nat.reduceSub, Nat.reduceMul, Try.f26]
  refine V.loop (fun m ls os => ∃ (i : Nat), i ≤ l.length ∧ m = l.length - i ∧ (trailOk l ↔ trailFrom (prevSeq l i) (l.drop i)) ∧
        ls = [(0, .val (.row (l.map Change.pv))), (5, .val (.row (l.map Change.pv))), (6, .val (.int .i64 l.length)), (7, .val (.int .i64 i))] ∧ os = []) 0 l.length
      [(0, .val (.row (l.map Change.pv))), (5, .val (.row (l.map Change.pv))), (6, .val (.int .i64 l.length)), (7, .val (.int .i64 0))] [] []
      ⟨0, Nat.zero_le _, rfl, Iff.rfl, rfl, rfl⟩ (by simp only [go_sem, ↓reduceIte, reduceCtorEq, Bool.false_eq_true, Bool.true_eq_false, Nat.reduceAdd, Nat.reduceLT, Nat.reduceEqDiff, Nat.reduceLeDiff, Nat.reduceSub, Nat.reduceMul]) ?_
  rintro m ls os ⟨i, hi, rfl, hiff, rfl, rfl⟩
  refine V.exec 400 ?_
  by_cases hlt : i < l.length
  · have hlt' : (i : Int) < (l.length : Int) := by omega
    obtain ⟨x, hx⟩ : ∃ x, l[i]? = some x := ⟨_, List.getElem?_eq_getElem hlt⟩
    have hw : IntKind.i64.wrap ((i : Int) + 1) = ((i + 1 : Nat) : Int) := by rw [wrap_small3] <;> omega
    rw [drop_of_get hx, trailFrom] at hiff
    have hpk : prevSeq l (i + 1) = some x.seq := by simp [prevSeq, hx]
    have fin : x.ok → (∀ k, prevSeq l i = some k → k < x.seq) → (trailOk l ↔ trailFrom (prevSeq l (i + 1)) (l.drop (i + 1))) := fun a b => by
      rw [hiff, hpk]; exact ⟨fun h => h.2.2, fun h => ⟨a, b, h⟩⟩
    have hfalse : ¬ trailOk l → some [PV.bool false] = some [PV.bool (decide (trailOk l))] := fun h => by simp [h]
    simp (config := {contextual := true}) only [go_sem, ↓reduceIte, reduceCtorEq, Bool.false_eq_true, Bool.true_eq_false, Nat.reduceAdd, Nat.reduceLT, Nat.reduceEqDiff, Nat.reduceLeDiff, Nat.reduceSub, Nat.reduceMul, hlt', hx, Change.pv]
    refine DV.call [] [] (by simp only [go_sem, ↓reduceIte, reduceCtorEq, Bool.false_eq_true, Bool.true_eq_false, Nat.reduceAdd, Nat.reduceLT, Nat.reduceEqDiff, Nat.reduceLeDiff, Nat.reduceSub, Nat.reduceMul, Change.pv]) (by simp [dOK]) ⟨37, [], by simp only [go_sem, ↓reduceIte, reduceCtorEq, Bool.false_eq_true, Bool.true_eq_false, Nat.reduceAdd, Nat.reduceLT, Nat.reduceEqDiff, Nat.reduceLeDiff, Nat.reduceSub, Nat.reduceMul, Change.pv], ⟨_, rfl, rfl, rfl⟩, .inl ⟨[x.pv], _, .inl (by simp only [go_sem, ↓reduceIte, reduceCtorEq, Bool.false_eq_true, Bool.true_eq_false, Nat.reduceAdd, Nat.reduceLT, Nat.reduceEqDiff, Nat.reduceLeDiff, Nat.reduceSub, Nat.reduceMul, Change.pv]), flat_May x, .inl ⟨_, rfl, rfl, rfl, rfl⟩⟩⟩ (by simp only [go_sem, ↓reduceIte, reduceCtorEq, Bool.false_eq_true, Bool.true_eq_false, Nat.reduceAdd, Nat.reduceLT, Nat.reduceEqDiff, Nat.reduceLeDiff, Nat.reduceSub, Nat.reduceMul, Change.pv]) (by simp only [go_sem, ↓reduceIte, reduceCtorEq, Bool.false_eq_true, Bool.true_eq_false, Nat.reduceAdd, Nat.reduceLT, Nat.reduceEqDiff, Nat.reduceLeDiff, Nat.reduceSub, Nat.reduceMul, Change.pv]) (by simp only [go_sem, ↓reduceIte, reduceCtorEq, Bool.false_eq_true, Bool.true_eq_false, Nat.reduceAdd, Nat.reduceLT, Nat.reduceEqDiff, Nat.reduceLeDiff, Nat.reduceSub, Nat.reduceMul, Change.pv]) (by simp) ?_
    refine DV.exec 400 ?_
    by_cases hok : x.ok
    · rcases Nat.eq_zero_or_pos i with rfl | hpos
      · have hz : ¬ (0 : Int) < ((0 : Nat) : Int) := by omega
        simp (config := {contextual := true}) only [go_sem, ↓reduceIte, reduceCtorEq, Bool.false_eq_true, Bool.true_eq_false, Nat.reduceAdd, Nat.reduceLT, Nat.reduceEqDiff, Nat.reduceLeDiff, Nat.reduceSub, Nat.reduceMul, hlt', hx, Change.pv, hw, hz, hok]
        (repeat' (first | (intro _) | (refine ⟨by kernel_rfl, ?_⟩) | (apply And.intro)))
        exact ⟨l.length - (0 + 1), _, [], [], by omega, ⟨1, by omega, rfl, fin hok (fun k h => by simp [prevSeq] at h), rfl, rfl⟩, by simp only [go_sem, ↓reduceIte, reduceCtorEq, Bool.false_eq_true, Bool.true_eq_false, Nat.reduceAdd, Nat.reduceLT, Nat.reduceEqDiff, Nat.reduceLeDiff, Nat.reduceSub, Nat.reduceMul]⟩
      · obtain ⟨j, rfl⟩ : ∃ j, i = j + 1 := ⟨i - 1, by omega⟩
        have hw2 : IntKind.i64.wrap (((j + 1 : Nat) : Int) - 1) = (j : Int) := by rw [wrap_small3] <;> omega
        have hjp : (0 : Int) < ((j + 1 : Nat) : Int) := by omega
        obtain ⟨y, hy⟩ : ∃ y, l[j]? = some y := ⟨_, List.getElem?_eq_getElem (by omega)⟩
        simp (config := {contextual := true}) only [go_sem, ↓reduceIte, reduceCtorEq, Bool.false_eq_true, Bool.true_eq_false, Nat.reduceAdd, Nat.reduceLT, Nat.reduceEqDiff, Nat.reduceLeDiff, Nat.reduceSub, Nat.reduceMul, hlt', hx, Change.pv, hw, hw2, hjp, hy, hok]
        (repeat' (first | (intro _) | (refine ⟨by kernel_rfl, ?_⟩) | (apply And.intro)))
        · refine hfalse fun h => ?_
          have := (hiff.1 h).2.1 y.seq (by simp [prevSeq, hy])
          omega
        · exact ⟨l.length - (j + 1 + 1), _, [], [], by omega, ⟨j + 1 + 1, by omega, rfl, fin hok (fun k h => by simp [prevSeq, hy] at h; omega), rfl, rfl⟩, by simp only [go_sem, ↓reduceIte, reduceCtorEq, Bool.false_eq_true, Bool.true_eq_false, Nat.reduceAdd, Nat.reduceLT, Nat.reduceEqDiff, Nat.reduceLeDiff, Nat.reduceSub, Nat.reduceMul]⟩
    · simp (config := {contextual := true}) only [go_sem, ↓reduceIte, reduceCtorEq, Bool.false_eq_true, Bool.true_eq_false, Nat.reduceAdd, Nat.reduceLT, Nat.reduceEqDiff, Nat.reduceLeDiff, Nat.reduceSub, Nat.reduceMul, hlt', hx, Change.pv, hw, hok]
      (repeat' (first | (intro _) | (refine ⟨by kernel_rfl, ?_⟩) | (apply And.intro)))
      exact hfalse fun h => hok (hiff.1 h).1
  · have hlt' : ¬ (i : Int) < (l.length : Int) := by omega
    have hd : l.drop i = [] := List.drop_eq_nil_of_le (by omega)
    rw [hd, trailFrom] at hiff
    simp (config := {contextual := true}) only [go_sem, ↓reduceIte, reduceCtorEq, Bool.false_eq_true, Bool.true_eq_false, Nat.reduceAdd, Nat.reduceLT, Nat.reduceEqDiff, Nat.reduceLeDiff, Nat.reduceSub, Nat.reduceMul, hlt']
    simp [hiff]
end Go.Proofs.Ytglpemnejngkaaa
set_option linter.unusedVariables false
set_option linter.unusedSimpArgs false
namespace Go.Proofs.Ytglpemnejngkaaa
open Go Go.Proofs Go.Proofs.YtglpemnejngkaaaVm

theorem consec_trail {base : Int} : ∀ (c : List Change) (k : Option Int) (b : Int), (∀ s, k = some s → s ≤ b) → (∀ x ∈ c, x.ok) → Consec b c → trailFrom k c
  | [], _, _, _, _, _ => trivial
  | x :: r, k, b, hk, ho, hc => by
    have hx : x.seq = b + 1 := by have := hc 0 x rfl; simpa using this
    refine ⟨ho x List.mem_cons_self, fun s hs => by have := hk s hs; omega, consec_trail (base := base) r (some x.seq) (b + 1) (fun s hs => by cases hs; omega) (fun y hy => ho y (List.mem_cons_of_mem _ hy)) (fun j y hj => ?_)⟩
    have := hc (j + 1) y hj
    rw [this]; omega
theorem Lead.facts {l : List Pair} {seq : Int} {bs : List (List Note)} {c : List Change} {p : List Pair} {ends : List Int} (h : Lead l seq bs c p ends) :
    doV l c = (p, 0) ∧ undoV p c = (l, 0) ∧ applyV l bs.flatten = (p, 0) ∧ trailOk c ∧ (bs ≠ [] → ends[ends.length - 1]? = some (seq + c.length)) := by
  have h1 : doV l c = (p, 0) := doV_zero.2 ⟨h.ok, h.does⟩
  refine ⟨h1, (do_undo h1).1, ?_, consec_trail (base := seq) c none seq (fun s hs => by cases hs) (doGo_ok c h.ok h.does).2 h.seqs, fun hb => ?_⟩
  · unfold applyV; rw [if_pos ⟨h.ok, h.nok⟩, h.notes]
  · rw [← List.getLast?_eq_getElem?]; exact h.last hb
end Go.Proofs.Ytglpemnejngkaaa
