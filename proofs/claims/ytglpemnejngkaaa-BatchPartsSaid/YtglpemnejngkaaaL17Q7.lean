/- A part of a proof: functions of the program, walked. -/
import Derived.Test.YtglpemnejngkaaaL17Q6
set_option linter.unusedVariables false
set_option linter.unusedSimpArgs false
namespace Go.Proofs.Ytglpemnejngkaaa
open Go Go.Proofs Go.Proofs.YtglpemnejngkaaaVm Go.Proofs.Ytglpemnejngkaaa.Ty

def pvZ (n : Int) : PV := .int .i64 n
def rowN (l : List Note) : PV := .row (l.map Note.pv)
theorem runGo_facts : ∀ (ns : List Note) (p : List Pair) (seq : Int) (out : List Change), pairsOk p → notesAll ns →
    (runGo p seq out ns).1.length ≤ out.length + ns.length ∧ (runGo p seq out ns).2.length ≤ p.length + ns.length ∧ pairsOk (runGo p seq out ns).2
  | [], p, seq, out, hp, _ => ⟨Nat.le_refl _, Nat.le_refl _, hp⟩
  | n :: r, p, seq, out, hp, hn => by
    have hx := hn n List.mem_cons_self
    have hr : notesAll r := fun y hy => hn y (List.mem_cons_of_mem _ hy)
    unfold runGo
    split
    · have ih := runGo_facts r (oneV p n) seq (out ++ [(ofV p (seq + out.length + 1) n).1]) (oneV_pairsOk hp hx) hr
      have hl := oneV_len ((pairsOk_iff p).1 hp).1 n
      rw [List.length_append, List.length_singleton] at ih
      rw [List.length_cons]
      exact ⟨by omega, by omega, ih.2.2⟩
    · have ih := runGo_facts r p seq out hp hr
      rw [List.length_cons]
      exact ⟨by omega, by omega, ih.2.2⟩
theorem runV_facts {l : List Pair} {seq : Int} {ns : List Note} (h : (runV l seq ns).2.2 = 0) :
    batchOk ns ∧ pairsOk l ∧ 0 ≤ seq ∧ seq + (ns.length : Int) ≤ 2147483647 ∧ (runV l seq ns).1.length ≤ ns.length ∧ (runV l seq ns).2.1.length ≤ l.length + ns.length ∧ pairsOk (runV l seq ns).2.1 ∧ runV l seq ns = ((runGo l seq [] ns).1, (runGo l seq [] ns).2, 0) := by
  unfold runV at *
  split at h
  · rename_i hc
    rw [if_pos hc]
    split at h
    · cases h
    · rename_i h3
      rw [if_neg h3]
      have hf := runGo_facts ns l seq [] hc.2.1 hc.1.2
      simp only [List.length_nil, Nat.zero_add] at hf
      exact ⟨hc.1, hc.2.1, hc.2.2.1, by omega, hf.1, hf.2.1, hf.2.2, rfl⟩
  · cases h
/-- Batches, one behind the other. -/
def allGo (l0 : List Pair) : List Pair → Int → List Change → List Int → List (List Note) → List Change × List Pair × List Int × Int
  | p, _, out, ends, [] => (out, p, ends, 0)
  | p, seq, out, ends, b :: r => if (runV p seq b).2.2 = 0 then allGo l0 (runV p seq b).2.1 (seq + ((runV p seq b).1.length : Int)) (out ++ (runV p seq b).1) (ends ++ [seq + ((runV p seq b).1.length : Int)]) r else ([], l0, [], (runV p seq b).2.2)
def allV (l : List Pair) (seq : Int) (bs : List (List Note)) : List Change × List Pair × List Int × Int := allGo l l seq [] [] bs

set_option maxRecDepth 10000 in
set_option maxHeartbeats 16000000 in
theorem batch_All (l : List Pair) (seq : Int) (bs : List (List Note)) (hl : l.length ≤ 1000) (hn : bs.length ≤ 1000) (hb : ∀ b ∈ bs, b.length ≤ 100000) (hseq : seq ≤ 9223372036854775807) : Ct Try.prog 18 (YtglpemnejngkaaaVm.ops [.row (l.map Pair.pv), .int .i64 seq, .row (bs.map rowN)]) (.vals [.row ((allV l seq bs).1.map Change.pv), .row ((allV l seq bs).2.1.map Pair.pv), .row ((allV l seq bs).2.2.1.map pvZ), .int .i64 (allV l seq bs).2.2.2]) := by
  obtain ⟨RO, RP, RE, re, hR⟩ : ∃ a b c d, allV l seq bs = (a, b, c, d) := ⟨_, _, _, _, rfl⟩
  rw [hR]
  unfold allV at hR
  simp only
  refine Ct.of_V Try.func18 rfl (by simp [YtglpemnejngkaaaVm.ops, Try.f18]) ?_
  refine V.exec 400 ?_
  simp (config := {contextual := true}) only [go_sem, ↓reduceIte, reduceCtorEq, Bool.false_eq_true, Bool.true_eq_false, Nat.reduceAdd, Nat.reduceLT, Nat.reduceEqDiff, Nat.reduceLeDiff, Nat.reduceSub, Nat.reduceMul, Try.f18]
  refine V.loop (fun m ls os => ∃ (i : Nat) (out : List Change) (cur : List Pair) (ends : List Int) (sq : Int), i ≤ bs.length ∧ m = bs.length - i ∧ cur.length ≤ l.length + 8 * i ∧ out.length ≤ 8 * i ∧ ends.length ≤ i ∧ sq ≤ 9223372036854775807 ∧ allGo l cur sq out ends (bs.drop i) = (RO, RP, RE, re) ∧
      ls = [(0, .val (.row (l.map Pair.pv))), (1, .val (.int .i64 sq)), (10, .ref 0), (11, .ref 1), (12, .val (.row (cur.map Pair.pv))), (19, .val (.row (bs.map rowN))), (20, .val (.int .i64 bs.length)), (21, .val (.int .i64 i))] ∧ os = [.row 55 (out.map Change.pv), .row 3 (ends.map pvZ)]) 2 bs.length
    [(0, .val (.row (l.map Pair.pv))), (1, .val (.int .i64 seq)), (10, .ref 0), (11, .ref 1), (12, .val (.row (l.map Pair.pv))), (19, .val (.row (bs.map rowN))), (20, .val (.int .i64 bs.length)), (21, .val (.int .i64 0))] [.row 55 [], .row 3 []] [none, none]
    ⟨0, [], l, [], seq, Nat.zero_le _, rfl, Nat.le_refl _, Nat.le_refl _, Nat.le_refl _, hseq, hR, rfl, rfl⟩ (by simp only [go_sem, ↓reduceIte, reduceCtorEq, Bool.false_eq_true, Bool.true_eq_false, Nat.reduceAdd, Nat.reduceLT, Nat.reduceEqDiff, Nat.reduceLeDiff, Nat.reduceSub, Nat.reduceMul]; try decide) ?_
  rintro m ls os ⟨i, out, cur, ends, sq, hi, rfl, hcl, hol, hel, hsq, hca, rfl, rfl⟩
  refine V.exec 400 ?_
  by_cases hlt : i < bs.length
  · have hlt' : (i : Int) < (bs.length : Int) := by omega
    obtain ⟨b, hx⟩ : ∃ x, bs[i]? = some x := ⟨_, List.getElem?_eq_getElem hlt⟩
    have hbl := hb b (List.mem_of_getElem? hx)
    have hw : IntKind.i64.wrap ((i : Int) + 1) = ((i + 1 : Nat) : Int) := by rw [wrap_small3] <;> omega
    have cr := batch_Run cur sq b (by omega) (by omega) hsq
    rw [drop_of_get hx, allGo] at hca
    have hf := @runV_facts cur sq b
    obtain ⟨c, q, e, hC⟩ : ∃ a b' d, runV cur sq b = (a, b', d) := ⟨_, _, _, rfl⟩
    rw [hC] at cr hca hf
    simp only at cr hca hf
    simp (config := {contextual := true}) only [go_sem, ↓reduceIte, reduceCtorEq, Bool.false_eq_true, Bool.true_eq_false, Nat.reduceAdd, Nat.reduceLT, Nat.reduceEqDiff, Nat.reduceLeDiff, Nat.reduceSub, Nat.reduceMul, hlt', hx, rowN]
    refine V.call rfl rfl (by simp [dOK]) ⟨12, [], by simp only [go_sem, ↓reduceIte, reduceCtorEq, Bool.false_eq_true, Bool.true_eq_false, Nat.reduceAdd, Nat.reduceLT, Nat.reduceEqDiff, Nat.reduceLeDiff, Nat.reduceSub, Nat.reduceMul], ⟨_, rfl, rfl, rfl⟩, .inl ⟨[.row (cur.map Pair.pv), .int .i64 sq, .row (b.map Note.pv)], _, .inl (by simp only [go_sem, ↓reduceIte, reduceCtorEq, Bool.false_eq_true, Bool.true_eq_false, Nat.reduceAdd, Nat.reduceLT, Nat.reduceEqDiff, Nat.reduceLeDiff, Nat.reduceSub, Nat.reduceMul]), cr, .inr (.inl ⟨_, rfl, rfl, rfl⟩)⟩⟩ ?_
    refine V.exec 400 ?_
    by_cases he : e = 0
    · rw [if_pos he] at hca
      obtain ⟨f1, f2, f3, f4, f5, f6, f7, _⟩ := hf he
      have f8 := f1.1
      subst he
      have hw2 : IntKind.i64.wrap (sq + (c.length : Int)) = sq + (c.length : Int) := by rw [wrap_small3] <;> omega
      simp (config := {contextual := true}) only [go_sem, ↓reduceIte, reduceCtorEq, Bool.false_eq_true, Bool.true_eq_false, Nat.reduceAdd, Nat.reduceLT, Nat.reduceEqDiff, Nat.reduceLeDiff, Nat.reduceSub, Nat.reduceMul, hw, hw2]
      refine ⟨fun j _ => rfl, ⟨by omega, by omega⟩, ⟨by omega, by omega⟩, bs.length - (i + 1), _, _, [some 21, some 33], by omega, ⟨i + 1, out ++ c, q, ends ++ [sq + (c.length : Int)], sq + (c.length : Int), by omega, rfl, by omega, by simp; omega, by simp; omega, by omega, hca, rfl, rfl⟩, ?_⟩
      simp only [go_sem, ↓reduceIte, reduceCtorEq, Bool.false_eq_true, Bool.true_eq_false, Nat.reduceAdd, Nat.reduceLT, Nat.reduceEqDiff, Nat.reduceLeDiff, Nat.reduceSub, Nat.reduceMul, List.map_append, List.map_cons, List.map_nil, pvZ]
      try decide
    · rw [if_neg he, Prod.mk.injEq, Prod.mk.injEq, Prod.mk.injEq] at hca
      obtain ⟨rfl, rfl, rfl, rfl⟩ := hca
      simp (config := {contextual := true}) only [go_sem, ↓reduceIte, reduceCtorEq, Bool.false_eq_true, Bool.true_eq_false, Nat.reduceAdd, Nat.reduceLT, Nat.reduceEqDiff, Nat.reduceLeDiff, Nat.reduceSub, Nat.reduceMul, he, List.map_nil]
  · have hlt' : ¬ (i : Int) < (bs.length : Int) := by omega
    have hd : bs.drop i = [] := List.drop_eq_nil_of_le (by omega)
    rw [hd, allGo, Prod.mk.injEq, Prod.mk.injEq, Prod.mk.injEq] at hca
    obtain ⟨rfl, rfl, rfl, rfl⟩ := hca
    simp (config := {contextual := true}) only [go_sem, ↓reduceIte, reduceCtorEq, Bool.false_eq_true, Bool.true_eq_false, Nat.reduceAdd, Nat.reduceLT, Nat.reduceEqDiff, Nat.reduceLeDiff, Nat.reduceSub, Nat.reduceMul, hlt']
set_option maxRecDepth 10000 in
set_option maxHeartbeats 16000000 in
theorem ref17_All (l : List Pair) (seq : Int) (bs : List (List Note)) (hl : l.length ≤ 1000) (hn : bs.length ≤ 1000) (hb : ∀ b ∈ bs, b.length ≤ 100000) (hseq : seq ≤ 9223372036854775807) : Ct Try.prog 19 (YtglpemnejngkaaaVm.ops [.row (l.map Pair.pv), .int .i64 seq, .row (bs.map rowN)]) (.vals [.row ((allV l seq bs).1.map Change.pv), .row ((allV l seq bs).2.1.map Pair.pv), .row ((allV l seq bs).2.2.1.map pvZ), .int .i64 (allV l seq bs).2.2.2]) := by
  obtain ⟨RO, RP, RE, re, hR⟩ : ∃ a b c d, allV l seq bs = (a, b, c, d) := ⟨_, _, _, _, rfl⟩
  rw [hR]
  unfold allV at hR
  simp only
  refine Ct.of_V Try.func19 rfl (by simp [YtglpemnejngkaaaVm.ops, Try.f19]) ?_
  refine V.exec 400 ?_
  simp (config := {contextual := true}) only [go_sem, ↓reduceIte, reduceCtorEq, Bool.false_eq_true, Bool.true_eq_false, Nat.reduceAdd, Nat.reduceLT, Nat.reduceEqDiff, Nat.reduceLeDiff, Nat.reduceSub, Nat.reduceMul, Try.f19]
  refine V.loop (fun m ls os => ∃ (i : Nat) (out : List Change) (cur : List Pair) (ends : List Int) (sq : Int), i ≤ bs.length ∧ m = bs.length - i ∧ cur.length ≤ l.length + 8 * i ∧ out.length ≤ 8 * i ∧ ends.length ≤ i ∧ sq ≤ 9223372036854775807 ∧ allGo l cur sq out ends (bs.drop i) = (RO, RP, RE, re) ∧
      ls = [(0, .val (.row (l.map Pair.pv))), (1, .val (.int .i64 sq)), (2, .val (.row (bs.map rowN))), (10, .ref 0), (11, .ref 1), (12, .val (.row (cur.map Pair.pv))), (13, .val (.int .i64 i))] ∧ os = [.row 55 (out.map Change.pv), .row 3 (ends.map pvZ)]) 2 bs.length
    [(0, .val (.row (l.map Pair.pv))), (1, .val (.int .i64 seq)), (2, .val (.row (bs.map rowN))), (10, .ref 0), (11, .ref 1), (12, .val (.row (l.map Pair.pv))), (13, .val (.int .i64 0))] [.row 55 [], .row 3 []] [none, none]
    ⟨0, [], l, [], seq, Nat.zero_le _, rfl, Nat.le_refl _, Nat.le_refl _, Nat.le_refl _, hseq, hR, rfl, rfl⟩ (by simp only [go_sem, ↓reduceIte, reduceCtorEq, Bool.false_eq_true, Bool.true_eq_false, Nat.reduceAdd, Nat.reduceLT, Nat.reduceEqDiff, Nat.reduceLeDiff, Nat.reduceSub, Nat.reduceMul]; try decide) ?_
  rintro m ls os ⟨i, out, cur, ends, sq, hi, rfl, hcl, hol, hel, hsq, hca, rfl, rfl⟩
  refine V.exec 400 ?_
  by_cases hlt : i < bs.length
  · have hlt' : (i : Int) < (bs.length : Int) := by omega
    obtain ⟨b, hx⟩ : ∃ x, bs[i]? = some x := ⟨_, List.getElem?_eq_getElem hlt⟩
    have hbl := hb b (List.mem_of_getElem? hx)
    have hw : IntKind.i64.wrap ((i : Int) + 1) = ((i + 1 : Nat) : Int) := by rw [wrap_small3] <;> omega
    have cr := ref17_Run cur sq b (by omega) (by omega) hsq
    rw [drop_of_get hx, allGo] at hca
    have hf := @runV_facts cur sq b
    obtain ⟨c, q, e, hC⟩ : ∃ a b' d, runV cur sq b = (a, b', d) := ⟨_, _, _, rfl⟩
    rw [hC] at cr hca hf
    simp only at cr hca hf
    simp (config := {contextual := true}) only [go_sem, ↓reduceIte, reduceCtorEq, Bool.false_eq_true, Bool.true_eq_false, Nat.reduceAdd, Nat.reduceLT, Nat.reduceEqDiff, Nat.reduceLeDiff, Nat.reduceSub, Nat.reduceMul, hlt', hx, rowN]
    refine V.call rfl rfl (by simp [dOK]) ⟨13, [], by simp only [go_sem, ↓reduceIte, reduceCtorEq, Bool.false_eq_true, Bool.true_eq_false, Nat.reduceAdd, Nat.reduceLT, Nat.reduceEqDiff, Nat.reduceLeDiff, Nat.reduceSub, Nat.reduceMul], ⟨_, rfl, rfl, rfl⟩, .inl ⟨[.row (cur.map Pair.pv), .int .i64 sq, .row (b.map Note.pv)], _, .inl (by simp only [go_sem, ↓reduceIte, reduceCtorEq, Bool.false_eq_true, Bool.true_eq_false, Nat.reduceAdd, Nat.reduceLT, Nat.reduceEqDiff, Nat.reduceLeDiff, Nat.reduceSub, Nat.reduceMul]), cr, .inr (.inl ⟨_, rfl, rfl, rfl⟩)⟩⟩ ?_
    refine V.exec 400 ?_
    by_cases he : e = 0
    · rw [if_pos he] at hca
      obtain ⟨f1, f2, f3, f4, f5, f6, f7, _⟩ := hf he
      have f8 := f1.1
      subst he
      have hw2 : IntKind.i64.wrap (sq + (c.length : Int)) = sq + (c.length : Int) := by rw [wrap_small3] <;> omega
      simp (config := {contextual := true}) only [go_sem, ↓reduceIte, reduceCtorEq, Bool.false_eq_true, Bool.true_eq_false, Nat.reduceAdd, Nat.reduceLT, Nat.reduceEqDiff, Nat.reduceLeDiff, Nat.reduceSub, Nat.reduceMul, hw, hw2]
      refine ⟨fun j _ => rfl, ⟨by omega, by omega⟩, ⟨by omega, by omega⟩, bs.length - (i + 1), _, _, [some 24, some 36], by omega, ⟨i + 1, out ++ c, q, ends ++ [sq + (c.length : Int)], sq + (c.length : Int), by omega, rfl, by omega, by simp; omega, by simp; omega, by omega, hca, rfl, rfl⟩, ?_⟩
      simp only [go_sem, ↓reduceIte, reduceCtorEq, Bool.false_eq_true, Bool.true_eq_false, Nat.reduceAdd, Nat.reduceLT, Nat.reduceEqDiff, Nat.reduceLeDiff, Nat.reduceSub, Nat.reduceMul, List.map_append, List.map_cons, List.map_nil, pvZ]
      try decide
    · rw [if_neg he, Prod.mk.injEq, Prod.mk.injEq, Prod.mk.injEq] at hca
      obtain ⟨rfl, rfl, rfl, rfl⟩ := hca
      simp (config := {contextual := true}) only [go_sem, ↓reduceIte, reduceCtorEq, Bool.false_eq_true, Bool.true_eq_false, Nat.reduceAdd, Nat.reduceLT, Nat.reduceEqDiff, Nat.reduceLeDiff, Nat.reduceSub, Nat.reduceMul, he, List.map_nil]
  · have hlt' : ¬ (i : Int) < (bs.length : Int) := by omega
    have hd : bs.drop i = [] := List.drop_eq_nil_of_le (by omega)
    rw [hd, allGo, Prod.mk.injEq, Prod.mk.injEq, Prod.mk.injEq] at hca
    obtain ⟨rfl, rfl, rfl, rfl⟩ := hca
    simp (config := {contextual := true}) only [go_sem, ↓reduceIte, reduceCtorEq, Bool.false_eq_true, Bool.true_eq_false, Nat.reduceAdd, Nat.reduceLT, Nat.reduceEqDiff, Nat.reduceLeDiff, Nat.reduceSub, Nat.reduceMul, hlt']

set_option maxRecDepth 4000 in
set_option maxHeartbeats 8000000 in
theorem ref17_Numbers (a b : List Int) (hb : b.length ≤ 1000000) : Ct Try.prog 20 (YtglpemnejngkaaaVm.ops [.row (a.map pvZ), .row (b.map pvZ)]) (.vals [.bool (decide (a = b))]) := by
  refine Ct.of_V Try.func20 rfl (by simp [YtglpemnejngkaaaVm.ops, Try.f20]) ?_
  refine V.exec 400 ?_
  by_cases hl : a.length = b.length
  · simp (config := {contextual := true}) only [go_sem, ↓reduceIte, reduceCtorEq, Bool.false_eq_true, Bool.true_eq_false, Nat.reduceAdd, Nat.reduceLT, Nat.reduceEqDiff, Nat.reduceLeDiff, Nat.reduceSub, Nat.reduceMul, Try.f20, hl]
    refine V.loop (fun m ls os => ∃ i : Nat, i ≤ b.length ∧ m = b.length - i ∧ a.take i = b.take i ∧
        ls = [(0, .val (.row (a.map pvZ))), (1, .val (.row (b.map pvZ))), (5, .val (.int .i64 i))] ∧ os = []) 0 b.length [(0, .val (.row (a.map pvZ))), (1, .val (.row (b.map pvZ))), (5, .val (.int .i64 0))] [] []
      ⟨0, Nat.zero_le _, rfl, rfl, rfl, rfl⟩ (by simp only [go_sem, ↓reduceIte, reduceCtorEq, Bool.false_eq_true, Bool.true_eq_false, Nat.reduceAdd, Nat.reduceLT, Nat.reduceEqDiff, Nat.reduceLeDiff, Nat.reduceSub, Nat.reduceMul]) ?_
    rintro m ls os ⟨i, hi, rfl, heq, rfl, rfl⟩
    refine V.exec 400 ?_
    by_cases hlt : i < b.length
    · have hlt' : (i : Int) < (b.length : Int) := by omega
      have hla : i < a.length := by omega
      obtain ⟨x, hx⟩ : ∃ x, a[i]? = some x := ⟨_, List.getElem?_eq_getElem hla⟩
      obtain ⟨y, hy⟩ : ∃ y, b[i]? = some y := ⟨_, List.getElem?_eq_getElem hlt⟩
      have hw : IntKind.i64.wrap ((i : Int) + 1) = ((i + 1 : Nat) : Int) := by rw [wrap_small3] <;> omega
      simp (config := {contextual := true}) only [go_sem, ↓reduceIte, reduceCtorEq, Bool.false_eq_true, Bool.true_eq_false, Nat.reduceAdd, Nat.reduceLT, Nat.reduceEqDiff, Nat.reduceLeDiff, Nat.reduceSub, Nat.reduceMul, hl, hlt', hx, hy, pvZ, hw]
      refine ⟨by kernel_rfl, fun hne => ?_, fun he => ⟨b.length - (i + 1), _, [], [], by omega, ⟨i + 1, by omega, rfl, ?_, rfl, rfl⟩, ?_⟩⟩
      · have : a ≠ b := fun e => hne (by rw [e, hy] at hx; cases hx; rfl)
        simp [this]
      · rw [List.take_add_one, List.take_add_one, heq, hx, hy, he]
      · simp only [go_sem, ↓reduceIte, reduceCtorEq, Bool.false_eq_true, Bool.true_eq_false, Nat.reduceAdd, Nat.reduceLT, Nat.reduceEqDiff, Nat.reduceLeDiff, Nat.reduceSub, Nat.reduceMul, pvZ]
    · have hlt' : ¬ (i : Int) < (b.length : Int) := by omega
      simp (config := {contextual := true}) only [go_sem, ↓reduceIte, reduceCtorEq, Bool.false_eq_true, Bool.true_eq_false, Nat.reduceAdd, Nat.reduceLT, Nat.reduceEqDiff, Nat.reduceLeDiff, Nat.reduceSub, Nat.reduceMul, hl, hlt']
      have : a = b := by rw [List.take_of_length_le (by omega), List.take_of_length_le (by omega)] at heq; exact heq
      simp [this]
  · have hl' : ¬ (a.length : Int) = (b.length : Int) := by omega
    have : a ≠ b := fun e => hl (by rw [e])
    simp (config := {contextual := true}) only [go_sem, ↓reduceIte, reduceCtorEq, Bool.false_eq_true, Bool.true_eq_false, Nat.reduceAdd, Nat.reduceLT, Nat.reduceEqDiff, Nat.reduceLeDiff, Nat.reduceSub, Nat.reduceMul, Try.f20, hl', this, not_false_eq_true]

def smallP (l : List Pair) : Prop := l.length ≤ 60 ∧ ∀ p ∈ l, p.key.length ≤ 300 ∧ p.value.length ≤ 300
instance instSmallP (l : List Pair) : Decidable (smallP l) := by unfold smallP; infer_instance
def fewN (l : List Note) : Prop := l.length ≤ 20 ∧ ∀ p ∈ l, p.key.length ≤ 300 ∧ p.value.length ≤ 300
instance instFewN (l : List Note) : Decidable (fewN l) := by unfold fewN; infer_instance

set_option maxHeartbeats 8000000 in
theorem law17_small (l : List Pair) (hl : l.length ≤ 9223372036854775807) : Ct Try.prog 9 (YtglpemnejngkaaaVm.ops [.row (l.map Pair.pv)]) (.vals [.bool (decide (smallP l))]) := by
  refine Ct.of_V Try.func9 rfl (by simp [YtglpemnejngkaaaVm.ops, Try.f9]) ?_
  refine V.exec 400 ?_
  by_cases h60 : l.length ≤ 60
  · have h60' : ¬ (60 : Int) < (l.length : Int) := by omega
    simp (config := {contextual := true}) only [go_sem, ↓reduceIte, reduceCtorEq, Bool.false_eq_true, Bool.true_eq_false, Nat.reduceAdd, Nat.reduceLT, Nat.reduceEqDiff, Nat.reduceLeDiff, Nat.reduceSub, Nat.reduceMul, Try.f9, h60']
    refine V.loop (fun m ls os => ∃ (i : Nat), i ≤ l.length ∧ m = l.length - i ∧ (∀ s ∈ l.take i, s.key.length ≤ 300 ∧ s.value.length ≤ 300) ∧
        ls = [(8, .val (.row (l.map Pair.pv))), (9, .val (.int .i64 l.length)), (10, .val (.int .i64 i))] ∧ os = []) 0 l.length
      [(8, .val (.row (l.map Pair.pv))), (9, .val (.int .i64 l.length)), (10, .val (.int .i64 0))] [] []
      ⟨0, Nat.zero_le _, rfl, by simp, rfl, rfl⟩ (by simp only [go_sem, ↓reduceIte, reduceCtorEq, Bool.false_eq_true, Bool.true_eq_false, Nat.reduceAdd, Nat.reduceLT, Nat.reduceEqDiff, Nat.reduceLeDiff, Nat.reduceSub, Nat.reduceMul]) ?_
    rintro m ls os ⟨i, hi, rfl, hiff, rfl, rfl⟩
    refine V.exec 400 ?_
    by_cases hlt : i < l.length
    · have hlt' : (i : Int) < (l.length : Int) := by omega
      obtain ⟨x, hx⟩ : ∃ x, l[i]? = some x := ⟨_, List.getElem?_eq_getElem hlt⟩
      have hw : IntKind.i64.wrap ((i : Int) + 1) = ((i + 1 : Nat) : Int) := by rw [wrap_small3] <;> omega
      have hxm := List.mem_of_getElem? hx
      have hfalse : ¬ (x.key.length ≤ 300 ∧ x.value.length ≤ 300) → some [PV.bool false] = some [PV.bool (decide (smallP l))] := fun h => by
        have : ¬ smallP l := fun g => h (g.2 x hxm)
        simp [this]
      have hnext : x.key.length ≤ 300 ∧ x.value.length ≤ 300 → ∀ s ∈ l.take (i + 1), s.key.length ≤ 300 ∧ s.value.length ≤ 300 := fun h s hs => by
        rw [List.take_add_one, hx] at hs
        rcases List.mem_append.1 hs with hs | hs
        · exact hiff s hs
        · simp at hs; rw [hs]; exact h
      simp (config := {contextual := true}) only [go_sem, ↓reduceIte, reduceCtorEq, Bool.false_eq_true, Bool.true_eq_false, Nat.reduceAdd, Nat.reduceLT, Nat.reduceEqDiff, Nat.reduceLeDiff, Nat.reduceSub, Nat.reduceMul, hlt', hx, Pair.pv, hw]
      (repeat' (first | (intro _) | (refine ⟨by kernel_rfl, ?_⟩) | (apply And.intro)))
      all_goals first
        | exact ⟨l.length - (i + 1), _, [], [], by omega, ⟨i + 1, by omega, rfl, hnext ⟨by omega, by omega⟩, rfl, rfl⟩, by simp only [go_sem, ↓reduceIte, reduceCtorEq, Bool.false_eq_true, Bool.true_eq_false, Nat.reduceAdd, Nat.reduceLT, Nat.reduceEqDiff, Nat.reduceLeDiff, Nat.reduceSub, Nat.reduceMul]⟩
        | exact hfalse fun h => by have := h.1; have := h.2; omega
    · have hlt' : ¬ (i : Int) < (l.length : Int) := by omega
      simp (config := {contextual := true}) only [go_sem, ↓reduceIte, reduceCtorEq, Bool.false_eq_true, Bool.true_eq_false, Nat.reduceAdd, Nat.reduceLT, Nat.reduceEqDiff, Nat.reduceLeDiff, Nat.reduceSub, Nat.reduceMul, hlt']
      rw [List.take_of_length_le (by omega)] at hiff
      have : smallP l := ⟨h60, hiff⟩
      simp [this]
  · have h60' : (60 : Int) < (l.length : Int) := by omega
    have : ¬ smallP l := fun h => h60 h.1
    simp (config := {contextual := true}) only [go_sem, ↓reduceIte, reduceCtorEq, Bool.false_eq_true, Bool.true_eq_false, Nat.reduceAdd, Nat.reduceLT, Nat.reduceEqDiff, Nat.reduceLeDiff, Nat.reduceSub, Nat.reduceMul, Try.f9, h60']
    simp [this]

set_option maxHeartbeats 8000000 in
theorem law17_few (l : List Note) (hl : l.length ≤ 9223372036854775807) : Ct Try.prog 10 (YtglpemnejngkaaaVm.ops [.row (l.map Note.pv)]) (.vals [.bool (decide (fewN l))]) := by
  refine Ct.of_V Try.func10 rfl (by simp [YtglpemnejngkaaaVm.ops, Try.f10]) ?_
  refine V.exec 400 ?_
  by_cases h60 : l.length ≤ 20
  · have h60' : ¬ (20 : Int) < (l.length : Int) := by omega
    simp (config := {contextual := true}) only [go_sem, ↓reduceIte, reduceCtorEq, Bool.false_eq_true, Bool.true_eq_false, Nat.reduceAdd, Nat.reduceLT, Nat.reduceEqDiff, Nat.reduceLeDiff, Nat.reduceSub, Nat.reduceMul, Try.f10, h60']
    refine V.loop (fun m ls os => ∃ (i : Nat), i ≤ l.length ∧ m = l.length - i ∧ (∀ s ∈ l.take i, s.key.length ≤ 300 ∧ s.value.length ≤ 300) ∧
        ls = [(8, .val (.row (l.map Note.pv))), (9, .val (.int .i64 l.length)), (10, .val (.int .i64 i))] ∧ os = []) 0 l.length
      [(8, .val (.row (l.map Note.pv))), (9, .val (.int .i64 l.length)), (10, .val (.int .i64 0))] [] []
      ⟨0, Nat.zero_le _, rfl, by simp, rfl, rfl⟩ (by simp only [go_sem, ↓reduceIte, reduceCtorEq, Bool.false_eq_true, Bool.true_eq_false, Nat.reduceAdd, Nat.reduceLT, Nat.reduceEqDiff, Nat.reduceLeDiff, Nat.reduceSub, Nat.reduceMul]) ?_
    rintro m ls os ⟨i, hi, rfl, hiff, rfl, rfl⟩
    refine V.exec 400 ?_
    by_cases hlt : i < l.length
    · have hlt' : (i : Int) < (l.length : Int) := by omega
      obtain ⟨x, hx⟩ : ∃ x, l[i]? = some x := ⟨_, List.getElem?_eq_getElem hlt⟩
      have hw : IntKind.i64.wrap ((i : Int) + 1) = ((i + 1 : Nat) : Int) := by rw [wrap_small3] <;> omega
      have hxm := List.mem_of_getElem? hx
      have hfalse : ¬ (x.key.length ≤ 300 ∧ x.value.length ≤ 300) → some [PV.bool false] = some [PV.bool (decide (fewN l))] := fun h => by
        have : ¬ fewN l := fun g => h (g.2 x hxm)
        simp [this]
      have hnext : x.key.length ≤ 300 ∧ x.value.length ≤ 300 → ∀ s ∈ l.take (i + 1), s.key.length ≤ 300 ∧ s.value.length ≤ 300 := fun h s hs => by
        rw [List.take_add_one, hx] at hs
        rcases List.mem_append.1 hs with hs | hs
        · exact hiff s hs
        · simp at hs; rw [hs]; exact h
      simp (config := {contextual := true}) only [go_sem, ↓reduceIte, reduceCtorEq, Bool.false_eq_true, Bool.true_eq_false, Nat.reduceAdd, Nat.reduceLT, Nat.reduceEqDiff, Nat.reduceLeDiff, Nat.reduceSub, Nat.reduceMul, hlt', hx, Note.pv, hw]
      (repeat' (first | (intro _) | (refine ⟨by kernel_rfl, ?_⟩) | (apply And.intro)))
      all_goals first
        | exact ⟨l.length - (i + 1), _, [], [], by omega, ⟨i + 1, by omega, rfl, hnext ⟨by omega, by omega⟩, rfl, rfl⟩, by simp only [go_sem, ↓reduceIte, reduceCtorEq, Bool.false_eq_true, Bool.true_eq_false, Nat.reduceAdd, Nat.reduceLT, Nat.reduceEqDiff, Nat.reduceLeDiff, Nat.reduceSub, Nat.reduceMul]⟩
        | exact hfalse fun h => by have := h.1; have := h.2; omega
    · have hlt' : ¬ (i : Int) < (l.length : Int) := by omega
      simp (config := {contextual := true}) only [go_sem, ↓reduceIte, reduceCtorEq, Bool.false_eq_true, Bool.true_eq_false, Nat.reduceAdd, Nat.reduceLT, Nat.reduceEqDiff, Nat.reduceLeDiff, Nat.reduceSub, Nat.reduceMul, hlt']
      rw [List.take_of_length_le (by omega)] at hiff
      have : fewN l := ⟨h60, hiff⟩
      simp [this]
  · have h60' : (20 : Int) < (l.length : Int) := by omega
    have : ¬ fewN l := fun h => h60 h.1
    simp (config := {contextual := true}) only [go_sem, ↓reduceIte, reduceCtorEq, Bool.false_eq_true, Bool.true_eq_false, Nat.reduceAdd, Nat.reduceLT, Nat.reduceEqDiff, Nat.reduceLeDiff, Nat.reduceSub, Nat.reduceMul, Try.f10, h60']
    simp [this]
end Go.Proofs.Ytglpemnejngkaaa
