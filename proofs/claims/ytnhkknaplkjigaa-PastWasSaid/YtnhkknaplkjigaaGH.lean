/- A part of a proof: functions of the program, walked. -/
import Derived.Test.YtnhkknaplkjigaaGG
import Derived.Test.YtnhkknaplkjigaaGF
set_option linter.unusedVariables false
set_option linter.unusedSimpArgs false
namespace Go.Proofs.Ytnhkknaplkjigaa
open Go Go.Proofs Go.Proofs.YtnhkknaplkjigaaVm Go.Proofs.Ytnhkknaplkjigaa.Ty

def Pair.of : PV → Pair
  | .agg [.str k, .str v] => ⟨k, v⟩
  | _ => ⟨[], []⟩
theorem Pair.of_pv (p : Pair) : Pair.of p.pv = p := rfl
theorem Pair.filter_pv (l : List Pair) (p : Pair → Bool) : (l.map Pair.pv).filter (fun x => !p (Pair.of x)) = (l.filter fun c => !p c).map Pair.pv := by
  induction l with
  | nil => rfl
  | cons s r ih =>
    simp only [List.map_cons, List.filter_cons, Pair.of_pv, ih]
    split <;> rfl

theorem stretch_Pick1 (r : Range) (p : Pair) : Ct Try.prog 41 (YtnhkknaplkjigaaVm.ops [p.pv, .ptr r.pv]) (.vals [.bool (decide (¬ r.isIn p.key))]) := by
  refine Ct.of_V Try.func41 rfl (by simp [YtnhkknaplkjigaaVm.ops, Try.f41]) ?_
  refine V.exec 400 ?_
  simp (config := {contextual := true}) only [go_sem, ↓reduceIte, reduceCtorEq, Bool.false_eq_true, Bool.true_eq_false, Nat.reduceAdd, Nat.reduceLT, Nat.reduceEqDiff, Nat.reduceLeDiff, Nat.reduceSub, Nat.reduceMul, Try.f41, Pair.pv, Range.pv]
  refine V.call rfl rfl (by simp [dOK]) ⟨42, [], by simp only [go_sem, ↓reduceIte, reduceCtorEq, Bool.false_eq_true, Bool.true_eq_false, Nat.reduceAdd, Nat.reduceLT, Nat.reduceEqDiff, Nat.reduceLeDiff, Nat.reduceSub, Nat.reduceMul], ⟨_, rfl, rfl, rfl⟩, .inl ⟨[r.pv, .str p.key], _, .inl (by simp only [go_sem, ↓reduceIte, reduceCtorEq, Bool.false_eq_true, Bool.true_eq_false, Nat.reduceAdd, Nat.reduceLT, Nat.reduceEqDiff, Nat.reduceLeDiff, Nat.reduceSub, Nat.reduceMul, Range.pv]), stretch_In r p.key, .inl ⟨_, rfl, rfl, rfl, rfl⟩⟩⟩ ?_
  refine V.exec 400 ?_
  simp (config := {contextual := true}) only [go_sem, ↓reduceIte, reduceCtorEq, Bool.false_eq_true, Bool.true_eq_false, Nat.reduceAdd, Nat.reduceLT, Nat.reduceEqDiff, Nat.reduceLeDiff, Nat.reduceSub, Nat.reduceMul]

def pickV (r : Range) (l : List Pair) : List Pair := l.filter fun p => decide (r.isIn p.key)
theorem pickV_len (r : Range) (l : List Pair) : (pickV r l).length ≤ l.length := List.length_filter_le _ _

set_option maxHeartbeats 4000000 in
theorem stretch_Pick (r : Range) (l : List Pair) (hl : l.length ≤ 1000000) : Ct Try.prog 26 (YtnhkknaplkjigaaVm.ops [r.pv, .row (l.map Pair.pv)]) (.vals [.row ((pickV r l).map Pair.pv)]) := by
  have h7 : ∀ x ∈ l.map Pair.pv, x.cells.length = 2 ∧ x.isAgg = true ∧ ∀ c ∈ x.cells, c.isAgg = false := fun x hx => by
    obtain ⟨s, _, rfl⟩ := List.mem_map.1 hx
    exact ⟨rfl, rfl, by simp [Pair.pv, PV.cells, PV.isAgg]⟩
  have hdel := DeleteFuncPair (l.map Pair.pv) 41 [.ptr r.pv] (fun x => decide (¬ r.isIn (Pair.of x).key)) h7 (by simpa using hl) ⟨_, rfl, rfl, rfl⟩ (fun x hx => by
    obtain ⟨s, hs, rfl⟩ := List.mem_map.1 hx
    rw [Pair.of_pv]
    simpa using stretch_Pick1 r s) (by simp only [go_sem, ↓reduceIte, reduceCtorEq, Bool.false_eq_true, Bool.true_eq_false, Nat.reduceAdd, Nat.reduceLT, Nat.reduceEqDiff, Nat.reduceLeDiff, Nat.reduceSub, Nat.reduceMul])
  rw [Pair.filter_pv l (fun p => decide (¬ r.isIn p.key))] at hdel
  have e : (l.filter fun c => !decide (¬ r.isIn c.key)) = pickV r l := by
    unfold pickV; congr 1; funext c; simp
  rw [e] at hdel
  refine Ct.of_V Try.func26 rfl (by simp [YtnhkknaplkjigaaVm.ops, Try.f26]) ?_
  refine V.exec 400 ?_
  simp (config := {contextual := true}) only [go_sem, ↓reduceIte, reduceCtorEq, Bool.false_eq_true, Bool.true_eq_false, Nat.reduceAdd, Nat.reduceLT, Nat.reduceEqDiff, Nat.reduceLeDiff, Nat.reduceSub, Nat.reduceMul, Try.f26, Range.pv]
  refine V.call rfl rfl (by simp [dOK]) ⟨40, [], by simp only [go_sem, ↓reduceIte, reduceCtorEq, Bool.false_eq_true, Bool.true_eq_false, Nat.reduceAdd, Nat.reduceLT, Nat.reduceEqDiff, Nat.reduceLeDiff, Nat.reduceSub, Nat.reduceMul], ⟨_, rfl, rfl, rfl⟩, .inl ⟨[.row (l.map Pair.pv)], _, .inl (by simp only [go_sem, ↓reduceIte, reduceCtorEq, Bool.false_eq_true, Bool.true_eq_false, Nat.reduceAdd, Nat.reduceLT, Nat.reduceEqDiff, Nat.reduceLeDiff, Nat.reduceSub, Nat.reduceMul]), ClonePair (l.map Pair.pv) (fun x hx => (h7 x hx).1) (by simpa using hl), .inr (.inr ⟨41, (l.map Pair.pv)   , rfl, by simp only [go_sem, ↓reduceIte, reduceCtorEq, Bool.false_eq_true, Bool.true_eq_false, Nat.reduceAdd, Nat.reduceLT, Nat.reduceEqDiff, Nat.reduceLeDiff, Nat.reduceSub, Nat.reduceMul], rfl, rfl⟩)⟩⟩ ?_
  refine V.exec 400 ?_
  simp (config := {contextual := true}) only [go_sem, ↓reduceIte, reduceCtorEq, Bool.false_eq_true, Bool.true_eq_false, Nat.reduceAdd, Nat.reduceLT, Nat.reduceEqDiff, Nat.reduceLeDiff, Nat.reduceSub, Nat.reduceMul]
  refine V.call rfl rfl (by simp [dOK]) ⟨39, [], by simp only [go_sem, ↓reduceIte, reduceCtorEq, Bool.false_eq_true, Bool.true_eq_false, Nat.reduceAdd, Nat.reduceLT, Nat.reduceEqDiff, Nat.reduceLeDiff, Nat.reduceSub, Nat.reduceMul], ⟨_, rfl, rfl, rfl⟩, .inr ⟨5, 41, l.map Pair.pv, [.val (.fn 41 [.ptr r.pv])], [.fn 41 [.ptr r.pv]], 41, _, by simp only [go_sem, ↓reduceIte, reduceCtorEq, Bool.false_eq_true, Bool.true_eq_false, Nat.reduceAdd, Nat.reduceLT, Nat.reduceEqDiff, Nat.reduceLeDiff, Nat.reduceSub, Nat.reduceMul, Range.pv], by simp only [go_sem, ↓reduceIte, reduceCtorEq, Bool.false_eq_true, Bool.true_eq_false, Nat.reduceAdd, Nat.reduceLT, Nat.reduceEqDiff, Nat.reduceLeDiff, Nat.reduceSub, Nat.reduceMul], .inl (by simp only [go_sem, ↓reduceIte, reduceCtorEq, Bool.false_eq_true, Bool.true_eq_false, Nat.reduceAdd, Nat.reduceLT, Nat.reduceEqDiff, Nat.reduceLeDiff, Nat.reduceSub, Nat.reduceMul]), hdel, by simp only [go_sem, ↓reduceIte, reduceCtorEq, Bool.false_eq_true, Bool.true_eq_false, Nat.reduceAdd, Nat.reduceLT, Nat.reduceEqDiff, Nat.reduceLeDiff, Nat.reduceSub, Nat.reduceMul], rfl, rfl⟩⟩ ?_
  refine V.exec 400 ?_
  simp (config := {contextual := true}) only [go_sem, ↓reduceIte, reduceCtorEq, Bool.false_eq_true, Bool.true_eq_false, Nat.reduceAdd, Nat.reduceLT, Nat.reduceEqDiff, Nat.reduceLeDiff, Nat.reduceSub, Nat.reduceMul]

theorem ref03_In (r : Range) (k : List UInt8) : Ct Try.prog 43 (YtnhkknaplkjigaaVm.ops [r.pv, .str k]) (.vals [.bool (decide (r.isIn k))]) := by
  refine Ct.of_V Try.func43 rfl (by simp [YtnhkknaplkjigaaVm.ops, Try.f43]) ?_
  refine V.exec 400 ?_
  simp (config := {contextual := true}) only [go_sem, ↓reduceIte, reduceCtorEq, Bool.false_eq_true, Bool.true_eq_false, Nat.reduceAdd, Nat.reduceLT, Nat.reduceEqDiff, Nat.reduceLeDiff, Nat.reduceSub, Nat.reduceMul, Try.f43, Range.pv]
  simp only [Option.some.injEq, List.cons.injEq, PV.bool.injEq, and_true]
  grind [Range.isIn]

set_option maxHeartbeats 4000000 in
theorem ref03_Pick (r : Range) (l : List Pair) (hl : l.length ≤ 1000000) : Ct Try.prog 27 (YtnhkknaplkjigaaVm.ops [r.pv, .row (l.map Pair.pv)]) (.vals [.row ((pickV r l).map Pair.pv)]) := by
  refine Ct.of_V Try.func27 rfl (by simp [YtnhkknaplkjigaaVm.ops, Try.f27]) ?_
  refine V.exec 400 ?_
  simp (config := {contextual := true}) only [go_sem, ↓reduceIte, reduceCtorEq, Bool.false_eq_true, Bool.true_eq_false, Nat.reduceAdd, Nat.reduceLT, Nat.reduceEqDiff, Nat.reduceLeDiff, Nat.reduceSub, Nat.reduceMul, Try.f27, Range.pv]
  refine V.loop (fun m ls os => ∃ (i : Nat), i ≤ l.length ∧ m = l.length - i ∧
        ls = [(1, .val (.row (l.map Pair.pv))), (2, .adr 0 0), (5, .ref 1), (6, .val (.int .i64 i))] ∧ os = [.box true [.val (.str r.lo), .val (.str r.hi), .val (.bool (decide (r.op = true)))], .row 41 ((pickV r (l.take i)).map Pair.pv)]) 2 l.length
      [(1, .val (.row (l.map Pair.pv))), (2, .adr 0 0), (5, .ref 1), (6, .val (.int .i64 0))] [.box true [.val (.str r.lo), .val (.str r.hi), .val (.bool (decide (r.op = true)))], .row 41 []] [some 2, none]
      ⟨0, Nat.zero_le _, rfl, rfl, rfl⟩ (by simp only [go_sem, ↓reduceIte, reduceCtorEq, Bool.false_eq_true, Bool.true_eq_false, Nat.reduceAdd, Nat.reduceLT, Nat.reduceEqDiff, Nat.reduceLeDiff, Nat.reduceSub, Nat.reduceMul, Range.pv]; try decide) ?_
  rintro m ls os ⟨i, hi, rfl, rfl, rfl⟩
  refine V.exec 400 ?_
  have hpl : (pickV r (l.take i)).length ≤ l.length := Nat.le_trans (pickV_len _ _) (by rw [List.length_take]; omega)
  by_cases hlt : i < l.length
  · have hlt' : (i : Int) < (l.length : Int) := by omega
    obtain ⟨x, hx⟩ : ∃ x, l[i]? = some x := ⟨_, List.getElem?_eq_getElem hlt⟩
    have hw : IntKind.i64.wrap ((i : Int) + 1) = ((i + 1 : Nat) : Int) := by rw [wrap_small3] <;> omega
    have hn : pickV r (l.take (i + 1)) = if r.isIn x.key then pickV r (l.take i) ++ [x] else pickV r (l.take i) := by
      unfold pickV
      rw [List.take_add_one, hx, List.filter_append]
      by_cases h : r.isIn x.key <;> simp [h]
    simp (config := {contextual := true}) only [go_sem, ↓reduceIte, reduceCtorEq, Bool.false_eq_true, Bool.true_eq_false, Nat.reduceAdd, Nat.reduceLT, Nat.reduceEqDiff, Nat.reduceLeDiff, Nat.reduceSub, Nat.reduceMul, hlt', hx, Pair.pv]
    refine DV.call [0] [0] (by simp only [go_sem, ↓reduceIte, reduceCtorEq, Bool.false_eq_true, Bool.true_eq_false, Nat.reduceAdd, Nat.reduceLT, Nat.reduceEqDiff, Nat.reduceLeDiff, Nat.reduceSub, Nat.reduceMul, Range.pv]) (by simp [dOK]) ⟨43, [], by simp only [go_sem, ↓reduceIte, reduceCtorEq, Bool.false_eq_true, Bool.true_eq_false, Nat.reduceAdd, Nat.reduceLT, Nat.reduceEqDiff, Nat.reduceLeDiff, Nat.reduceSub, Nat.reduceMul, Range.pv], ⟨_, rfl, rfl, rfl⟩, .inl ⟨[r.pv, .str x.key], _, .inl (by simp only [go_sem, ↓reduceIte, reduceCtorEq, Bool.false_eq_true, Bool.true_eq_false, Nat.reduceAdd, Nat.reduceLT, Nat.reduceEqDiff, Nat.reduceLeDiff, Nat.reduceSub, Nat.reduceMul, Range.pv]), ref03_In r x.key, .inl ⟨_, rfl, rfl, rfl, rfl⟩⟩⟩ (by simp only [go_sem, ↓reduceIte, reduceCtorEq, Bool.false_eq_true, Bool.true_eq_false, Nat.reduceAdd, Nat.reduceLT, Nat.reduceEqDiff, Nat.reduceLeDiff, Nat.reduceSub, Nat.reduceMul, Range.pv]) (by simp only [go_sem, ↓reduceIte, reduceCtorEq, Bool.false_eq_true, Bool.true_eq_false, Nat.reduceAdd, Nat.reduceLT, Nat.reduceEqDiff, Nat.reduceLeDiff, Nat.reduceSub, Nat.reduceMul, Range.pv]) (by simp only [go_sem, ↓reduceIte, reduceCtorEq, Bool.false_eq_true, Bool.true_eq_false, Nat.reduceAdd, Nat.reduceLT, Nat.reduceEqDiff, Nat.reduceLeDiff, Nat.reduceSub, Nat.reduceMul, Range.pv]) (by simp) ?_
    refine DV.exec 400 ?_
    by_cases h : r.isIn x.key
    · rw [if_pos h] at hn
      generalize hL : pickV r (l.take i) = L at *
      simp (config := {contextual := true}) only [go_sem, ↓reduceIte, reduceCtorEq, Bool.false_eq_true, Bool.true_eq_false, Nat.reduceAdd, Nat.reduceLT, Nat.reduceEqDiff, Nat.reduceLeDiff, Nat.reduceSub, Nat.reduceMul, hlt', hx, Pair.pv, h, hw]
      refine ⟨by kernel_rfl, ⟨by omega, by omega⟩, l.length - (i + 1), _, _, [some 0, some 21], by omega, ⟨i + 1, by omega, rfl, rfl, rfl⟩, ?_⟩
      simp only [go_sem, ↓reduceIte, reduceCtorEq, Bool.false_eq_true, Bool.true_eq_false, Nat.reduceAdd, Nat.reduceLT, Nat.reduceEqDiff, Nat.reduceLeDiff, Nat.reduceSub, Nat.reduceMul, hn, List.map_append, List.map_cons, List.map_nil, Pair.pv]
      try decide
    · rw [if_neg h] at hn
      simp (config := {contextual := true}) only [go_sem, ↓reduceIte, reduceCtorEq, Bool.false_eq_true, Bool.true_eq_false, Nat.reduceAdd, Nat.reduceLT, Nat.reduceEqDiff, Nat.reduceLeDiff, Nat.reduceSub, Nat.reduceMul, hlt', hx, Pair.pv, h, hw]
      refine ⟨by kernel_rfl, l.length - (i + 1), _, _, [some 0, some 1], by omega, ⟨i + 1, by omega, rfl, rfl, rfl⟩, ?_⟩
      simp only [go_sem, ↓reduceIte, reduceCtorEq, Bool.false_eq_true, Bool.true_eq_false, Nat.reduceAdd, Nat.reduceLT, Nat.reduceEqDiff, Nat.reduceLeDiff, Nat.reduceSub, Nat.reduceMul, hn]
      try decide
  · have hlt' : ¬ (i : Int) < (l.length : Int) := by omega
    simp (config := {contextual := true}) only [go_sem, ↓reduceIte, reduceCtorEq, Bool.false_eq_true, Bool.true_eq_false, Nat.reduceAdd, Nat.reduceLT, Nat.reduceEqDiff, Nat.reduceLeDiff, Nat.reduceSub, Nat.reduceMul, hlt']
    rw [List.take_of_length_le (by omega)]
end Go.Proofs.Ytnhkknaplkjigaa
set_option linter.unusedVariables false
set_option linter.unusedSimpArgs false
namespace Go.Proofs.Ytnhkknaplkjigaa
open Go Go.Proofs Go.Proofs.YtnhkknaplkjigaaVm Go.Proofs.Ytnhkknaplkjigaa.Ty

set_option maxRecDepth 4000 in
set_option maxHeartbeats 8000000 in
theorem ref16_Right (l : List Change) (hl : l.length ≤ 1000000) : Ct Try.prog 23 (YtnhkknaplkjigaaVm.ops [.row (l.map Change.pv)]) (.vals [.bool (decide (trailOk l))]) := by
  refine Ct.of_V Try.func23 rfl (by simp [YtnhkknaplkjigaaVm.ops, Try.f23]) ?_
  refine V.exec 400 ?_
  simp (config := {contextual := true}) only [go_sem, ↓reduceIte, reduceCtorEq, Bool.false_eq_true, Bool.true_eq_false, Nat.reduceAdd, Nat.reduceLT, Nat.reduceEqDiff, Nat.reduceLeDiff, Nat.reduceSub, Nat.reduceMul, Try.f23]
  refine V.loop (fun m ls os => ∃ (i : Nat), i ≤ l.length ∧ m = l.length - i ∧ (trailOk l ↔ trailFrom (prevSeq l i) (l.drop i)) ∧
        ls = [(0, .val (.row (l.map Change.pv))), (3, .val (.int .i64 i))] ∧ os = []) 0 l.length
      [(0, .val (.row (l.map Change.pv))), (3, .val (.int .i64 0))] [] []
      ⟨0, Nat.zero_le _, rfl, Iff.rfl, rfl, rfl⟩ (by simp only [go_sem, ↓reduceIte, reduceCtorEq, Bool.false_eq_true, Bool.true_eq_false, Nat.reduceAdd, Nat.reduceLT, Nat.reduceEqDiff, Nat.reduceLeDiff, Nat.reduceSub, Nat.reduceMul]) ?_
  rintro m ls os ⟨i, hi, rfl, hiff, rfl, rfl⟩
  refine V.exec 400 ?_
  by_cases hlt : i < l.length
  · have hlt' : (i : Int) < (l.length : Int) := by omega
    obtain ⟨x, hx⟩ : ∃ x, l[i]? = some x := ⟨_, List.getElem?_eq_getElem hlt⟩
    have hw : IntKind.i64.wrap ((i : Int) + 1) = ((i + 1 : Nat) : Int) := by rw [wrap_small3] <;> omega
    rw [drop_of_get hx, trailFrom] at hiff
    have hpk : prevSeq l (i + 1) = some x.seq := by simp [prevSeq, hx]
    have fin : x.ok → (∀ k, prevSeq l i = some k → k < x.seq) → (trailOk l ↔ trailFrom (prevSeq l (i + 1)) (l.drop (i + 1))) := fun a b => by
      rw [hiff, hpk]; exact ⟨fun h => h.2.2, fun h => ⟨a, b, h⟩⟩
    have hfalse : ¬ trailOk l → some [PV.bool false] = some [PV.bool (decide (trailOk l))] := fun h => by simp [h]
    simp (config := {contextual := true}) only [go_sem, ↓reduceIte, reduceCtorEq, Bool.false_eq_true, Bool.true_eq_false, Nat.reduceAdd, Nat.reduceLT, Nat.reduceEqDiff, Nat.reduceLeDiff, Nat.reduceSub, Nat.reduceMul, hlt', hx, Change.pv]
    refine V.call rfl rfl (by simp [dOK]) ⟨35, [], by simp only [go_sem, ↓reduceIte, reduceCtorEq, Bool.false_eq_true, Bool.true_eq_false, Nat.reduceAdd, Nat.reduceLT, Nat.reduceEqDiff, Nat.reduceLeDiff, Nat.reduceSub, Nat.reduceMul], ⟨_, rfl, rfl, rfl⟩, .inl ⟨[x.pv], _, .inl (by simp only [go_sem, ↓reduceIte, reduceCtorEq, Bool.false_eq_true, Bool.true_eq_false, Nat.reduceAdd, Nat.reduceLT, Nat.reduceEqDiff, Nat.reduceLeDiff, Nat.reduceSub, Nat.reduceMul, Change.pv]), ref13_May x, .inl ⟨_, rfl, rfl, rfl, rfl⟩⟩⟩ ?_
    refine V.exec 400 ?_
    by_cases hok : x.ok
    · rcases Nat.eq_zero_or_pos i with rfl | hpos
      · have hz : ¬ (0 : Int) < ((0 : Nat) : Int) := by omega
        simp (config := {contextual := true}) only [go_sem, ↓reduceIte, reduceCtorEq, Bool.false_eq_true, Bool.true_eq_false, Nat.reduceAdd, Nat.reduceLT, Nat.reduceEqDiff, Nat.reduceLeDiff, Nat.reduceSub, Nat.reduceMul, hlt', hx, Change.pv, hw, hz, hok]
        (repeat' (first | (intro _) | (refine ⟨by kernel_rfl, ?_⟩) | (apply And.intro)))
        exact ⟨l.length - (0 + 1), _, [], [], by omega, ⟨1, by omega, rfl, fin hok (fun k h => by simp [prevSeq] at h), rfl, rfl⟩, by simp only [go_sem, ↓reduceIte, reduceCtorEq, Bool.false_eq_true, Bool.true_eq_false, Nat.reduceAdd, Nat.reduceLT, Nat.reduceEqDiff, Nat.reduceLeDiff, Nat.reduceSub, Nat.reduceMul]⟩
      · obtain ⟨j, rfl⟩ : ∃ j, i = j + 1 := ⟨i - 1, by omega⟩
        have hw2 : IntKind.i64.wrap (((j + 1 : Nat) : Int) - 1) = (j : Int) := by rw [wrap_small3] <;> omega
        have hjp : (0 : Int) < ((j + 1 : Nat) : Int) := by omega
        obtain ⟨y, hy⟩ : ∃ y, l[j]? = some y := ⟨_, List.getElem?_eq_getElem (by omega)⟩
        simp (config := {contextual := true}) only [go_sem, ↓reduceIte, reduceCtorEq, Bool.false_eq_true, Bool.true_eq_false, Nat.reduceAdd, Nat.reduceLT, Nat.reduceEqDiff, Nat.reduceLeDiff, Nat.reduceSub, Nat.reduceMul, hlt', hx, Change.pv, hw, hw2, hjp, hy, hok]
        (repeat' (first | (intro _) | (refine ⟨by kernel_rfl, ?_⟩) | (apply And.intro)))
        · refine hfalse fun h => ?_
          have := (hiff.1 h).2.1 y.seq (by simp [prevSeq, hy])
          omega
        · exact ⟨l.length - (j + 1 + 1), _, [], [], by omega, ⟨j + 1 + 1, by omega, rfl, fin hok (fun k h => by simp [prevSeq, hy] at h; omega), rfl, rfl⟩, by simp only [go_sem, ↓reduceIte, reduceCtorEq, Bool.false_eq_true, Bool.true_eq_false, Nat.reduceAdd, Nat.reduceLT, Nat.reduceEqDiff, Nat.reduceLeDiff, Nat.reduceSub, Nat.reduceMul]⟩
    · simp (config := {contextual := true}) only [go_sem, ↓reduceIte, reduceCtorEq, Bool.false_eq_true, Bool.true_eq_false, Nat.reduceAdd, Nat.reduceLT, Nat.reduceEqDiff, Nat.reduceLeDiff, Nat.reduceSub, Nat.reduceMul, hlt', hx, Change.pv, hw, hok]
      exact hfalse fun h => hok (hiff.1 h).1
  · have hlt' : ¬ (i : Int) < (l.length : Int) := by omega
    have hd : l.drop i = [] := List.drop_eq_nil_of_le (by omega)
    rw [hd, trailFrom] at hiff
    simp (config := {contextual := true}) only [go_sem, ↓reduceIte, reduceCtorEq, Bool.false_eq_true, Bool.true_eq_false, Nat.reduceAdd, Nat.reduceLT, Nat.reduceEqDiff, Nat.reduceLeDiff, Nat.reduceSub, Nat.reduceMul, hlt']
    simp [hiff]

end Go.Proofs.Ytnhkknaplkjigaa
set_option linter.unusedVariables false
set_option linter.unusedSimpArgs false
namespace Go.Proofs.Ytnhkknaplkjigaa
open Go Go.Proofs Go.Proofs.YtnhkknaplkjigaaVm

theorem trailFrom_weaken : ∀ (l : List Change) (a b : Option Int), (∀ s, b = some s → ∃ s', a = some s' ∧ s ≤ s') → trailFrom a l → trailFrom b l
  | [], _, _, _, _ => trivial
  | c :: r, a, b, h, ht => ⟨ht.1, fun s hs => by
      obtain ⟨s', ha, hle⟩ := h s hs
      have := ht.2.1 s' ha
      omega, ht.2.2⟩
theorem trailFrom_filter (p : Change → Bool) : ∀ (l : List Change) (a : Option Int), trailFrom a l → trailFrom a (l.filter p)
  | [], _, _ => trivial
  | c :: r, a, ht => by
    rw [List.filter_cons]
    split
    · exact ⟨ht.1, ht.2.1, trailFrom_filter p r _ ht.2.2⟩
    · refine trailFrom_weaken _ (some c.seq) a (fun s hs => ⟨c.seq, rfl, ?_⟩) (trailFrom_filter p r _ ht.2.2)
      have := ht.2.1 s hs
      omega
theorem trailOk_filter (p : Change → Bool) (l : List Change) (h : trailOk l) : trailOk (l.filter p) := trailFrom_filter p l none h
theorem dropV_ok {t : List Change} (h : trailOk t) (n : Int) : dropV t n = t.filter (fun c => decide (n < c.seq)) := by
  simp only [dropV, withoutV, h, if_true]
  congr 1
  funext c
  by_cases hc : c.seq ≤ n
  · have : ¬ n < c.seq := by omega
    simp [hc, this]
  · have : n < c.seq := by omega
    simp [hc, this]
theorem dropV_trail {t : List Change} (h : trailOk t) (n : Int) : trailOk (dropV t n) := by
  rw [dropV_ok h]; exact trailOk_filter _ _ h
theorem dropV_drop {t : List Change} (h : trailOk t) {n m : Int} (hnm : n ≤ m) : dropV (dropV t n) m = dropV t m := by
  rw [dropV_ok (dropV_trail h n), dropV_ok h, dropV_ok h, List.filter_filter]
  congr 1
  funext c
  by_cases hc : m < c.seq
  · have : n < c.seq := by omega
    simp [hc, this]
  · simp [hc]
theorem trailFrom_gt : ∀ (l : List Change) (s : Int), trailFrom (some s) l → ∀ x ∈ l, s < x.seq
  | [], _, _, _, hx => by simp at hx
  | c :: r, s, h, x, hx => by
    have h1 := h.2.1 s rfl
    rcases List.mem_cons.1 hx with rfl | hx
    · exact h1
    · have := trailFrom_gt r c.seq h.2.2 x hx
      omega
theorem trailFrom_upto : ∀ (l : List Change) (a : Option Int) (j : Nat) (x : Change), trailFrom a l → l[j]? = some x → ∀ y ∈ l.take (j + 1), y.seq ≤ x.seq
  | [], _, _, _, _, h, _, _ => by simp at h
  | c :: r, a, 0, x, ht, h, y, hy => by
    simp at h hy
    subst h hy
    exact Int.le_refl _
  | c :: r, a, j + 1, x, ht, h, y, hy => by
    rw [List.getElem?_cons_succ] at h
    rw [List.take_succ_cons] at hy
    rcases List.mem_cons.1 hy with rfl | hy
    · have := trailFrom_gt r y.seq ht.2.2 x (List.mem_of_getElem? h)
      omega
    · exact trailFrom_upto r _ j x ht.2.2 h y hy
theorem dropV_at {t : List Change} (h : trailOk t) {n : Int} {k : Nat} (hk' : k ≤ t.length) (h1 : ∀ x ∈ t.drop k, n < x.seq) (h2 : ∀ x, 0 < k → t[k - 1]? = some x → x.seq ≤ n) : dropV t n = t.drop k := by
  rw [dropV_ok h]
  rw [← List.take_append_drop k t, List.filter_append]
  have e1 : (t.take k).filter (fun c => decide (n < c.seq)) = [] := by
    rw [List.filter_eq_nil_iff]
    intro y hy
    rcases Nat.eq_zero_or_pos k with rfl | hk
    · simp at hy
    · have hlt : k - 1 < t.length := by omega
      have hx : t[k - 1]? = some t[k - 1] := List.getElem?_eq_getElem hlt
      have g1 := trailFrom_upto t none (k - 1) _ h hx y (by rw [show k - 1 + 1 = k by omega]; exact hy)
      have g2 := h2 _ hk hx
      simp; omega
  have e2 : (t.drop k).filter (fun c => decide (n < c.seq)) = t.drop k := by
    rw [List.filter_eq_self]
    intro y hy
    simpa using h1 y hy
  rw [e1, e2]
  simp
def backGo (l : List Pair) (s : List Change) : Option (List Pair) := doGo l (s.reverse.map turnC)
theorem backGo_app (l : List Pair) (a s : List Change) : backGo l (a ++ s) = (backGo l s).bind fun p => backGo p a := by
  unfold backGo
  rw [List.reverse_append, List.map_append, doGo_app]
theorem undoV_go {l : List Pair} (h : pairsOk l) (s : List Change) : undoV l s = match backGo l s with | some q => (q, 0) | none => (l, 1) := by
  unfold undoV doV backGo
  rw [if_pos h]
  first | done | (cases doGo l (s.reverse.map turnC) <;> rfl)
theorem backGo_ok {l q : List Pair} {s : List Change} (h : pairsOk l) (hb : backGo l s = some q) : pairsOk q := (doGo_ok _ h hb).1
/-- Pairs as of a number. -/
def atV (l : List Pair) (t : List Change) (floor seq : Int) : List Pair × Int :=
  if pairsOk l ∧ trailOk t then (if seq < floor then ([], 8) else match backGo l (dropV t seq) with | some q => (q, 0) | none => ([], 1)) else ([], 1)
theorem backGo_len {l q : List Pair} {s : List Change} (h : pairsOk l) (hb : backGo l s = some q) : q.length ≤ l.length + s.length := by
  have := doGo_len _ h hb
  simpa using this
theorem dropV_len (t : List Change) (n : Int) : (dropV t n).length ≤ t.length := by
  unfold dropV withoutV
  split
  · exact List.length_filter_le _ _
  · simp
theorem atV_len (l : List Pair) (t : List Change) (floor seq : Int) : (atV l t floor seq).1.length ≤ l.length + t.length := by
  unfold atV
  split
  · rename_i h
    split
    · simp
    · split
      · rename_i q hq
        have h1 := backGo_len h.1 hq
        have h2 := dropV_len t seq
        simp only
        omega
      · simp
  · simp
end Go.Proofs.Ytnhkknaplkjigaa
set_option linter.unusedVariables false
set_option linter.unusedSimpArgs false
namespace Go.Proofs.Ytnhkknaplkjigaa
open Go Go.Proofs Go.Proofs.YtnhkknaplkjigaaVm Go.Proofs.Ytnhkknaplkjigaa.Ty

set_option maxHeartbeats 4000000 in
theorem past_At (l : List Pair) (t : List Change) (floor seq : Int) (hl : l.length ≤ 200000) (ht : t.length ≤ 200000) :
    Ct Try.prog 10 (YtnhkknaplkjigaaVm.ops [.row (l.map Pair.pv), .row (t.map Change.pv), .int .i64 floor, .int .i64 seq]) (.vals [.row ((atV l t floor seq).1.map Pair.pv), .int .i64 (atV l t floor seq).2]) := by
  have hdl := dropV_len t seq
  refine Ct.of_V Try.func10 rfl (by simp [YtnhkknaplkjigaaVm.ops, Try.f10]) ?_
  refine V.exec 400 ?_
  simp (config := {contextual := true}) only [go_sem, ↓reduceIte, reduceCtorEq, Bool.false_eq_true, Bool.true_eq_false, Nat.reduceAdd, Nat.reduceLT, Nat.reduceEqDiff, Nat.reduceLeDiff, Nat.reduceSub, Nat.reduceMul, Try.f10]
  refine V.call rfl rfl (by simp [dOK]) ⟨18, [], by simp only [go_sem, ↓reduceIte, reduceCtorEq, Bool.false_eq_true, Bool.true_eq_false, Nat.reduceAdd, Nat.reduceLT, Nat.reduceEqDiff, Nat.reduceLeDiff, Nat.reduceSub, Nat.reduceMul], ⟨_, rfl, rfl, rfl⟩, .inl ⟨[.row (l.map Pair.pv)], _, .inl (by simp only [go_sem, ↓reduceIte, reduceCtorEq, Bool.false_eq_true, Bool.true_eq_false, Nat.reduceAdd, Nat.reduceLT, Nat.reduceEqDiff, Nat.reduceLeDiff, Nat.reduceSub, Nat.reduceMul]), leaf_Right l (by omega), .inl ⟨_, rfl, rfl, rfl, rfl⟩⟩⟩ ?_
  refine V.exec 400 ?_
  by_cases hok : pairsOk l
  · simp (config := {contextual := true}) only [go_sem, ↓reduceIte, reduceCtorEq, Bool.false_eq_true, Bool.true_eq_false, Nat.reduceAdd, Nat.reduceLT, Nat.reduceEqDiff, Nat.reduceLeDiff, Nat.reduceSub, Nat.reduceMul, hok]
    refine V.call rfl rfl (by simp [dOK]) ⟨19, [], by simp only [go_sem, ↓reduceIte, reduceCtorEq, Bool.false_eq_true, Bool.true_eq_false, Nat.reduceAdd, Nat.reduceLT, Nat.reduceEqDiff, Nat.reduceLeDiff, Nat.reduceSub, Nat.reduceMul], ⟨_, rfl, rfl, rfl⟩, .inl ⟨[.row (t.map Change.pv)], _, .inl (by simp only [go_sem, ↓reduceIte, reduceCtorEq, Bool.false_eq_true, Bool.true_eq_false, Nat.reduceAdd, Nat.reduceLT, Nat.reduceEqDiff, Nat.reduceLeDiff, Nat.reduceSub, Nat.reduceMul]), trail_Right t (by omega), .inl ⟨_, rfl, rfl, rfl, rfl⟩⟩⟩ ?_
    refine V.exec 400 ?_
    by_cases hto : trailOk t
    · by_cases hlt : seq < floor
      · have hv : atV l t floor seq = ([], 8) := by unfold atV; rw [if_pos ⟨hok, hto⟩, if_pos hlt]
        simp (config := {contextual := true}) only [go_sem, ↓reduceIte, reduceCtorEq, Bool.false_eq_true, Bool.true_eq_false, Nat.reduceAdd, Nat.reduceLT, Nat.reduceEqDiff, Nat.reduceLeDiff, Nat.reduceSub, Nat.reduceMul, hto, hlt, hv, List.map_nil]
      · simp (config := {contextual := true}) only [go_sem, ↓reduceIte, reduceCtorEq, Bool.false_eq_true, Bool.true_eq_false, Nat.reduceAdd, Nat.reduceLT, Nat.reduceEqDiff, Nat.reduceLeDiff, Nat.reduceSub, Nat.reduceMul, hto, hlt]
        refine V.call rfl rfl (by simp [dOK]) ⟨21, [], by simp only [go_sem, ↓reduceIte, reduceCtorEq, Bool.false_eq_true, Bool.true_eq_false, Nat.reduceAdd, Nat.reduceLT, Nat.reduceEqDiff, Nat.reduceLeDiff, Nat.reduceSub, Nat.reduceMul], ⟨_, rfl, rfl, rfl⟩, .inl ⟨[.row (t.map Change.pv), .int .i64 seq], _, .inl (by simp only [go_sem, ↓reduceIte, reduceCtorEq, Bool.false_eq_true, Bool.true_eq_false, Nat.reduceAdd, Nat.reduceLT, Nat.reduceEqDiff, Nat.reduceLeDiff, Nat.reduceSub, Nat.reduceMul]), trail_Drop t seq (by omega), .inr (.inl ⟨_, rfl, rfl, rfl⟩)⟩⟩ ?_
        refine V.exec 400 ?_
        simp (config := {contextual := true}) only [go_sem, ↓reduceIte, reduceCtorEq, Bool.false_eq_true, Bool.true_eq_false, Nat.reduceAdd, Nat.reduceLT, Nat.reduceEqDiff, Nat.reduceLeDiff, Nat.reduceSub, Nat.reduceMul]
        have hu := change_Undo l (dropV t seq) (by omega) (by omega)
        rw [undoV_go hok] at hu
        cases hb : backGo l (dropV t seq) with
        | none =>
          have hv : atV l t floor seq = ([], 1) := by unfold atV; rw [if_pos ⟨hok, hto⟩, if_neg hlt, hb]
          rw [hb] at hu
          simp only at hu
          refine V.call rfl rfl (by simp [dOK]) ⟨20, [], by simp only [go_sem, ↓reduceIte, reduceCtorEq, Bool.false_eq_true, Bool.true_eq_false, Nat.reduceAdd, Nat.reduceLT, Nat.reduceEqDiff, Nat.reduceLeDiff, Nat.reduceSub, Nat.reduceMul], ⟨_, rfl, rfl, rfl⟩, .inl ⟨[.row (l.map Pair.pv), .row ((dropV t seq).map Change.pv)], _, .inl (by simp only [go_sem, ↓reduceIte, reduceCtorEq, Bool.false_eq_true, Bool.true_eq_false, Nat.reduceAdd, Nat.reduceLT, Nat.reduceEqDiff, Nat.reduceLeDiff, Nat.reduceSub, Nat.reduceMul]), hu, .inr (.inl ⟨_, rfl, rfl, rfl⟩)⟩⟩ ?_
          refine V.exec 400 ?_
          have h10 : ¬ (1 : Int) = 0 := by decide
          simp (config := {contextual := true}) only [go_sem, ↓reduceIte, reduceCtorEq, Bool.false_eq_true, Bool.true_eq_false, Nat.reduceAdd, Nat.reduceLT, Nat.reduceEqDiff, Nat.reduceLeDiff, Nat.reduceSub, Nat.reduceMul, hv, h10, List.map_nil]
        | some q =>
          have hv : atV l t floor seq = (q, 0) := by unfold atV; rw [if_pos ⟨hok, hto⟩, if_neg hlt, hb]
          rw [hb] at hu
          simp only at hu
          refine V.call rfl rfl (by simp [dOK]) ⟨20, [], by simp only [go_sem, ↓reduceIte, reduceCtorEq, Bool.false_eq_true, Bool.true_eq_false, Nat.reduceAdd, Nat.reduceLT, Nat.reduceEqDiff, Nat.reduceLeDiff, Nat.reduceSub, Nat.reduceMul], ⟨_, rfl, rfl, rfl⟩, .inl ⟨[.row (l.map Pair.pv), .row ((dropV t seq).map Change.pv)], _, .inl (by simp only [go_sem, ↓reduceIte, reduceCtorEq, Bool.false_eq_true, Bool.true_eq_false, Nat.reduceAdd, Nat.reduceLT, Nat.reduceEqDiff, Nat.reduceLeDiff, Nat.reduceSub, Nat.reduceMul]), hu, .inr (.inl ⟨_, rfl, rfl, rfl⟩)⟩⟩ ?_
          refine V.exec 400 ?_
          simp (config := {contextual := true}) only [go_sem, ↓reduceIte, reduceCtorEq, Bool.false_eq_true, Bool.true_eq_false, Nat.reduceAdd, Nat.reduceLT, Nat.reduceEqDiff, Nat.reduceLeDiff, Nat.reduceSub, Nat.reduceMul, hv]
    · have hv : atV l t floor seq = ([], 1) := by unfold atV; rw [if_neg (fun h => hto h.2)]
      simp (config := {contextual := true}) only [go_sem, ↓reduceIte, reduceCtorEq, Bool.false_eq_true, Bool.true_eq_false, Nat.reduceAdd, Nat.reduceLT, Nat.reduceEqDiff, Nat.reduceLeDiff, Nat.reduceSub, Nat.reduceMul, hto, hv, List.map_nil]
  · have hv : atV l t floor seq = ([], 1) := by unfold atV; rw [if_neg (fun h => hok h.1)]
    simp (config := {contextual := true}) only [go_sem, ↓reduceIte, reduceCtorEq, Bool.false_eq_true, Bool.true_eq_false, Nat.reduceAdd, Nat.reduceLT, Nat.reduceEqDiff, Nat.reduceLeDiff, Nat.reduceSub, Nat.reduceMul, hok, hv, List.map_nil]

theorem one_pv {t : List Change} {j : Nat} {x : Change} (hx : t[j]? = some x) : ((t.map Change.pv).take (j + 1)).drop j = [x.pv] :=
  one_slice (l := t.map Change.pv) (i := j) (x := x.pv) (by rw [List.getElem?_map, hx]; rfl)

set_option maxHeartbeats 8000000 in
theorem ref18_At (l : List Pair) (t : List Change) (floor seq : Int) (hl : l.length ≤ 100000) (ht : t.length ≤ 100000) :
    Ct Try.prog 11 (YtnhkknaplkjigaaVm.ops [.row (l.map Pair.pv), .row (t.map Change.pv), .int .i64 floor, .int .i64 seq]) (.vals [.row ((atV l t floor seq).1.map Pair.pv), .int .i64 (atV l t floor seq).2]) := by
  have hdl := dropV_len t seq
  refine Ct.of_V Try.func11 rfl (by simp [YtnhkknaplkjigaaVm.ops, Try.f11]) ?_
  refine V.exec 400 ?_
  simp (config := {contextual := true}) only [go_sem, ↓reduceIte, reduceCtorEq, Bool.false_eq_true, Bool.true_eq_false, Nat.reduceAdd, Nat.reduceLT, Nat.reduceEqDiff, Nat.reduceLeDiff, Nat.reduceSub, Nat.reduceMul, Try.f11]
  refine V.call rfl rfl (by simp [dOK]) ⟨22, [], by simp only [go_sem, ↓reduceIte, reduceCtorEq, Bool.false_eq_true, Bool.true_eq_false, Nat.reduceAdd, Nat.reduceLT, Nat.reduceEqDiff, Nat.reduceLeDiff, Nat.reduceSub, Nat.reduceMul], ⟨_, rfl, rfl, rfl⟩, .inl ⟨[.row (l.map Pair.pv)], _, .inl (by simp only [go_sem, ↓reduceIte, reduceCtorEq, Bool.false_eq_true, Bool.true_eq_false, Nat.reduceAdd, Nat.reduceLT, Nat.reduceEqDiff, Nat.reduceLeDiff, Nat.reduceSub, Nat.reduceMul]), ref10_Right l (by omega), .inl ⟨_, rfl, rfl, rfl, rfl⟩⟩⟩ ?_
  refine V.exec 400 ?_
  simp (config := {contextual := true}) only [go_sem, ↓reduceIte, reduceCtorEq, Bool.false_eq_true, Bool.true_eq_false, Nat.reduceAdd, Nat.reduceLT, Nat.reduceEqDiff, Nat.reduceLeDiff, Nat.reduceSub, Nat.reduceMul]
  refine V.call rfl rfl (by simp [dOK]) ⟨23, [], by simp only [go_sem, ↓reduceIte, reduceCtorEq, Bool.false_eq_true, Bool.true_eq_false, Nat.reduceAdd, Nat.reduceLT, Nat.reduceEqDiff, Nat.reduceLeDiff, Nat.reduceSub, Nat.reduceMul], ⟨_, rfl, rfl, rfl⟩, .inl ⟨[.row (t.map Change.pv)], _, .inl (by simp only [go_sem, ↓reduceIte, reduceCtorEq, Bool.false_eq_true, Bool.true_eq_false, Nat.reduceAdd, Nat.reduceLT, Nat.reduceEqDiff, Nat.reduceLeDiff, Nat.reduceSub, Nat.reduceMul]), ref16_Right t (by omega), .inl ⟨_, rfl, rfl, rfl, rfl⟩⟩⟩ ?_
  refine V.exec 400 ?_
  by_cases hok : pairsOk l
  · by_cases hto : trailOk t
    · by_cases hlt : seq < floor
      · have hv : atV l t floor seq = ([], 8) := by unfold atV; rw [if_pos ⟨hok, hto⟩, if_pos hlt]
        simp (config := {contextual := true}) only [go_sem, ↓reduceIte, reduceCtorEq, Bool.false_eq_true, Bool.true_eq_false, Nat.reduceAdd, Nat.reduceLT, Nat.reduceEqDiff, Nat.reduceLeDiff, Nat.reduceSub, Nat.reduceMul, hok, hto, hlt, hv, List.map_nil]
      · have hw0 : IntKind.i64.wrap ((t.length : Int) - 1) = (t.length : Int) - 1 := by rw [wrap_small3] <;> omega
        have hv : atV l t floor seq = match backGo l (dropV t seq) with | some q => (q, 0) | none => ([], 1) := by unfold atV; rw [if_pos ⟨hok, hto⟩, if_neg hlt]; first | done | (cases backGo l (dropV t seq) <;> rfl)
        simp (config := {contextual := true}) only [go_sem, ↓reduceIte, reduceCtorEq, Bool.false_eq_true, Bool.true_eq_false, Nat.reduceAdd, Nat.reduceLT, Nat.reduceEqDiff, Nat.reduceLeDiff, Nat.reduceSub, Nat.reduceMul, hok, hto, hlt, hw0]
        refine V.loop (fun m ls os => ∃ (k : Nat) (out : List Pair) (z : Int), k ≤ t.length ∧ m = k ∧ z = (k : Int) - 1 ∧ out.length ≤ 200000 ∧ (∀ x ∈ t.drop k, seq < x.seq) ∧ backGo l (t.drop k) = some out ∧
            ls = [(1, .val (.row (t.map Change.pv))), (3, .val (.int .i64 seq)), (12, .val (.row (out.map Pair.pv))), (13, .val (.int .i64 z))] ∧ os = []) 0 t.length
          [(1, .val (.row (t.map Change.pv))), (3, .val (.int .i64 seq)), (12, .val (.row (l.map Pair.pv))), (13, .val (.int .i64 ((t.length : Int) - 1)))] [] []
          ⟨t.length, l, _, Nat.le_refl _, rfl, rfl, by omega, by simp, by simp [backGo, doGo], rfl, rfl⟩ (by simp only [go_sem, ↓reduceIte, reduceCtorEq, Bool.false_eq_true, Bool.true_eq_false, Nat.reduceAdd, Nat.reduceLT, Nat.reduceEqDiff, Nat.reduceLeDiff, Nat.reduceSub, Nat.reduceMul]) ?_
        rintro m ls os ⟨k, out, z, hk, rfl, hz, hol, hall, hb, rfl, rfl⟩
        have hend : (∀ x, 0 < m → t[m - 1]? = some x → x.seq ≤ seq) → atV l t floor seq = (out, 0) := fun h => by
          rw [hv, dropV_at hto hk hall h, hb]
        cases m with
        | zero =>
          have hv2 := hend (fun x h => absurd h (by omega))
          obtain rfl : z = -1 := by omega
          have hng : ¬ (0 : Int) ≤ -1 := by decide
          refine V.exec 400 ?_
          simp (config := {contextual := true}) only [go_sem, ↓reduceIte, reduceCtorEq, Bool.false_eq_true, Bool.true_eq_false, Nat.reduceAdd, Nat.reduceLT, Nat.reduceEqDiff, Nat.reduceLeDiff, Nat.reduceSub, Nat.reduceMul, hv2, hng]
        | succ j =>
          obtain rfl : z = (j : Int) := by omega
          obtain ⟨x, hx⟩ : ∃ x, t[j]? = some x := ⟨_, List.getElem?_eq_getElem (by omega)⟩
          have hjp : (0 : Int) ≤ (j : Int) := by omega
          have hw1 : IntKind.i64.wrap ((j : Int) + 1) = ((j + 1 : Nat) : Int) := by rw [wrap_small3] <;> omega
          have hw2 : IntKind.i64.wrap ((j : Int) - 1) = (j : Int) - 1 := by rw [wrap_small3] <;> omega
          refine V.exec 400 ?_
          by_cases hs : seq < x.seq
          · simp (config := {contextual := true}) only [go_sem, ↓reduceIte, reduceCtorEq, Bool.false_eq_true, Bool.true_eq_false, Nat.reduceAdd, Nat.reduceLT, Nat.reduceEqDiff, Nat.reduceLeDiff, Nat.reduceSub, Nat.reduceMul, hjp, hx, Change.pv, hs, hw1]
            have hxs := one_pv hx
            have hu := ref15_Undo out [x] (by omega) (by simp)
            have hpo := backGo_ok hok hb
            rw [undoV_go hpo] at hu
            have hd : t.drop j = [x] ++ t.drop (j + 1) := by rw [drop_of_get hx]; rfl
            have hbj := backGo_app l [x] (t.drop (j + 1))
            rw [← hd, hb, Option.bind_some] at hbj
            have hallj : ∀ y ∈ t.drop j, seq < y.seq := fun y hy => by
              rw [hd] at hy
              rcases List.mem_append.1 hy with hy | hy
              · simp at hy; rw [hy]; exact hs
              · exact hall y hy
            refine ⟨⟨by omega, by omega⟩, ?_⟩
            cases hb1 : backGo out [x] with
            | none =>
              have hv2 : atV l t floor seq = ([], 1) := by
                rw [hv, dropV_ok hto]
                have e : t.filter (fun c => decide (seq < c.seq)) = (t.take j).filter (fun c => decide (seq < c.seq)) ++ t.drop j := by
                  conv => lhs; rw [← List.take_append_drop j t, List.filter_append]
                  congr 1
                  rw [List.filter_eq_self]
                  intro y hy
                  simpa using hallj y hy
                rw [e, backGo_app, hbj, hb1]
                rfl
              rw [hb1] at hu
              simp only at hu
              refine V.call rfl rfl (by simp [dOK]) ⟨24, [], by simp only [go_sem, ↓reduceIte, reduceCtorEq, Bool.false_eq_true, Bool.true_eq_false, Nat.reduceAdd, Nat.reduceLT, Nat.reduceEqDiff, Nat.reduceLeDiff, Nat.reduceSub, Nat.reduceMul], ⟨_, rfl, rfl, rfl⟩, .inl ⟨[.row (out.map Pair.pv), .row [x.pv]], _, .inl (by simp only [go_sem, ↓reduceIte, reduceCtorEq, Bool.false_eq_true, Bool.true_eq_false, Nat.reduceAdd, Nat.reduceLT, Nat.reduceEqDiff, Nat.reduceLeDiff, Nat.reduceSub, Nat.reduceMul, hxs]), hu, .inr (.inl ⟨_, rfl, rfl, rfl⟩)⟩⟩ ?_
              refine V.exec 400 ?_
              have h10 : ¬ (1 : Int) = 0 := by decide
              simp (config := {contextual := true}) only [go_sem, ↓reduceIte, reduceCtorEq, Bool.false_eq_true, Bool.true_eq_false, Nat.reduceAdd, Nat.reduceLT, Nat.reduceEqDiff, Nat.reduceLeDiff, Nat.reduceSub, Nat.reduceMul, hv2, h10, List.map_nil]
            | some q =>
              rw [hb1] at hu hbj
              simp only at hu
              have hql := backGo_len hok hbj
              rw [List.length_drop] at hql
              refine V.call rfl rfl (by simp [dOK]) ⟨24, [], by simp only [go_sem, ↓reduceIte, reduceCtorEq, Bool.false_eq_true, Bool.true_eq_false, Nat.reduceAdd, Nat.reduceLT, Nat.reduceEqDiff, Nat.reduceLeDiff, Nat.reduceSub, Nat.reduceMul], ⟨_, rfl, rfl, rfl⟩, .inl ⟨[.row (out.map Pair.pv), .row [x.pv]], _, .inl (by simp only [go_sem, ↓reduceIte, reduceCtorEq, Bool.false_eq_true, Bool.true_eq_false, Nat.reduceAdd, Nat.reduceLT, Nat.reduceEqDiff, Nat.reduceLeDiff, Nat.reduceSub, Nat.reduceMul, hxs]), hu, .inr (.inl ⟨_, rfl, rfl, rfl⟩)⟩⟩ ?_
              refine V.exec 400 ?_
              simp (config := {contextual := true}) only [go_sem, ↓reduceIte, reduceCtorEq, Bool.false_eq_true, Bool.true_eq_false, Nat.reduceAdd, Nat.reduceLT, Nat.reduceEqDiff, Nat.reduceLeDiff, Nat.reduceSub, Nat.reduceMul, hw2, decide_true]
              exact ⟨j, _, [], [], by omega, ⟨j, q, _, by omega, rfl, rfl, by omega, hallj, hbj, rfl, rfl⟩, by simp only [go_sem, ↓reduceIte, reduceCtorEq, Bool.false_eq_true, Bool.true_eq_false, Nat.reduceAdd, Nat.reduceLT, Nat.reduceEqDiff, Nat.reduceLeDiff, Nat.reduceSub, Nat.reduceMul]⟩
          · have hv2 := hend (fun y _ hy => by
              simp only [Nat.add_sub_cancel] at hy
              rw [hx] at hy; cases hy; omega)
            simp (config := {contextual := true}) only [go_sem, ↓reduceIte, reduceCtorEq, Bool.false_eq_true, Bool.true_eq_false, Nat.reduceAdd, Nat.reduceLT, Nat.reduceEqDiff, Nat.reduceLeDiff, Nat.reduceSub, Nat.reduceMul, hjp, hx, Change.pv, hs, hv2]
    · have hv : atV l t floor seq = ([], 1) := by unfold atV; rw [if_neg (fun h => hto h.2)]
      simp (config := {contextual := true}) only [go_sem, ↓reduceIte, reduceCtorEq, Bool.false_eq_true, Bool.true_eq_false, Nat.reduceAdd, Nat.reduceLT, Nat.reduceEqDiff, Nat.reduceLeDiff, Nat.reduceSub, Nat.reduceMul, hok, hto, hv, List.map_nil]
  · have hv : atV l t floor seq = ([], 1) := by unfold atV; rw [if_neg (fun h => hok h.1)]
    simp (config := {contextual := true}) only [go_sem, ↓reduceIte, reduceCtorEq, Bool.false_eq_true, Bool.true_eq_false, Nat.reduceAdd, Nat.reduceLT, Nat.reduceEqDiff, Nat.reduceLeDiff, Nat.reduceSub, Nat.reduceMul, hok, hv, List.map_nil]
end Go.Proofs.Ytnhkknaplkjigaa
set_option linter.unusedVariables false
set_option linter.unusedSimpArgs false
namespace Go.Proofs.Ytnhkknaplkjigaa
open Go Go.Proofs Go.Proofs.YtnhkknaplkjigaaVm Go.Proofs.Ytnhkknaplkjigaa.Ty

/-- One value, as of a number. -/
def atGetV (l : List Pair) (t : List Change) (floor seq : Int) (k : List UInt8) : List UInt8 × Bool × Int :=
  if (atV l t floor seq).2 = 0 then ((getV (atV l t floor seq).1 k).1, (getV (atV l t floor seq).1 k).2, 0) else ([], false, (atV l t floor seq).2)
def cutN (most : Int) (n : Nat) : Nat := (max 0 (min most n)).toNat
/-- The first pairs of a range, as of a number. -/
def pageV (l : List Pair) (t : List Change) (floor seq most : Int) (r : Range) : List Pair × Bool × Int :=
  if (atV l t floor seq).2 = 0 then ((pickV r (atV l t floor seq).1).take (cutN most (pickV r (atV l t floor seq).1).length), decide (cutN most (pickV r (atV l t floor seq).1).length < (pickV r (atV l t floor seq).1).length), 0) else ([], false, (atV l t floor seq).2)

set_option maxHeartbeats 4000000 in
theorem past_Get (l : List Pair) (t : List Change) (floor seq : Int) (k : List UInt8) (hl : l.length ≤ 200000) (ht : t.length ≤ 200000) :
    Ct Try.prog 12 (YtnhkknaplkjigaaVm.ops [.row (l.map Pair.pv), .row (t.map Change.pv), .int .i64 floor, .int .i64 seq, .str k]) (.vals [.str (atGetV l t floor seq k).1, .bool (decide ((atGetV l t floor seq k).2.1 = true)), .int .i64 (atGetV l t floor seq k).2.2]) := by
  have hc := past_At l t floor seq hl ht
  have hlen := atV_len l t floor seq
  unfold atGetV
  obtain ⟨p, e, hp⟩ : ∃ p e, atV l t floor seq = (p, e) := ⟨_, _, rfl⟩
  rw [hp] at hc hlen ⊢
  simp only at hc hlen ⊢
  refine Ct.of_V Try.func12 rfl (by simp [YtnhkknaplkjigaaVm.ops, Try.f12]) ?_
  refine V.exec 400 ?_
  simp (config := {contextual := true}) only [go_sem, ↓reduceIte, reduceCtorEq, Bool.false_eq_true, Bool.true_eq_false, Nat.reduceAdd, Nat.reduceLT, Nat.reduceEqDiff, Nat.reduceLeDiff, Nat.reduceSub, Nat.reduceMul, Try.f12]
  refine V.call rfl rfl (by simp [dOK]) ⟨10, [], by simp only [go_sem, ↓reduceIte, reduceCtorEq, Bool.false_eq_true, Bool.true_eq_false, Nat.reduceAdd, Nat.reduceLT, Nat.reduceEqDiff, Nat.reduceLeDiff, Nat.reduceSub, Nat.reduceMul], ⟨_, rfl, rfl, rfl⟩, .inl ⟨[.row (l.map Pair.pv), .row (t.map Change.pv), .int .i64 floor, .int .i64 seq], _, .inl (by simp only [go_sem, ↓reduceIte, reduceCtorEq, Bool.false_eq_true, Bool.true_eq_false, Nat.reduceAdd, Nat.reduceLT, Nat.reduceEqDiff, Nat.reduceLeDiff, Nat.reduceSub, Nat.reduceMul]), hc, .inr (.inl ⟨_, rfl, rfl, rfl⟩)⟩⟩ ?_
  refine V.exec 400 ?_
  by_cases he : e = 0
  · subst he
    simp (config := {contextual := true}) only [go_sem, ↓reduceIte, reduceCtorEq, Bool.false_eq_true, Bool.true_eq_false, Nat.reduceAdd, Nat.reduceLT, Nat.reduceEqDiff, Nat.reduceLeDiff, Nat.reduceSub, Nat.reduceMul]
    refine V.call rfl rfl (by simp [dOK]) ⟨25, [], by simp only [go_sem, ↓reduceIte, reduceCtorEq, Bool.false_eq_true, Bool.true_eq_false, Nat.reduceAdd, Nat.reduceLT, Nat.reduceEqDiff, Nat.reduceLeDiff, Nat.reduceSub, Nat.reduceMul], ⟨_, rfl, rfl, rfl⟩, .inl ⟨[.row (p.map Pair.pv), .str k], _, .inl (by simp only [go_sem, ↓reduceIte, reduceCtorEq, Bool.false_eq_true, Bool.true_eq_false, Nat.reduceAdd, Nat.reduceLT, Nat.reduceEqDiff, Nat.reduceLeDiff, Nat.reduceSub, Nat.reduceMul]), leaf_Get p k (by omega), .inl ⟨_, rfl, rfl, rfl, rfl⟩⟩⟩ ?_
    refine V.exec 400 ?_
    simp (config := {contextual := true}) only [go_sem, ↓reduceIte, reduceCtorEq, Bool.false_eq_true, Bool.true_eq_false, Nat.reduceAdd, Nat.reduceLT, Nat.reduceEqDiff, Nat.reduceLeDiff, Nat.reduceSub, Nat.reduceMul]
  · simp (config := {contextual := true}) only [go_sem, ↓reduceIte, reduceCtorEq, Bool.false_eq_true, Bool.true_eq_false, Nat.reduceAdd, Nat.reduceLT, Nat.reduceEqDiff, Nat.reduceLeDiff, Nat.reduceSub, Nat.reduceMul, he]

set_option maxHeartbeats 4000000 in
theorem past_Pages (l : List Pair) (t : List Change) (floor seq most : Int) (r : Range) (hl : l.length ≤ 200000) (ht : t.length ≤ 200000) :
    Ct Try.prog 13 (YtnhkknaplkjigaaVm.ops [.row (l.map Pair.pv), .row (t.map Change.pv), .int .i64 floor, .int .i64 seq, .int .i64 most, r.pv]) (.vals [.row ((pageV l t floor seq most r).1.map Pair.pv), .bool (decide ((pageV l t floor seq most r).2.1 = true)), .int .i64 (pageV l t floor seq most r).2.2]) := by
  have hc := past_At l t floor seq hl ht
  have hlen := atV_len l t floor seq
  unfold pageV
  obtain ⟨p, e, hp⟩ : ∃ p e, atV l t floor seq = (p, e) := ⟨_, _, rfl⟩
  rw [hp] at hc hlen ⊢
  simp only at hc hlen ⊢
  refine Ct.of_V Try.func13 rfl (by simp [YtnhkknaplkjigaaVm.ops, Try.f13]) ?_
  refine V.exec 400 ?_
  simp (config := {contextual := true}) only [go_sem, ↓reduceIte, reduceCtorEq, Bool.false_eq_true, Bool.true_eq_false, Nat.reduceAdd, Nat.reduceLT, Nat.reduceEqDiff, Nat.reduceLeDiff, Nat.reduceSub, Nat.reduceMul, Try.f13, Range.pv]
  refine V.call rfl rfl (by simp [dOK]) ⟨10, [], by simp only [go_sem, ↓reduceIte, reduceCtorEq, Bool.false_eq_true, Bool.true_eq_false, Nat.reduceAdd, Nat.reduceLT, Nat.reduceEqDiff, Nat.reduceLeDiff, Nat.reduceSub, Nat.reduceMul], ⟨_, rfl, rfl, rfl⟩, .inl ⟨[.row (l.map Pair.pv), .row (t.map Change.pv), .int .i64 floor, .int .i64 seq], _, .inl (by simp only [go_sem, ↓reduceIte, reduceCtorEq, Bool.false_eq_true, Bool.true_eq_false, Nat.reduceAdd, Nat.reduceLT, Nat.reduceEqDiff, Nat.reduceLeDiff, Nat.reduceSub, Nat.reduceMul]), hc, .inr (.inl ⟨_, rfl, rfl, rfl⟩)⟩⟩ ?_
  refine V.exec 400 ?_
  by_cases he : e = 0
  · subst he
    have hpl := pickV_len r p
    simp (config := {contextual := true}) only [go_sem, ↓reduceIte, reduceCtorEq, Bool.false_eq_true, Bool.true_eq_false, Nat.reduceAdd, Nat.reduceLT, Nat.reduceEqDiff, Nat.reduceLeDiff, Nat.reduceSub, Nat.reduceMul]
    refine V.call rfl rfl (by simp [dOK]) ⟨26, [], by simp only [go_sem, ↓reduceIte, reduceCtorEq, Bool.false_eq_true, Bool.true_eq_false, Nat.reduceAdd, Nat.reduceLT, Nat.reduceEqDiff, Nat.reduceLeDiff, Nat.reduceSub, Nat.reduceMul], ⟨_, rfl, rfl, rfl⟩, .inl ⟨[r.pv, .row (p.map Pair.pv)], _, .inl (by simp only [go_sem, ↓reduceIte, reduceCtorEq, Bool.false_eq_true, Bool.true_eq_false, Nat.reduceAdd, Nat.reduceLT, Nat.reduceEqDiff, Nat.reduceLeDiff, Nat.reduceSub, Nat.reduceMul, Range.pv]), stretch_Pick r p (by omega), .inr (.inl ⟨_, rfl, rfl, rfl⟩)⟩⟩ ?_
    refine V.exec 400 ?_
    generalize pickV r p = w at *
    have hc : (if (if (w.length : Int) < most then (w.length : Int) else most) > 0 then (if (w.length : Int) < most then (w.length : Int) else most) else 0) = ((cutN most w.length : Nat) : Int) := by
      unfold cutN
      split <;> split <;> omega
    have hc2 : cutN most w.length ≤ w.length := by unfold cutN; omega
    simp (config := {contextual := true}) only [go_sem, ↓reduceIte, reduceCtorEq, Bool.false_eq_true, Bool.true_eq_false, Nat.reduceAdd, Nat.reduceLT, Nat.reduceEqDiff, Nat.reduceLeDiff, Nat.reduceSub, Nat.reduceMul, hc]
    refine ⟨by omega, ?_⟩
    rw [List.map_take]
    simp
  · simp (config := {contextual := true}) only [go_sem, ↓reduceIte, reduceCtorEq, Bool.false_eq_true, Bool.true_eq_false, Nat.reduceAdd, Nat.reduceLT, Nat.reduceEqDiff, Nat.reduceLeDiff, Nat.reduceSub, Nat.reduceMul, he, List.map_nil]

set_option maxHeartbeats 8000000 in
theorem ref18_Page (l : List Pair) (t : List Change) (floor seq most : Int) (r : Range) (hl : l.length ≤ 100000) (ht : t.length ≤ 100000) :
    Ct Try.prog 14 (YtnhkknaplkjigaaVm.ops [.row (l.map Pair.pv), .row (t.map Change.pv), .int .i64 floor, .int .i64 seq, .int .i64 most, r.pv]) (.vals [.row ((pageV l t floor seq most r).1.map Pair.pv), .bool (decide ((pageV l t floor seq most r).2.1 = true)), .int .i64 (pageV l t floor seq most r).2.2]) := by
  have hc := ref18_At l t floor seq hl ht
  have hlen := atV_len l t floor seq
  unfold pageV
  obtain ⟨p, e, hp⟩ : ∃ p e, atV l t floor seq = (p, e) := ⟨_, _, rfl⟩
  rw [hp] at hc hlen ⊢
  simp only at hc hlen ⊢
  refine Ct.of_V Try.func14 rfl (by simp [YtnhkknaplkjigaaVm.ops, Try.f14]) ?_
  refine V.exec 400 ?_
  simp (config := {contextual := true}) only [go_sem, ↓reduceIte, reduceCtorEq, Bool.false_eq_true, Bool.true_eq_false, Nat.reduceAdd, Nat.reduceLT, Nat.reduceEqDiff, Nat.reduceLeDiff, Nat.reduceSub, Nat.reduceMul, Try.f14, Range.pv]
  refine V.call rfl rfl (by simp [dOK]) ⟨11, [], by simp only [go_sem, ↓reduceIte, reduceCtorEq, Bool.false_eq_true, Bool.true_eq_false, Nat.reduceAdd, Nat.reduceLT, Nat.reduceEqDiff, Nat.reduceLeDiff, Nat.reduceSub, Nat.reduceMul], ⟨_, rfl, rfl, rfl⟩, .inl ⟨[.row (l.map Pair.pv), .row (t.map Change.pv), .int .i64 floor, .int .i64 seq], _, .inl (by simp only [go_sem, ↓reduceIte, reduceCtorEq, Bool.false_eq_true, Bool.true_eq_false, Nat.reduceAdd, Nat.reduceLT, Nat.reduceEqDiff, Nat.reduceLeDiff, Nat.reduceSub, Nat.reduceMul]), hc, .inr (.inl ⟨_, rfl, rfl, rfl⟩)⟩⟩ ?_
  refine V.exec 400 ?_
  by_cases he : e = 0
  · subst he
    have hpl := pickV_len r p
    simp (config := {contextual := true}) only [go_sem, ↓reduceIte, reduceCtorEq, Bool.false_eq_true, Bool.true_eq_false, Nat.reduceAdd, Nat.reduceLT, Nat.reduceEqDiff, Nat.reduceLeDiff, Nat.reduceSub, Nat.reduceMul]
    refine V.call rfl rfl (by simp [dOK]) ⟨27, [], by simp only [go_sem, ↓reduceIte, reduceCtorEq, Bool.false_eq_true, Bool.true_eq_false, Nat.reduceAdd, Nat.reduceLT, Nat.reduceEqDiff, Nat.reduceLeDiff, Nat.reduceSub, Nat.reduceMul], ⟨_, rfl, rfl, rfl⟩, .inl ⟨[r.pv, .row (p.map Pair.pv)], _, .inl (by simp only [go_sem, ↓reduceIte, reduceCtorEq, Bool.false_eq_true, Bool.true_eq_false, Nat.reduceAdd, Nat.reduceLT, Nat.reduceEqDiff, Nat.reduceLeDiff, Nat.reduceSub, Nat.reduceMul, Range.pv]), ref03_Pick r p (by omega), .inr (.inl ⟨_, rfl, rfl, rfl⟩)⟩⟩ ?_
    refine V.exec 400 ?_
    generalize pickV r p = w at *
    simp (config := {contextual := true}) only [go_sem, ↓reduceIte, reduceCtorEq, Bool.false_eq_true, Bool.true_eq_false, Nat.reduceAdd, Nat.reduceLT, Nat.reduceEqDiff, Nat.reduceLeDiff, Nat.reduceSub, Nat.reduceMul]
    refine V.loop (fun m ls os => ∃ (i : Nat), i ≤ w.length ∧ m = w.length - i ∧ (i : Int) ≤ max 0 most ∧
        ls = [(4, .val (.int .i64 most)), (17, .ref 0), (18, .val (.row (w.map Pair.pv))), (19, .val (.int .i64 i))] ∧ os = [.row 41 ((w.take i).map Pair.pv)]) 1 w.length
      [(4, .val (.int .i64 most)), (17, .ref 0), (18, .val (.row (w.map Pair.pv))), (19, .val (.int .i64 0))] [.row 41 []] [none]
      ⟨0, Nat.zero_le _, rfl, by omega, rfl, rfl⟩ (by simp only [go_sem, ↓reduceIte, reduceCtorEq, Bool.false_eq_true, Bool.true_eq_false, Nat.reduceAdd, Nat.reduceLT, Nat.reduceEqDiff, Nat.reduceLeDiff, Nat.reduceSub, Nat.reduceMul]; try decide) ?_
    rintro m ls os ⟨i, hi, rfl, him, rfl, rfl⟩
    refine V.exec 400 ?_
    have hend : ¬ ((i : Int) < (w.length : Int) ∧ (i : Int) < most) → cutN most w.length = i := fun h => by unfold cutN; omega
    by_cases hlt : i < w.length
    · have hlt' : (i : Int) < (w.length : Int) := by omega
      obtain ⟨x, hx⟩ : ∃ x, w[i]? = some x := ⟨_, List.getElem?_eq_getElem hlt⟩
      have hw : IntKind.i64.wrap ((i : Int) + 1) = ((i + 1 : Nat) : Int) := by rw [wrap_small3] <;> omega
      by_cases hm : (i : Int) < most
      · have hts := take_snoc hx
        have htl : (w.take i).length = i := by rw [List.length_take]; omega
        generalize hL : w.take i = L at *
        simp (config := {contextual := true}) only [go_sem, ↓reduceIte, reduceCtorEq, Bool.false_eq_true, Bool.true_eq_false, Nat.reduceAdd, Nat.reduceLT, Nat.reduceEqDiff, Nat.reduceLeDiff, Nat.reduceSub, Nat.reduceMul, hlt', hm, hx, Pair.pv, hw]
        refine ⟨⟨by omega, by omega⟩, w.length - (i + 1), _, _, [some 16], by omega, ⟨i + 1, by omega, rfl, by omega, rfl, rfl⟩, ?_⟩
        simp only [go_sem, ↓reduceIte, reduceCtorEq, Bool.false_eq_true, Bool.true_eq_false, Nat.reduceAdd, Nat.reduceLT, Nat.reduceEqDiff, Nat.reduceLeDiff, Nat.reduceSub, Nat.reduceMul, hts, List.map_append, List.map_cons, List.map_nil, Pair.pv]
        try decide
      · have hv := hend (fun h => hm h.2)
        have htl : ((w.take i).length : Int) = (i : Int) := by rw [List.length_take]; omega
        simp (config := {contextual := true}) only [go_sem, ↓reduceIte, reduceCtorEq, Bool.false_eq_true, Bool.true_eq_false, Nat.reduceAdd, Nat.reduceLT, Nat.reduceEqDiff, Nat.reduceLeDiff, Nat.reduceSub, Nat.reduceMul, hlt', hm, hv, htl]
        simp [hlt]
    · have hlt' : ¬ (i : Int) < (w.length : Int) := by omega
      have hv := hend (fun h => hlt' h.1)
      have htl : ((w.take i).length : Int) = (i : Int) := by rw [List.length_take]; omega
      simp (config := {contextual := true}) only [go_sem, ↓reduceIte, reduceCtorEq, Bool.false_eq_true, Bool.true_eq_false, Nat.reduceAdd, Nat.reduceLT, Nat.reduceEqDiff, Nat.reduceLeDiff, Nat.reduceSub, Nat.reduceMul, hlt', hv, htl]
      simp [hlt]
  · simp (config := {contextual := true}) only [go_sem, ↓reduceIte, reduceCtorEq, Bool.false_eq_true, Bool.true_eq_false, Nat.reduceAdd, Nat.reduceLT, Nat.reduceEqDiff, Nat.reduceLeDiff, Nat.reduceSub, Nat.reduceMul, he, List.map_nil]
end Go.Proofs.Ytnhkknaplkjigaa
set_option linter.unusedVariables false
set_option linter.unusedSimpArgs false
namespace Go.Proofs.Ytnhkknaplkjigaa
open Go Go.Proofs Go.Proofs.YtnhkknaplkjigaaVm Go.Proofs.Ytnhkknaplkjigaa.Ty

def Pair.fine (s : Pair) : Prop := s.key.length ≤ 300 ∧ s.value.length ≤ 300
def Change.fine (s : Change) : Prop := s.key.length ≤ 300 ∧ s.bef.length ≤ 300 ∧ s.aft.length ≤ 300
instance (s : Pair) : Decidable s.fine := by unfold Pair.fine; infer_instance
instance (s : Change) : Decidable s.fine := by unfold Change.fine; infer_instance
def smallPC (l : List Pair) (t : List Change) : Prop := l.length ≤ 60 ∧ t.length ≤ 60 ∧ (∀ s ∈ l, s.fine) ∧ ∀ s ∈ t, s.fine
instance instSmallPC (l : List Pair) (t : List Change) : Decidable (smallPC l t) := by unfold smallPC; infer_instance
theorem take_all {α : Type} {P : α → Prop} {l : List α} {i : Nat} {x : α} (hx : l[i]? = some x) (h : ∀ s ∈ l.take i, P s) (hp : P x) : ∀ s ∈ l.take (i + 1), P s := fun s hs => by
  rw [List.take_add_one, hx] at hs
  rcases List.mem_append.1 hs with hs | hs
  · exact h s hs
  · simp at hs; rw [hs]; exact hp

set_option maxHeartbeats 8000000 in
theorem law18_small (l : List Pair) (t : List Change) (hl : l.length ≤ 9223372036854775807) (ht : t.length ≤ 9223372036854775807) : Ct Try.prog 8 (YtnhkknaplkjigaaVm.ops [.row (l.map Pair.pv), .row (t.map Change.pv)]) (.vals [.bool (decide (smallPC l t))]) := by
  have hno : ¬ smallPC l t → some [PV.bool false] = some [PV.bool (decide (smallPC l t))] := fun h => by simp [h]
  refine Ct.of_V Try.func8 rfl (by simp [YtnhkknaplkjigaaVm.ops, Try.f8]) ?_
  refine V.exec 400 ?_
  simp (config := {contextual := true}) only [go_sem, ↓reduceIte, reduceCtorEq, Bool.false_eq_true, Bool.true_eq_false, Nat.reduceAdd, Nat.reduceLT, Nat.reduceEqDiff, Nat.reduceLeDiff, Nat.reduceSub, Nat.reduceMul, Try.f8]
  by_cases h60 : l.length ≤ 60
  · have h60' : ¬ (60 : Int) < (l.length : Int) := by omega
    by_cases h61 : t.length ≤ 60
    · have h61' : ¬ (60 : Int) < (t.length : Int) := by omega
      simp (config := {contextual := true}) only [go_sem, ↓reduceIte, reduceCtorEq, Bool.false_eq_true, Bool.true_eq_false, Nat.reduceAdd, Nat.reduceLT, Nat.reduceEqDiff, Nat.reduceLeDiff, Nat.reduceSub, Nat.reduceMul, h60', h61']
      refine V.loop (fun m ls os => ∃ (i : Nat), i ≤ l.length ∧ m = l.length - i ∧ (∀ s ∈ l.take i, s.fine) ∧
          ls = [(1, .val (.row (t.map Change.pv))), (17, .val (.row (l.map Pair.pv))), (18, .val (.int .i64 l.length)), (19, .val (.int .i64 i))] ∧ os = []) 0 l.length
        [(1, .val (.row (t.map Change.pv))), (17, .val (.row (l.map Pair.pv))), (18, .val (.int .i64 l.length)), (19, .val (.int .i64 0))] [] []
        ⟨0, Nat.zero_le _, rfl, by simp, rfl, rfl⟩ (by simp only [go_sem, ↓reduceIte, reduceCtorEq, Bool.false_eq_true, Bool.true_eq_false, Nat.reduceAdd, Nat.reduceLT, Nat.reduceEqDiff, Nat.reduceLeDiff, Nat.reduceSub, Nat.reduceMul]) ?_
      rintro m ls os ⟨i, hi, rfl, hall, rfl, rfl⟩
      refine V.exec 400 ?_
      by_cases hlt : i < l.length
      · have hlt' : (i : Int) < (l.length : Int) := by omega
        obtain ⟨x, hx⟩ : ∃ x, l[i]? = some x := ⟨_, List.getElem?_eq_getElem hlt⟩
        have hw : IntKind.i64.wrap ((i : Int) + 1) = ((i + 1 : Nat) : Int) := by rw [wrap_small3] <;> omega
        have hxm := List.mem_of_getElem? hx
        simp (config := {contextual := true}) only [go_sem, ↓reduceIte, reduceCtorEq, Bool.false_eq_true, Bool.true_eq_false, Nat.reduceAdd, Nat.reduceLT, Nat.reduceEqDiff, Nat.reduceLeDiff, Nat.reduceSub, Nat.reduceMul, hlt', hx, Pair.pv, hw]
        (repeat' (first | (intro _) | (refine ⟨by kernel_rfl, ?_⟩) | (apply And.intro)))
        all_goals first
          | exact ⟨l.length - (i + 1), _, [], [], by omega, ⟨i + 1, by omega, rfl, take_all hx hall ⟨by omega, by omega⟩, rfl, rfl⟩, by simp only [go_sem, ↓reduceIte, reduceCtorEq, Bool.false_eq_true, Bool.true_eq_false, Nat.reduceAdd, Nat.reduceLT, Nat.reduceEqDiff, Nat.reduceLeDiff, Nat.reduceSub, Nat.reduceMul]⟩
          | exact hno fun h => by have := (h.2.2.1 x hxm).1; have := (h.2.2.1 x hxm).2; omega
      · have hlt' : ¬ (i : Int) < (l.length : Int) := by omega
        rw [List.take_of_length_le (by omega)] at hall
        simp (config := {contextual := true}) only [go_sem, ↓reduceIte, reduceCtorEq, Bool.false_eq_true, Bool.true_eq_false, Nat.reduceAdd, Nat.reduceLT, Nat.reduceEqDiff, Nat.reduceLeDiff, Nat.reduceSub, Nat.reduceMul, hlt']
        refine V.loop (fun m ls os => ∃ (i : Nat), i ≤ t.length ∧ m = t.length - i ∧ (∀ s ∈ t.take i, s.fine) ∧
            ls = [(34, .val (.row (t.map Change.pv))), (35, .val (.int .i64 t.length)), (36, .val (.int .i64 i))] ∧ os = []) 0 t.length
          [(34, .val (.row (t.map Change.pv))), (35, .val (.int .i64 t.length)), (36, .val (.int .i64 0))] [] []
          ⟨0, Nat.zero_le _, rfl, by simp, rfl, rfl⟩ (by simp only [go_sem, ↓reduceIte, reduceCtorEq, Bool.false_eq_true, Bool.true_eq_false, Nat.reduceAdd, Nat.reduceLT, Nat.reduceEqDiff, Nat.reduceLeDiff, Nat.reduceSub, Nat.reduceMul]) ?_
        rintro m ls os ⟨j, hj, rfl, hall2, rfl, rfl⟩
        refine V.exec 400 ?_
        by_cases hjt : j < t.length
        · have hjt' : (j : Int) < (t.length : Int) := by omega
          obtain ⟨x, hx⟩ : ∃ x, t[j]? = some x := ⟨_, List.getElem?_eq_getElem hjt⟩
          have hw : IntKind.i64.wrap ((j : Int) + 1) = ((j + 1 : Nat) : Int) := by rw [wrap_small3] <;> omega
          have hxm := List.mem_of_getElem? hx
          simp (config := {contextual := true}) only [go_sem, ↓reduceIte, reduceCtorEq, Bool.false_eq_true, Bool.true_eq_false, Nat.reduceAdd, Nat.reduceLT, Nat.reduceEqDiff, Nat.reduceLeDiff, Nat.reduceSub, Nat.reduceMul, hjt', hx, Change.pv, hw]
          (repeat' (first | (intro _) | (refine ⟨by kernel_rfl, ?_⟩) | (apply And.intro)))
          all_goals first
            | exact ⟨t.length - (j + 1), _, [], [], by omega, ⟨j + 1, by omega, rfl, take_all hx hall2 ⟨by omega, by omega, by omega⟩, rfl, rfl⟩, by simp only [go_sem, ↓reduceIte, reduceCtorEq, Bool.false_eq_true, Bool.true_eq_false, Nat.reduceAdd, Nat.reduceLT, Nat.reduceEqDiff, Nat.reduceLeDiff, Nat.reduceSub, Nat.reduceMul]⟩
            | exact hno fun h => by have h := h.2.2.2 x hxm; have := h.1; have := h.2.1; have := h.2.2; omega
        · have hjt' : ¬ (j : Int) < (t.length : Int) := by omega
          rw [List.take_of_length_le (by omega)] at hall2
          have hyes : smallPC l t := ⟨h60, h61, hall, hall2⟩
          simp (config := {contextual := true}) only [go_sem, ↓reduceIte, reduceCtorEq, Bool.false_eq_true, Bool.true_eq_false, Nat.reduceAdd, Nat.reduceLT, Nat.reduceEqDiff, Nat.reduceLeDiff, Nat.reduceSub, Nat.reduceMul, hjt']
          simp [hyes]
    · have h61' : (60 : Int) < (t.length : Int) := by omega
      simp (config := {contextual := true}) only [go_sem, ↓reduceIte, reduceCtorEq, Bool.false_eq_true, Bool.true_eq_false, Nat.reduceAdd, Nat.reduceLT, Nat.reduceEqDiff, Nat.reduceLeDiff, Nat.reduceSub, Nat.reduceMul, h60', h61']
      exact hno fun h => h61 h.2.1
  · have h60' : (60 : Int) < (l.length : Int) := by omega
    simp (config := {contextual := true}) only [go_sem, ↓reduceIte, reduceCtorEq, Bool.false_eq_true, Bool.true_eq_false, Nat.reduceAdd, Nat.reduceLT, Nat.reduceEqDiff, Nat.reduceLeDiff, Nat.reduceSub, Nat.reduceMul, h60']
    exact hno fun h => h60 h.1

def wP2 : Pair := ⟨[97], [50]⟩
def wP1 : Pair := ⟨[97], [49]⟩
def wC1 : Change := ⟨1, [97], false, [], true, [49]⟩
def wC2 : Change := ⟨2, [97], true, [49], true, [50]⟩
theorem wv1 : atV [wP2] [wC1, wC2] 0 1 = ([wP1], 0) := by kernel_rfl
theorem wv2 : atV [wP2] [wC1, wC2] 0 0 = ([], 0) := by kernel_rfl
theorem wv3 : atV [wP2] [wC1, wC2] 1 0 = ([], 8) := by kernel_rfl
theorem wv4 : atGetV [wP2] [wC1, wC2] 0 1 [97] = ([49], true, 0) := by kernel_rfl
theorem wv5 : pageV [wP2] [wC1, wC2] 0 2 0 ⟨[], [], true⟩ = ([], true, 0) := by kernel_rfl

set_option maxRecDepth 10000 in
set_option maxHeartbeats 16000000 in
theorem law18_awake : Ct Try.prog 9 (YtnhkknaplkjigaaVm.ops []) (.vals [.bool true]) := by
  have c1 := past_At [wP2] [wC1, wC2] 0 1 (by decide) (by decide)
  rw [wv1] at c1
  have c2 := past_At [wP2] [wC1, wC2] 0 0 (by decide) (by decide)
  rw [wv2] at c2
  have c3 := past_At [wP2] [wC1, wC2] 1 0 (by decide) (by decide)
  rw [wv3] at c3
  have c4 := past_Get [wP2] [wC1, wC2] 0 1 [97] (by decide) (by decide)
  rw [wv4] at c4
  have c5 := past_Pages [wP2] [wC1, wC2] 0 2 0 ⟨[], [], true⟩ (by decide) (by decide)
  rw [wv5] at c5
  simp only at c1 c2 c3 c4 c5
  refine Ct.of_V Try.func9 rfl (by simp [YtnhkknaplkjigaaVm.ops, Try.f9]) ?_
  refine V.exec 400 ?_
  simp (config := {contextual := true}) only [go_sem, ↓reduceIte, reduceCtorEq, Bool.false_eq_true, Bool.true_eq_false, Nat.reduceAdd, Nat.reduceLT, Nat.reduceEqDiff, Nat.reduceLeDiff, Nat.reduceSub, Nat.reduceMul, Try.f9]
  refine V.call rfl rfl (by simp [dOK]) ⟨10, [], by simp only [go_sem, ↓reduceIte, reduceCtorEq, Bool.false_eq_true, Bool.true_eq_false, Nat.reduceAdd, Nat.reduceLT, Nat.reduceEqDiff, Nat.reduceLeDiff, Nat.reduceSub, Nat.reduceMul], ⟨_, rfl, rfl, rfl⟩, .inl ⟨[.row ([wP2].map Pair.pv), .row ([wC1, wC2].map Change.pv), .int .i64 0, .int .i64 1], _, .inl (by simp only [go_sem, ↓reduceIte, reduceCtorEq, Bool.false_eq_true, Bool.true_eq_false, Nat.reduceAdd, Nat.reduceLT, Nat.reduceEqDiff, Nat.reduceLeDiff, Nat.reduceSub, Nat.reduceMul, wC1, wC2, wP2, Pair.pv, Change.pv, List.map_cons, List.map_nil, decide_true, decide_false]), c1, .inr (.inl ⟨_, rfl, rfl, rfl⟩)⟩⟩ ?_
  refine V.exec 400 ?_
  simp (config := {contextual := true}) only [go_sem, ↓reduceIte, reduceCtorEq, Bool.false_eq_true, Bool.true_eq_false, Nat.reduceAdd, Nat.reduceLT, Nat.reduceEqDiff, Nat.reduceLeDiff, Nat.reduceSub, Nat.reduceMul, wC1, wC2, wP1, wP2, Change.pv, Pair.pv, List.map_cons, List.map_nil, decide_true, decide_false]
  refine V.call rfl rfl (by simp [dOK]) ⟨10, [], by simp only [go_sem, ↓reduceIte, reduceCtorEq, Bool.false_eq_true, Bool.true_eq_false, Nat.reduceAdd, Nat.reduceLT, Nat.reduceEqDiff, Nat.reduceLeDiff, Nat.reduceSub, Nat.reduceMul], ⟨_, rfl, rfl, rfl⟩, .inl ⟨[.row ([wP2].map Pair.pv), .row ([wC1, wC2].map Change.pv), .int .i64 0, .int .i64 0], _, .inl (by simp only [go_sem, ↓reduceIte, reduceCtorEq, Bool.false_eq_true, Bool.true_eq_false, Nat.reduceAdd, Nat.reduceLT, Nat.reduceEqDiff, Nat.reduceLeDiff, Nat.reduceSub, Nat.reduceMul, wC1, wC2, wP2, Pair.pv, Change.pv, List.map_cons, List.map_nil, decide_true, decide_false]), c2, .inr (.inl ⟨_, rfl, rfl, rfl⟩)⟩⟩ ?_
  refine V.exec 400 ?_
  simp (config := {contextual := true}) only [go_sem, ↓reduceIte, reduceCtorEq, Bool.false_eq_true, Bool.true_eq_false, Nat.reduceAdd, Nat.reduceLT, Nat.reduceEqDiff, Nat.reduceLeDiff, Nat.reduceSub, Nat.reduceMul, wC1, wC2, wP1, wP2, Change.pv, Pair.pv, List.map_cons, List.map_nil, decide_true, decide_false]
  refine V.call rfl rfl (by simp [dOK]) ⟨10, [], by simp only [go_sem, ↓reduceIte, reduceCtorEq, Bool.false_eq_true, Bool.true_eq_false, Nat.reduceAdd, Nat.reduceLT, Nat.reduceEqDiff, Nat.reduceLeDiff, Nat.reduceSub, Nat.reduceMul], ⟨_, rfl, rfl, rfl⟩, .inl ⟨[.row ([wP2].map Pair.pv), .row ([wC1, wC2].map Change.pv), .int .i64 1, .int .i64 0], _, .inl (by simp only [go_sem, ↓reduceIte, reduceCtorEq, Bool.false_eq_true, Bool.true_eq_false, Nat.reduceAdd, Nat.reduceLT, Nat.reduceEqDiff, Nat.reduceLeDiff, Nat.reduceSub, Nat.reduceMul, wC1, wC2, wP2, Pair.pv, Change.pv, List.map_cons, List.map_nil, decide_true, decide_false]), c3, .inr (.inl ⟨_, rfl, rfl, rfl⟩)⟩⟩ ?_
  refine V.exec 400 ?_
  simp (config := {contextual := true}) only [go_sem, ↓reduceIte, reduceCtorEq, Bool.false_eq_true, Bool.true_eq_false, Nat.reduceAdd, Nat.reduceLT, Nat.reduceEqDiff, Nat.reduceLeDiff, Nat.reduceSub, Nat.reduceMul, wC1, wC2, wP1, wP2, Change.pv, Pair.pv, List.map_cons, List.map_nil, decide_true, decide_false]
  refine V.call rfl rfl (by simp [dOK]) ⟨12, [], by simp only [go_sem, ↓reduceIte, reduceCtorEq, Bool.false_eq_true, Bool.true_eq_false, Nat.reduceAdd, Nat.reduceLT, Nat.reduceEqDiff, Nat.reduceLeDiff, Nat.reduceSub, Nat.reduceMul], ⟨_, rfl, rfl, rfl⟩, .inl ⟨[.row ([wP2].map Pair.pv), .row ([wC1, wC2].map Change.pv), .int .i64 0, .int .i64 1, .str [97]], _, .inl (by simp only [go_sem, ↓reduceIte, reduceCtorEq, Bool.false_eq_true, Bool.true_eq_false, Nat.reduceAdd, Nat.reduceLT, Nat.reduceEqDiff, Nat.reduceLeDiff, Nat.reduceSub, Nat.reduceMul, wC1, wC2, wP2, Pair.pv, Change.pv, List.map_cons, List.map_nil, decide_true, decide_false]), c4, .inr (.inl ⟨_, rfl, rfl, rfl⟩)⟩⟩ ?_
  refine V.exec 400 ?_
  simp (config := {contextual := true}) only [go_sem, ↓reduceIte, reduceCtorEq, Bool.false_eq_true, Bool.true_eq_false, Nat.reduceAdd, Nat.reduceLT, Nat.reduceEqDiff, Nat.reduceLeDiff, Nat.reduceSub, Nat.reduceMul, wC1, wC2, wP1, wP2, Change.pv, Pair.pv, List.map_cons, List.map_nil, decide_true, decide_false]
  refine V.call rfl rfl (by simp [dOK]) ⟨13, [], by simp only [go_sem, ↓reduceIte, reduceCtorEq, Bool.false_eq_true, Bool.true_eq_false, Nat.reduceAdd, Nat.reduceLT, Nat.reduceEqDiff, Nat.reduceLeDiff, Nat.reduceSub, Nat.reduceMul], ⟨_, rfl, rfl, rfl⟩, .inl ⟨[.row ([wP2].map Pair.pv), .row ([wC1, wC2].map Change.pv), .int .i64 0, .int .i64 2, .int .i64 0, Range.pv ⟨[], [], true⟩], _, .inl (by simp only [go_sem, ↓reduceIte, reduceCtorEq, Bool.false_eq_true, Bool.true_eq_false, Nat.reduceAdd, Nat.reduceLT, Nat.reduceEqDiff, Nat.reduceLeDiff, Nat.reduceSub, Nat.reduceMul, wC1, wC2, wP2, Pair.pv, Change.pv, Range.pv, List.map_cons, List.map_nil, decide_true, decide_false]), c5, .inr (.inl ⟨_, rfl, rfl, rfl⟩)⟩⟩ ?_
  refine V.exec 400 ?_
  have n1 : ((1 : Nat) : Int) = 1 := rfl
  have n0 : ((0 : Nat) : Int) = 0 := rfl
  have r1 : (0 : Int) ≤ 0 ∧ (0 : Int) < 1 := by decide
  have t0 : Int.toNat 0 = 0 := rfl
  simp (config := {contextual := true}) only [go_sem, ↓reduceIte, reduceCtorEq, Bool.false_eq_true, Bool.true_eq_false, Nat.reduceAdd, Nat.reduceLT, Nat.reduceEqDiff, Nat.reduceLeDiff, Nat.reduceSub, Nat.reduceMul, wC1, wC2, wP1, wP2, Change.pv, Pair.pv, List.map_cons, List.map_nil, List.length_cons, List.length_nil, decide_true, decide_false, n1, n0, r1, t0, List.getElem?_cons_zero]
end Go.Proofs.Ytnhkknaplkjigaa
set_option linter.unusedVariables false
set_option linter.unusedSimpArgs false
namespace Go.Proofs.Ytnhkknaplkjigaa
open Go Go.Proofs Go.Proofs.YtnhkknaplkjigaaVm Go.Proofs.Ytnhkknaplkjigaa.Ty

theorem int_bot' {a : Int} (w : (Lit.int .i64 a).wf = true) : -9223372036854775808 ≤ a := by
  simp only [Lit.wf, Bool.and_eq_true, decide_eq_true_eq] at w
  have e2 : IntKind.min .i64 = -9223372036854775808 := by decide
  rw [e2] at w
  exact w.1
theorem int_top' {a : Int} (w : (Lit.int .i64 a).wf = true) : a ≤ 9223372036854775807 := by
  simp only [Lit.wf, Bool.and_eq_true, decide_eq_true_eq] at w
  have e2 : IntKind.max .i64 = 9223372036854775807 := by decide
  rw [e2] at w
  exact w.2
theorem change_one' (qs : List PV) (hk : qs.map PV.kd = [.int .i64, .str, .bool, .str, .bool, .str]) : ∃ s : Change, PV.agg qs = s.pv := by
  match qs, hk with
  | [.int k n, .str a, .bool b, .str c, .bool d, .str e], hk =>
    simp only [List.map_cons, PV.kd, List.cons.injEq, KD.int.injEq] at hk
    obtain ⟨rfl, _⟩ := hk
    exact ⟨⟨n, a, b, c, d, e⟩, by simp [Change.pv]⟩
theorem change_of' (xs : List PV) (h : ∀ x ∈ xs, ∃ qs, x = .agg qs ∧ qs.map PV.kd = [.int .i64, .str, .bool, .str, .bool, .str] ∧ ∀ q ∈ qs, q.wfv) : ∃ t : List Change, xs = t.map Change.pv := by
  induction xs with
  | nil => exact ⟨[], rfl⟩
  | cons x r ih =>
    obtain ⟨t, rfl⟩ := ih (fun y hy => h y (List.mem_cons_of_mem _ hy))
    obtain ⟨qs, rfl, hk, hw⟩ := h x List.mem_cons_self
    obtain ⟨s, hs⟩ := change_one' qs hk
    exact ⟨s :: t, by rw [hs]; rfl⟩
theorem range_one (qs : List PV) (hk : qs.map PV.kd = [.str, .str, .bool]) : ∃ s : Range, PV.agg qs = s.pv := by
  match qs, hk with
  | [.str a, .str b, .bool c], hk => exact ⟨⟨a, b, c⟩, by simp [Range.pv]⟩

theorem atV_facts (l : List Pair) (t : List Change) (floor seq : Int) : ((atV l t floor seq).2 = 0 ∧ pairsOk (atV l t floor seq).1 ∧ ¬ seq < floor ∧ pairsOk l ∧ trailOk t) ∨ ((atV l t floor seq).1 = [] ∧ ((atV l t floor seq).2 = 1 ∧ (¬ (pairsOk l ∧ trailOk t) ∨ ¬ seq < floor) ∨ (atV l t floor seq).2 = 8 ∧ seq < floor)) := by
  unfold atV
  by_cases h : pairsOk l ∧ trailOk t
  · rw [if_pos h]
    by_cases hs : seq < floor
    · rw [if_pos hs]; exact .inr ⟨rfl, .inr ⟨rfl, hs⟩⟩
    · rw [if_neg hs]
      cases hb : backGo l (dropV t seq) with
      | none => exact .inr ⟨rfl, .inl ⟨rfl, .inr hs⟩⟩
      | some q => exact .inl ⟨rfl, backGo_ok h.1 hb, hs, h⟩
  · rw [if_neg h]; exact .inr ⟨rfl, .inl ⟨rfl, .inl h⟩⟩
theorem pageV_len (l : List Pair) (t : List Change) (floor seq most : Int) (r : Range) : (pageV l t floor seq most r).1.length ≤ l.length + t.length := by
  have h1 := atV_len l t floor seq
  have h2 := pickV_len r (atV l t floor seq).1
  unfold pageV
  split
  · simp only [List.length_take]; omega
  · simp
end Go.Proofs.Ytnhkknaplkjigaa
set_option linter.unusedVariables false
set_option linter.unusedSimpArgs false
namespace Go.Proofs.Ytnhkknaplkjigaa
open Go Go.Proofs Go.Proofs.YtnhkknaplkjigaaVm

theorem slt_zero : ∀ (k x : List UInt8), ¬ slt k (x ++ [0]) ↔ slt x k
  | [], x => by
    constructor
    · intro h
      cases x with
      | nil => exact absurd (by simp [slt, strLt, Op.bytesLess]) h
      | cons a r => exact absurd (by simp [slt, strLt, Op.bytesLess]) h
    · intro h; exact absurd h (slt_nil x)
  | a :: k, [] => by
    constructor
    · intro _; simp [slt, strLt, Op.bytesLess]
    · intro _ h
      rw [List.nil_append, slt_cons] at h
      rcases h with h | ⟨_, h⟩
      · have : a.toNat < (0 : UInt8).toNat := h
        simp at this
      · exact slt_nil k h
  | a :: k, b :: x => by
    have ih := slt_zero k x
    rw [List.cons_append, slt_cons, slt_cons]
    constructor
    · intro h
      by_cases hab : a = b
      · subst hab
        exact .inr ⟨rfl, ih.1 fun g => h (.inr ⟨rfl, g⟩)⟩
      · left
        have h1 : ¬ a < b := fun g => h (.inl g)
        have h2 : ¬ a.toNat < b.toNat := h1
        have h3 : a.toNat ≠ b.toNat := fun g => hab (UInt8.toNat_inj.1 g)
        show b.toNat < a.toNat
        omega
    · intro h g
      rcases h with h | ⟨rfl, h⟩
      · have h' : b.toNat < a.toNat := h
        rcases g with g | ⟨rfl, _⟩
        · have g' : a.toNat < b.toNat := g
          omega
        · omega
      · rcases g with g | ⟨_, g⟩
        · have g' : b.toNat < b.toNat := g
          omega
        · exact ih.2 h g
theorem sorted_drop : ∀ {P : List Pair}, Sorted P → ∀ {j : Nat} {x : Pair}, P[j]? = some x → P.filter (fun p => decide (slt x.key p.key)) = P.drop (j + 1)
  | [], _, _, _, h => by simp at h
  | p :: r, hs, 0, x, h => by
    simp at h
    subst h
    have hs' := List.pairwise_cons.1 hs
    rw [List.filter_cons]
    simp only [slt_irrefl, decide_false, Bool.false_eq_true, if_false]
    rw [List.filter_eq_self.2 (fun y hy => by simpa using hs'.1 y hy)]
    rfl
  | p :: r, hs, j + 1, x, h => by
    rw [List.getElem?_cons_succ] at h
    have hs' := List.pairwise_cons.1 hs
    have hx := hs'.1 x (List.mem_of_getElem? h)
    rw [List.filter_cons]
    simp only [slt_asymm hx, decide_false, Bool.false_eq_true, if_false]
    rw [sorted_drop hs'.2 h]
    rfl
/-- What is behind a key of a range's pairs is the rest of them. -/
theorem pick_behind {p : List Pair} (hs : Sorted p) (r : Range) {j : Nat} {x : Pair} (h : (pickV r p)[j]? = some x) : pickV ⟨x.key ++ [0], r.hi, r.op⟩ p = (pickV r p).drop (j + 1) := by
  have hx := List.mem_of_getElem? h
  have hxi : r.isIn x.key := by simpa using (List.mem_filter.1 hx).2
  have hsp : Sorted (pickV r p) := List.Pairwise.sublist List.filter_sublist hs
  rw [← sorted_drop hsp h]
  unfold pickV
  rw [List.filter_filter]
  congr 1
  funext q
  have e : (Range.isIn ⟨x.key ++ [0], r.hi, r.op⟩ q.key) ↔ (slt x.key q.key ∧ r.isIn q.key) := by
    unfold Range.isIn
    simp only
    rw [slt_zero]
    constructor
    · rintro ⟨h1, h2⟩
      refine ⟨h1, fun h3 => ?_, h2⟩
      exact hxi.1 (slt_trans h1 h3)
    · rintro ⟨h1, h2, h3⟩
      exact ⟨h1, h3⟩
  by_cases h1 : slt x.key q.key <;> by_cases h2 : r.isIn q.key <;> simp [e, h1, h2]
end Go.Proofs.Ytnhkknaplkjigaa
