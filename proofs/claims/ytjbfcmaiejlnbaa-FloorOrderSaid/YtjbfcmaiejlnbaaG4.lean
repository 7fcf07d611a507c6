/- A part of a proof: functions of the program, walked. -/
import Derived.Test.YtjbfcmaiejlnbaaG3
import Derived.Test.YtjbfcmaiejlnbaaF2
set_option linter.unusedVariables false
set_option linter.unusedSimpArgs false
namespace Go.Proofs.Ytjbfcmaiejlnbaa
open Go Go.Proofs Go.Proofs.YtjbfcmaiejlnbaaVm Go.Proofs.Ytjbfcmaiejlnbaa.Ty

def Change.of : PV → Change
  | .agg [.int _ s, .str k, .bool h, .str b, .bool h', .str a] => ⟨s, k, h, b, h', a⟩
  | _ => ⟨0, [], false, [], false, []⟩
theorem Change.of_pv (c : Change) : Change.of c.pv = c := by simp [Change.of, Change.pv]
theorem Change.filter_pv (l : List Change) (p : Change → Bool) : (l.map Change.pv).filter (fun x => !p (Change.of x)) = (l.filter fun c => !p c).map Change.pv := by
  induction l with
  | nil => rfl
  | cons s r ih =>
    simp only [List.map_cons, List.filter_cons, Change.of_pv, ih]
    split <;> rfl

def withoutV (l : List Change) (p : Change → Bool) : List Change := if trailOk l then l.filter (fun c => !p c) else []

set_option maxHeartbeats 4000000 in
theorem trail_without (l : List Change) (g : FuncId) (caps : List PV) (p : Change → Bool) (hl : l.length ≤ 1000000) (hg : Entered Try.prog g)
    (hp : ∀ x ∈ l, Ct Try.prog g (YtjbfcmaiejlnbaaVm.ops ([x.pv] ++ caps)) (.vals [.bool (decide (p x = true))])) :
    Ct Try.prog 39 (YtjbfcmaiejlnbaaVm.ops [.row (l.map Change.pv), .fn g caps]) (.vals [.row ((withoutV l p).map Change.pv)]) := by
  refine Ct.of_V Try.func39 rfl (by simp [YtjbfcmaiejlnbaaVm.ops, Try.f39]) ?_
  refine V.exec 400 ?_
  simp (config := {contextual := true}) only [go_sem, ↓reduceIte, reduceCtorEq, Bool.false_eq_true, Bool.true_eq_false, Nat.reduceAdd, Nat.reduceLT, Nat.reduceEqDiff, Nat.reduceLeDiff, Nat.reduceSub, Nat.reduceMul, Try.f39]
  refine V.call rfl rfl (by simp [dOK]) ⟨51, [], by simp only [go_sem, ↓reduceIte, reduceCtorEq, Bool.false_eq_true, Bool.true_eq_false, Nat.reduceAdd, Nat.reduceLT, Nat.reduceEqDiff, Nat.reduceLeDiff, Nat.reduceSub, Nat.reduceMul], ⟨_, rfl, rfl, rfl⟩, .inl ⟨[.row (l.map Change.pv)], _, .inl (by simp only [go_sem, ↓reduceIte, reduceCtorEq, Bool.false_eq_true, Bool.true_eq_false, Nat.reduceAdd, Nat.reduceLT, Nat.reduceEqDiff, Nat.reduceLeDiff, Nat.reduceSub, Nat.reduceMul]), trail_Right l hl, .inl ⟨_, rfl, rfl, rfl, rfl⟩⟩⟩ ?_
  refine V.exec 400 ?_
  by_cases hok : trailOk l
  · have hv : withoutV l p = l.filter (fun c => !p c) := by simp [withoutV, hok]
    simp (config := {contextual := true}) only [go_sem, ↓reduceIte, reduceCtorEq, Bool.false_eq_true, Bool.true_eq_false, Nat.reduceAdd, Nat.reduceLT, Nat.reduceEqDiff, Nat.reduceLeDiff, Nat.reduceSub, Nat.reduceMul, hok, hv]
    have h7 : ∀ x ∈ l.map Change.pv, x.cells.length = 6 ∧ x.isAgg = true ∧ ∀ c ∈ x.cells, c.isAgg = false := fun x hx => by
      obtain ⟨s, _, rfl⟩ := List.mem_map.1 hx
      exact ⟨rfl, rfl, by simp [Change.pv, PV.cells, PV.isAgg]⟩
    have hdel := DeleteFuncChange (l.map Change.pv) g caps (fun x => p (Change.of x)) h7 (by simpa using hl) hg (fun x hx => by
      obtain ⟨s, hs, rfl⟩ := List.mem_map.1 hx
      rw [Change.of_pv]
      exact hp s hs) (by simp only [go_sem, ↓reduceIte, reduceCtorEq, Bool.false_eq_true, Bool.true_eq_false, Nat.reduceAdd, Nat.reduceLT, Nat.reduceEqDiff, Nat.reduceLeDiff, Nat.reduceSub, Nat.reduceMul])
    rw [Change.filter_pv] at hdel
    refine V.call rfl rfl (by simp [dOK]) ⟨53, [], by simp only [go_sem, ↓reduceIte, reduceCtorEq, Bool.false_eq_true, Bool.true_eq_false, Nat.reduceAdd, Nat.reduceLT, Nat.reduceEqDiff, Nat.reduceLeDiff, Nat.reduceSub, Nat.reduceMul], ⟨_, rfl, rfl, rfl⟩, .inl ⟨[.row (l.map Change.pv)], _, .inl (by simp only [go_sem, ↓reduceIte, reduceCtorEq, Bool.false_eq_true, Bool.true_eq_false, Nat.reduceAdd, Nat.reduceLT, Nat.reduceEqDiff, Nat.reduceLeDiff, Nat.reduceSub, Nat.reduceMul]), CloneChange (l.map Change.pv) (fun x hx => (h7 x hx).1) (by simpa using hl), .inr (.inr ⟨68, (l.map Change.pv)   , rfl, by simp only [go_sem, ↓reduceIte, reduceCtorEq, Bool.false_eq_true, Bool.true_eq_false, Nat.reduceAdd, Nat.reduceLT, Nat.reduceEqDiff, Nat.reduceLeDiff, Nat.reduceSub, Nat.reduceMul], rfl, rfl⟩)⟩⟩ ?_
    refine V.exec 400 ?_
    simp (config := {contextual := true}) only [go_sem, ↓reduceIte, reduceCtorEq, Bool.false_eq_true, Bool.true_eq_false, Nat.reduceAdd, Nat.reduceLT, Nat.reduceEqDiff, Nat.reduceLeDiff, Nat.reduceSub, Nat.reduceMul]
    refine V.call rfl rfl (by simp [dOK]) ⟨52, [], by simp only [go_sem, ↓reduceIte, reduceCtorEq, Bool.false_eq_true, Bool.true_eq_false, Nat.reduceAdd, Nat.reduceLT, Nat.reduceEqDiff, Nat.reduceLeDiff, Nat.reduceSub, Nat.reduceMul], ⟨_, rfl, rfl, rfl⟩, .inr ⟨7, 68, l.map Change.pv, [.val (.fn g caps)], [.fn g caps], 68, _, by simp only [go_sem, ↓reduceIte, reduceCtorEq, Bool.false_eq_true, Bool.true_eq_false, Nat.reduceAdd, Nat.reduceLT, Nat.reduceEqDiff, Nat.reduceLeDiff, Nat.reduceSub, Nat.reduceMul], by simp only [go_sem, ↓reduceIte, reduceCtorEq, Bool.false_eq_true, Bool.true_eq_false, Nat.reduceAdd, Nat.reduceLT, Nat.reduceEqDiff, Nat.reduceLeDiff, Nat.reduceSub, Nat.reduceMul], .inl (by simp only [go_sem, ↓reduceIte, reduceCtorEq, Bool.false_eq_true, Bool.true_eq_false, Nat.reduceAdd, Nat.reduceLT, Nat.reduceEqDiff, Nat.reduceLeDiff, Nat.reduceSub, Nat.reduceMul]), hdel, by simp only [go_sem, ↓reduceIte, reduceCtorEq, Bool.false_eq_true, Bool.true_eq_false, Nat.reduceAdd, Nat.reduceLT, Nat.reduceEqDiff, Nat.reduceLeDiff, Nat.reduceSub, Nat.reduceMul], rfl, rfl⟩⟩ ?_
    refine V.exec 400 ?_
    simp (config := {contextual := true}) only [go_sem, ↓reduceIte, reduceCtorEq, Bool.false_eq_true, Bool.true_eq_false, Nat.reduceAdd, Nat.reduceLT, Nat.reduceEqDiff, Nat.reduceLeDiff, Nat.reduceSub, Nat.reduceMul]
  · have hv : withoutV l p = [] := by simp [withoutV, hok]
    simp (config := {contextual := true}) only [go_sem, ↓reduceIte, reduceCtorEq, Bool.false_eq_true, Bool.true_eq_false, Nat.reduceAdd, Nat.reduceLT, Nat.reduceEqDiff, Nat.reduceLeDiff, Nat.reduceSub, Nat.reduceMul, hok, hv, List.map_nil]

theorem trail_Drop1 (c : Change) (n : Int) : Ct Try.prog 49 (YtjbfcmaiejlnbaaVm.ops [c.pv, .ptr (.int .i64 n)]) (.vals [.bool (decide (c.seq ≤ n))]) := by
  refine Ct.of_V Try.func49 rfl (by simp [YtjbfcmaiejlnbaaVm.ops, Try.f49]) ?_
  refine V.exec 400 ?_
  simp (config := {contextual := true}) only [go_sem, ↓reduceIte, reduceCtorEq, Bool.false_eq_true, Bool.true_eq_false, Nat.reduceAdd, Nat.reduceLT, Nat.reduceEqDiff, Nat.reduceLeDiff, Nat.reduceSub, Nat.reduceMul, Try.f49, Change.pv]

def dropV (l : List Change) (n : Int) : List Change := withoutV l (fun c => decide (c.seq ≤ n))
theorem trail_Drop (l : List Change) (n : Int) (hl : l.length ≤ 1000000) : Ct Try.prog 36 (YtjbfcmaiejlnbaaVm.ops [.row (l.map Change.pv), .int .i64 n]) (.vals [.row ((dropV l n).map Change.pv)]) := by
  refine Ct.of_V Try.func36 rfl (by simp [YtjbfcmaiejlnbaaVm.ops, Try.f36]) ?_
  refine V.exec 400 ?_
  simp (config := {contextual := true}) only [go_sem, ↓reduceIte, reduceCtorEq, Bool.false_eq_true, Bool.true_eq_false, Nat.reduceAdd, Nat.reduceLT, Nat.reduceEqDiff, Nat.reduceLeDiff, Nat.reduceSub, Nat.reduceMul, Try.f36]
  refine V.call rfl rfl (by simp [dOK]) ⟨39, [], by simp only [go_sem, ↓reduceIte, reduceCtorEq, Bool.false_eq_true, Bool.true_eq_false, Nat.reduceAdd, Nat.reduceLT, Nat.reduceEqDiff, Nat.reduceLeDiff, Nat.reduceSub, Nat.reduceMul], ⟨_, rfl, rfl, rfl⟩, .inl ⟨[.row (l.map Change.pv), .fn 49 [.ptr (.int .i64 n)]], _, .inl (by simp only [go_sem, ↓reduceIte, reduceCtorEq, Bool.false_eq_true, Bool.true_eq_false, Nat.reduceAdd, Nat.reduceLT, Nat.reduceEqDiff, Nat.reduceLeDiff, Nat.reduceSub, Nat.reduceMul]), trail_without l 49 [.ptr (.int .i64 n)] (fun c => decide (c.seq ≤ n)) hl ⟨_, rfl, rfl, rfl⟩ (fun x _ => by simpa using trail_Drop1 x n), .inr (.inl ⟨_, rfl, rfl, rfl⟩)⟩⟩ ?_
  refine V.exec 400 ?_
  simp (config := {contextual := true}) only [go_sem, ↓reduceIte, reduceCtorEq, Bool.false_eq_true, Bool.true_eq_false, Nat.reduceAdd, Nat.reduceLT, Nat.reduceEqDiff, Nat.reduceLeDiff, Nat.reduceSub, Nat.reduceMul]
  rfl

theorem floor_Trim (t : List Change) (h : Int) (l : List Sub) (ht : t.length ≤ 1000000) (hl : l.length ≤ 1000000) : Ct Try.prog 17 (YtjbfcmaiejlnbaaVm.ops [.row (t.map Change.pv), .int .i64 h, .row (l.map Sub.pv)])
    (.vals [.row ((dropV t (floorOf h l)).map Change.pv), .int .i64 (floorOf h l)]) := by
  refine Ct.of_V Try.func17 rfl (by simp [YtjbfcmaiejlnbaaVm.ops, Try.f17]) ?_
  refine V.exec 400 ?_
  simp (config := {contextual := true}) only [go_sem, ↓reduceIte, reduceCtorEq, Bool.false_eq_true, Bool.true_eq_false, Nat.reduceAdd, Nat.reduceLT, Nat.reduceEqDiff, Nat.reduceLeDiff, Nat.reduceSub, Nat.reduceMul, Try.f17]
  refine V.call rfl rfl (by simp [dOK]) ⟨14, [], by simp only [go_sem, ↓reduceIte, reduceCtorEq, Bool.false_eq_true, Bool.true_eq_false, Nat.reduceAdd, Nat.reduceLT, Nat.reduceEqDiff, Nat.reduceLeDiff, Nat.reduceSub, Nat.reduceMul], ⟨_, rfl, rfl, rfl⟩, .inl ⟨[.int .i64 h, .row (l.map Sub.pv)], _, .inl (by simp only [go_sem, ↓reduceIte, reduceCtorEq, Bool.false_eq_true, Bool.true_eq_false, Nat.reduceAdd, Nat.reduceLT, Nat.reduceEqDiff, Nat.reduceLeDiff, Nat.reduceSub, Nat.reduceMul]), floor_Of h l hl, .inl ⟨_, rfl, rfl, rfl, rfl⟩⟩⟩ ?_
  refine V.exec 400 ?_
  simp (config := {contextual := true}) only [go_sem, ↓reduceIte, reduceCtorEq, Bool.false_eq_true, Bool.true_eq_false, Nat.reduceAdd, Nat.reduceLT, Nat.reduceEqDiff, Nat.reduceLeDiff, Nat.reduceSub, Nat.reduceMul]
  refine V.call rfl rfl (by simp [dOK]) ⟨36, [], by simp only [go_sem, ↓reduceIte, reduceCtorEq, Bool.false_eq_true, Bool.true_eq_false, Nat.reduceAdd, Nat.reduceLT, Nat.reduceEqDiff, Nat.reduceLeDiff, Nat.reduceSub, Nat.reduceMul], ⟨_, rfl, rfl, rfl⟩, .inl ⟨[.row (t.map Change.pv), .int .i64 (floorOf h l)], _, .inl (by simp only [go_sem, ↓reduceIte, reduceCtorEq, Bool.false_eq_true, Bool.true_eq_false, Nat.reduceAdd, Nat.reduceLT, Nat.reduceEqDiff, Nat.reduceLeDiff, Nat.reduceSub, Nat.reduceMul]), trail_Drop t (floorOf h l) ht, .inr (.inl ⟨_, rfl, rfl, rfl⟩)⟩⟩ ?_
  refine V.exec 400 ?_
  simp (config := {contextual := true}) only [go_sem, ↓reduceIte, reduceCtorEq, Bool.false_eq_true, Bool.true_eq_false, Nat.reduceAdd, Nat.reduceLT, Nat.reduceEqDiff, Nat.reduceLeDiff, Nat.reduceSub, Nat.reduceMul]
end Go.Proofs.Ytjbfcmaiejlnbaa
