/- A part of a proof: functions of the program, walked. -/
import Derived.Test.YtjbfcmaiejlnbaaG4
set_option linter.unusedVariables false
set_option linter.unusedSimpArgs false
namespace Go.Proofs.Ytjbfcmaiejlnbaa
open Go Go.Proofs Go.Proofs.YtjbfcmaiejlnbaaVm Go.Proofs.Ytjbfcmaiejlnbaa.Ty

def Range.isIn (r : Range) (k : List UInt8) : Prop := ¬ slt k r.lo ∧ (r.op = true ∨ slt k r.hi)
instance Range.instIn (r : Range) (k : List UInt8) : Decidable (r.isIn k) := by unfold Range.isIn; infer_instance

theorem stretch_In (r : Range) (k : List UInt8) : Ct Try.prog 41 (YtjbfcmaiejlnbaaVm.ops [r.pv, .str k]) (.vals [.bool (decide (r.isIn k))]) := by
  refine Ct.of_V Try.func41 rfl (by simp [YtjbfcmaiejlnbaaVm.ops, Try.f41]) ?_
  refine V.exec 400 ?_
  simp (config := {contextual := true}) only [go_sem, ↓reduceIte, reduceCtorEq, Bool.false_eq_true, Bool.true_eq_false, Nat.reduceAdd, Nat.reduceLT, Nat.reduceEqDiff, Nat.reduceLeDiff, Nat.reduceSub, Nat.reduceMul, Try.f41, Range.pv]
  simp only [Option.some.injEq, List.cons.injEq, PV.bool.injEq, and_true]
  grind [Range.isIn]

def maxStr (a b : List UInt8) : List UInt8 := if slt a b then b else a
def minStr (a b : List UInt8) : List UInt8 := if slt a b ∨ a = b then a else b
def meetStep (o r : Range) : Range :=
  if r.op = true then { o with lo := maxStr o.lo r.lo } else if o.op = true then ⟨maxStr o.lo r.lo, r.hi, false⟩ else ⟨maxStr o.lo r.lo, minStr o.hi r.hi, o.op⟩
def meetV (l : List Range) : Range := l.foldl meetStep ⟨[], [], true⟩

set_option maxHeartbeats 4000000 in
theorem stretch_Meet (l : List Range) (hl : l.length ≤ 1000000) : Ct Try.prog 38 (YtjbfcmaiejlnbaaVm.ops [.row (l.map Range.pv)]) (.vals [(meetV l).pv]) := by
  refine Ct.of_V Try.func38 rfl (by simp [YtjbfcmaiejlnbaaVm.ops, Try.f38]) ?_
  refine V.exec 400 ?_
  simp (config := {contextual := true}) only [go_sem, ↓reduceIte, reduceCtorEq, Bool.false_eq_true, Bool.true_eq_false, Nat.reduceAdd, Nat.reduceLT, Nat.reduceEqDiff, Nat.reduceLeDiff, Nat.reduceSub, Nat.reduceMul, Try.f38]
  refine V.loop (fun m ls os => ∃ (i : Nat) (o : Range), i ≤ l.length ∧ m = l.length - i ∧ (l.drop i).foldl meetStep o = meetV l ∧
        ls = [(2, .adr 0 0), (3, .adr 1 0), (7, .val (.row (l.map Range.pv))), (8, .val (.int .i64 l.length)), (9, .val (.int .i64 i))] ∧
        os = [.box true [.val (.str []), .val (.str []), .val (.bool false)], .box true [.val (.str o.lo), .val (.str o.hi), .val (.bool (decide (o.op = true)))]]) 2 l.length
      [(2, .adr 0 0), (3, .adr 1 0), (7, .val (.row (l.map Range.pv))), (8, .val (.int .i64 l.length)), (9, .val (.int .i64 0))]
      [.box true [.val (.str []), .val (.str []), .val (.bool false)], .box true [.val (.str []), .val (.str []), .val (.bool (decide (true = true)))]] [some 1, some 3]
      ⟨0, ⟨[], [], true⟩, Nat.zero_le _, rfl, rfl, rfl, rfl⟩ (by simp only [go_sem, ↓reduceIte, reduceCtorEq, Bool.false_eq_true, Bool.true_eq_false, Nat.reduceAdd, Nat.reduceLT, Nat.reduceEqDiff, Nat.reduceLeDiff, Nat.reduceSub, Nat.reduceMul]; try decide) ?_
  rintro m ls os ⟨i, o, hi, rfl, hf, rfl, rfl⟩
  refine V.exec 400 ?_
  by_cases hlt : i < l.length
  · have hlt' : (i : Int) < (l.length : Int) := by omega
    obtain ⟨x, hx⟩ : ∃ x, l[i]? = some x := ⟨_, List.getElem?_eq_getElem hlt⟩
    have hw : IntKind.i64.wrap ((i : Int) + 1) = ((i + 1 : Nat) : Int) := by rw [wrap_small3] <;> omega
    rw [drop_of_get hx, List.foldl_cons] at hf
    simp (config := {contextual := true}) only [go_sem, ↓reduceIte, reduceCtorEq, Bool.false_eq_true, Bool.true_eq_false, Nat.reduceAdd, Nat.reduceLT, Nat.reduceEqDiff, Nat.reduceLeDiff, Nat.reduceSub, Nat.reduceMul, hlt', hx, Range.pv, hw]
    refine ⟨fun h1 => ?_, fun h1 => ⟨fun h2 => ?_, fun h2 => ?_⟩⟩
    all_goals refine ⟨l.length - (i + 1), _, _, [some 0, some 1], by omega, ⟨i + 1, meetStep o x, by omega, rfl, hf, rfl, rfl⟩, ?_⟩
    · have e : meetStep o x = ⟨maxStr o.lo x.lo, o.hi, o.op⟩ := by simp [meetStep, h1]
      simp only [go_sem, ↓reduceIte, reduceCtorEq, Bool.false_eq_true, Bool.true_eq_false, Nat.reduceAdd, Nat.reduceLT, Nat.reduceEqDiff, Nat.reduceLeDiff, Nat.reduceSub, Nat.reduceMul, e, maxStr, minStr]
      try decide
    · have e : meetStep o x = ⟨maxStr o.lo x.lo, x.hi, false⟩ := by simp [meetStep, h1, h2]
      simp only [go_sem, ↓reduceIte, reduceCtorEq, Bool.false_eq_true, Bool.true_eq_false, Nat.reduceAdd, Nat.reduceLT, Nat.reduceEqDiff, Nat.reduceLeDiff, Nat.reduceSub, Nat.reduceMul, e, maxStr, minStr]
      try decide
    · have e : meetStep o x = ⟨maxStr o.lo x.lo, minStr o.hi x.hi, o.op⟩ := by simp [meetStep, h1, h2]
      simp only [go_sem, ↓reduceIte, reduceCtorEq, Bool.false_eq_true, Bool.true_eq_false, Nat.reduceAdd, Nat.reduceLT, Nat.reduceEqDiff, Nat.reduceLeDiff, Nat.reduceSub, Nat.reduceMul, e, maxStr, minStr, h2]
      try decide
  · have hlt' : ¬ (i : Int) < (l.length : Int) := by omega
    have hd : l.drop i = [] := List.drop_eq_nil_of_le (by omega)
    rw [hd, List.foldl_nil] at hf
    simp (config := {contextual := true}) only [go_sem, ↓reduceIte, reduceCtorEq, Bool.false_eq_true, Bool.true_eq_false, Nat.reduceAdd, Nat.reduceLT, Nat.reduceEqDiff, Nat.reduceLeDiff, Nat.reduceSub, Nat.reduceMul, hlt', ← hf, Range.pv]
end Go.Proofs.Ytjbfcmaiejlnbaa
