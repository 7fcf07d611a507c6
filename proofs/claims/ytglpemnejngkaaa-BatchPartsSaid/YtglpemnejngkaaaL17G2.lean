/- A part of a proof: functions of the program, walked. -/
import Derived.Test.YtglpemnejngkaaaL17G1
set_option linter.unusedVariables false
set_option linter.unusedSimpArgs false
namespace Go.Proofs.Ytglpemnejngkaaa
open Go Go.Proofs Go.Proofs.YtglpemnejngkaaaVm Go.Proofs.Ytglpemnejngkaaa.Ty

structure Change where
  seq : Int
  key : List UInt8
  had : Bool
  bef : List UInt8
  has : Bool
  aft : List UInt8
  deriving DecidableEq
def Change.pv (c : Change) : PV := .agg [.int .i64 c.seq, .str c.key, .bool (decide (c.had = true)), .str c.bef, .bool (decide (c.has = true)), .str c.aft]
/-- May a change be? -/
def Change.ok (c : Change) : Prop := c.key.length ≤ 16 ∧ c.bef.length ≤ 32 ∧ c.aft.length ≤ 32 ∧ 1 ≤ c.seq ∧ c.seq ≤ 2147483647 ∧ (c.had = true ∨ c.bef = []) ∧ (c.has = true ∨ c.aft = []) ∧ (c.had = true ∨ c.has = true)
instance Change.instOk (c : Change) : Decidable c.ok := by unfold Change.ok; infer_instance

theorem pairsOk_one (k v : List UInt8) : pairsOk [⟨k, v⟩] ↔ k.length ≤ 16 ∧ v.length ≤ 32 := by simp [pairsOk, pairsFrom]

set_option maxRecDepth 4000 in
set_option maxHeartbeats 4000000 in
theorem flat_May (c : Change) : Ct Try.prog 37 (YtglpemnejngkaaaVm.ops [c.pv]) (.vals [.bool (decide c.ok)]) := by
  refine Ct.of_V Try.func37 rfl (by simp [YtglpemnejngkaaaVm.ops, Try.f37]) ?_
  refine V.exec 400 ?_
  simp (config := {contextual := true}) only [go_sem, ↓reduceIte, reduceCtorEq, Bool.false_eq_true, Bool.true_eq_false, Nat.reduceAdd, Nat.reduceLT, Nat.reduceEqDiff, Nat.reduceLeDiff, Nat.reduceSub, Nat.reduceMul, Try.f37, Change.pv]
  refine V.call rfl rfl (by simp [dOK]) ⟨21, [], by simp only [go_sem, ↓reduceIte, reduceCtorEq, Bool.false_eq_true, Bool.true_eq_false, Nat.reduceAdd, Nat.reduceLT, Nat.reduceEqDiff, Nat.reduceLeDiff, Nat.reduceSub, Nat.reduceMul], ⟨_, rfl, rfl, rfl⟩, .inl ⟨[.row ([(⟨c.key, c.bef⟩ : Pair)].map Pair.pv)], _, .inl (by simp only [go_sem, ↓reduceIte, reduceCtorEq, Bool.false_eq_true, Bool.true_eq_false, Nat.reduceAdd, Nat.reduceLT, Nat.reduceEqDiff, Nat.reduceLeDiff, Nat.reduceSub, Nat.reduceMul, Pair.pv, List.map_cons, List.map_nil]), leaf_Right [⟨c.key, c.bef⟩] (by simp), .inl ⟨_, rfl, rfl, rfl, rfl⟩⟩⟩ ?_
  refine V.exec 400 ?_
  by_cases h1 : pairsOk [(⟨c.key, c.bef⟩ : Pair)]
  · simp (config := {contextual := true}) only [go_sem, ↓reduceIte, reduceCtorEq, Bool.false_eq_true, Bool.true_eq_false, Nat.reduceAdd, Nat.reduceLT, Nat.reduceEqDiff, Nat.reduceLeDiff, Nat.reduceSub, Nat.reduceMul, Pair.pv, List.map_cons, List.map_nil, h1]
    refine V.call rfl rfl (by simp [dOK]) ⟨21, [], by simp only [go_sem, ↓reduceIte, reduceCtorEq, Bool.false_eq_true, Bool.true_eq_false, Nat.reduceAdd, Nat.reduceLT, Nat.reduceEqDiff, Nat.reduceLeDiff, Nat.reduceSub, Nat.reduceMul], ⟨_, rfl, rfl, rfl⟩, .inl ⟨[.row ([(⟨c.key, c.aft⟩ : Pair)].map Pair.pv)], _, .inl (by simp only [go_sem, ↓reduceIte, reduceCtorEq, Bool.false_eq_true, Bool.true_eq_false, Nat.reduceAdd, Nat.reduceLT, Nat.reduceEqDiff, Nat.reduceLeDiff, Nat.reduceSub, Nat.reduceMul, Pair.pv, List.map_cons, List.map_nil]), leaf_Right [⟨c.key, c.aft⟩] (by simp), .inl ⟨_, rfl, rfl, rfl, rfl⟩⟩⟩ ?_
    refine V.exec 400 ?_
    rw [pairsOk_one] at h1
    by_cases h2 : pairsOk [(⟨c.key, c.aft⟩ : Pair)]
    · simp (config := {contextual := true}) only [go_sem, ↓reduceIte, reduceCtorEq, Bool.false_eq_true, Bool.true_eq_false, Nat.reduceAdd, Nat.reduceLT, Nat.reduceEqDiff, Nat.reduceLeDiff, Nat.reduceSub, Nat.reduceMul, Pair.pv, List.map_cons, List.map_nil, h2]
      rw [pairsOk_one] at h2
      simp only [Option.some.injEq, List.cons.injEq, PV.bool.injEq, and_true]
      grind [Change.ok]
    · simp (config := {contextual := true}) only [go_sem, ↓reduceIte, reduceCtorEq, Bool.false_eq_true, Bool.true_eq_false, Nat.reduceAdd, Nat.reduceLT, Nat.reduceEqDiff, Nat.reduceLeDiff, Nat.reduceSub, Nat.reduceMul, Pair.pv, List.map_cons, List.map_nil, h2]
      rw [pairsOk_one] at h2
      have : ¬ c.ok := fun h => h2 ⟨h.1, h.2.2.1⟩
      simp [this]
  · simp (config := {contextual := true}) only [go_sem, ↓reduceIte, reduceCtorEq, Bool.false_eq_true, Bool.true_eq_false, Nat.reduceAdd, Nat.reduceLT, Nat.reduceEqDiff, Nat.reduceLeDiff, Nat.reduceSub, Nat.reduceMul, Pair.pv, List.map_cons, List.map_nil, h1]
    rw [pairsOk_one] at h1
    have : ¬ c.ok := fun h => h1 ⟨h.1, h.2.1⟩
    simp [this]
end Go.Proofs.Ytglpemnejngkaaa
