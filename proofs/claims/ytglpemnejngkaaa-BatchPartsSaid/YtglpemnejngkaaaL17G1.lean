/- A part of a proof: functions of the program, walked. -/
import Derived.Test.YtglpemnejngkaaaL17Base
set_option linter.unusedVariables false
set_option linter.unusedSimpArgs false
namespace Go.Proofs.Ytglpemnejngkaaa
open Go Go.Proofs Go.Proofs.YtglpemnejngkaaaVm Go.Proofs.Ytglpemnejngkaaa.Ty

structure Pair where
  key : List UInt8
  value : List UInt8
  deriving DecidableEq
def Pair.pv (p : Pair) : PV := .agg [.str p.key, .str p.value]

/-- Keys that rise, all short. -/
def pairsFrom : Option (List UInt8) → List Pair → Prop
  | _, [] => True
  | last, p :: r => p.key.length ≤ 16 ∧ p.value.length ≤ 32 ∧ (∀ k, last = some k → slt k p.key) ∧ pairsFrom (some p.key) r
def pairsOk (l : List Pair) : Prop := pairsFrom none l
instance instPF : ∀ (last : Option (List UInt8)) (l : List Pair), Decidable (pairsFrom last l)
  | _, [] => isTrue trivial
  | none, s :: r => by
    unfold pairsFrom
    have := instPF (some s.key) r
    have : Decidable (∀ k, none = some k → slt k s.key) := isTrue (fun k h => by cases h)
    infer_instance
  | some k, s :: r => by
    unfold pairsFrom
    have := instPF (some s.key) r
    have : Decidable (∀ k', some k = some k' → slt k' s.key) := decidable_of_iff (slt k s.key) ⟨fun h k' e => by cases e; exact h, fun h => h k rfl⟩
    infer_instance
instance instPairsOk (l : List Pair) : Decidable (pairsOk l) := by unfold pairsOk; infer_instance
def prevKey (l : List Pair) (i : Nat) : Option (List UInt8) := if i = 0 then none else (l[i - 1]?).map Pair.key

set_option maxRecDepth 4000 in
set_option maxHeartbeats 4000000 in
theorem leaf_Right (l : List Pair) (hl : l.length ≤ 1000000) : Ct Try.prog 21 (YtglpemnejngkaaaVm.ops [.row (l.map Pair.pv)]) (.vals [.bool (decide (pairsOk l))]) := by
  refine Ct.of_V Try.func21 rfl (by simp [YtglpemnejngkaaaVm.ops, Try.f21]) ?_
  refine V.exec 400 ?_
  simp (config := {contextual := true}) only [go_sem, ↓reduceIte, reduceCtorEq, Bool.false_eq_true, Bool.true_eq_false, Nat.reduceAdd, Nat.reduceLT, Nat.reduceEqDiff, Nat.reduceLeDiff, Nat.reduceSub, Nat.reduceMul, Try.f21]
  refine V.loop (fun m ls os => ∃ (i : Nat), i ≤ l.length ∧ m = l.length - i ∧ (pairsOk l ↔ pairsFrom (prevKey l i) (l.drop i)) ∧
        ls = [(0, .val (.row (l.map Pair.pv))), (5, .val (.row (l.map Pair.pv))), (6, .val (.int .i64 l.length)), (7, .val (.int .i64 i))] ∧ os = []) 0 l.length
      [(0, .val (.row (l.map Pair.pv))), (5, .val (.row (l.map Pair.pv))), (6, .val (.int .i64 l.length)), (7, .val (.int .i64 0))] [] []
      ⟨0, Nat.zero_le _, rfl, Iff.rfl, rfl, rfl⟩ (by simp only [go_sem, ↓reduceIte, reduceCtorEq, Bool.false_eq_true, Bool.true_eq_false, Nat.reduceAdd, Nat.reduceLT, Nat.reduceEqDiff, Nat.reduceLeDiff, Nat.reduceSub, Nat.reduceMul]) ?_
  rintro m ls os ⟨i, hi, rfl, hiff, rfl, rfl⟩
  refine V.exec 400 ?_
  by_cases hlt : i < l.length
  · have hlt' : (i : Int) < (l.length : Int) := by omega
    obtain ⟨x, hx⟩ : ∃ x, l[i]? = some x := ⟨_, List.getElem?_eq_getElem hlt⟩
    have hw : IntKind.i64.wrap ((i : Int) + 1) = ((i + 1 : Nat) : Int) := by rw [wrap_small3] <;> omega
    rw [drop_of_get hx, pairsFrom] at hiff
    have hpk : prevKey l (i + 1) = some x.key := by simp [prevKey, hx]
    have e1 : ((x.key.length : Int) ≤ 16) = (x.key.length ≤ 16) := by apply propext; omega
    have e2 : ((x.value.length : Int) ≤ 32) = (x.value.length ≤ 32) := by apply propext; omega
    have fin : x.key.length ≤ 16 → x.value.length ≤ 32 → (∀ k, prevKey l i = some k → slt k x.key) → (pairsOk l ↔ pairsFrom (prevKey l (i + 1)) (l.drop (i + 1))) := fun a b c => by
      rw [hiff, hpk]; exact ⟨fun h => h.2.2.2, fun h => ⟨a, b, c, h⟩⟩
    have hfalse : ¬ pairsOk l → some [PV.bool false] = some [PV.bool (decide (pairsOk l))] := fun h => by simp [h]
    rcases Nat.eq_zero_or_pos i with rfl | hpos
    · have hz : ¬ (0 : Int) < ((0 : Nat) : Int) := by omega
      simp (config := {contextual := true}) only [go_sem, ↓reduceIte, reduceCtorEq, Bool.false_eq_true, Bool.true_eq_false, Nat.reduceAdd, Nat.reduceLT, Nat.reduceEqDiff, Nat.reduceLeDiff, Nat.reduceSub, Nat.reduceMul, hlt', hx, Pair.pv, hw, hz, e1, e2]
      (repeat' (first | (intro _) | (refine ⟨by kernel_rfl, ?_⟩) | (apply And.intro)))
      · exact ⟨l.length - (0 + 1), _, [], [], by omega, ⟨1, by omega, rfl, fin (by omega) (by omega) (fun k h => by simp [prevKey] at h), rfl, rfl⟩, by simp only [go_sem, ↓reduceIte, reduceCtorEq, Bool.false_eq_true, Bool.true_eq_false, Nat.reduceAdd, Nat.reduceLT, Nat.reduceEqDiff, Nat.reduceLeDiff, Nat.reduceSub, Nat.reduceMul]⟩
      · refine hfalse fun h => ?_
        have := (hiff.1 h).2.1
        omega
      · refine hfalse fun h => ?_
        have := (hiff.1 h).1
        omega
    · obtain ⟨j, rfl⟩ : ∃ j, i = j + 1 := ⟨i - 1, by omega⟩
      have hw2 : IntKind.i64.wrap (((j + 1 : Nat) : Int) - 1) = (j : Int) := by rw [wrap_small3] <;> omega
      have hjp : (0 : Int) < ((j + 1 : Nat) : Int) := by omega
      obtain ⟨y, hy⟩ : ∃ y, l[j]? = some y := ⟨_, List.getElem?_eq_getElem (by omega)⟩
      simp (config := {contextual := true}) only [go_sem, ↓reduceIte, reduceCtorEq, Bool.false_eq_true, Bool.true_eq_false, Nat.reduceAdd, Nat.reduceLT, Nat.reduceEqDiff, Nat.reduceLeDiff, Nat.reduceSub, Nat.reduceMul, hlt', hx, Pair.pv, hw, hw2, hjp, hy, e1, e2]
      (repeat' (first | (intro _) | (refine ⟨by kernel_rfl, ?_⟩) | (apply And.intro)))
      · refine hfalse fun h => ?_
        have := (hiff.1 h).2.2.1 y.key (by simp [prevKey, hy])
        contradiction
      · rename_i a b c
        exact ⟨l.length - (j + 1 + 1), _, [], [], by omega, ⟨j + 1 + 1, by omega, rfl, fin (by omega) (by omega) (fun k h => by simp [prevKey, hy] at h; rw [← h]; assumption), rfl, rfl⟩, by simp only [go_sem, ↓reduceIte, reduceCtorEq, Bool.false_eq_true, Bool.true_eq_false, Nat.reduceAdd, Nat.reduceLT, Nat.reduceEqDiff, Nat.reduceLeDiff, Nat.reduceSub, Nat.reduceMul]⟩
      · refine hfalse fun h => ?_
        have := (hiff.1 h).2.1
        omega
      · refine hfalse fun h => ?_
        have := (hiff.1 h).1
        omega
  · have hlt' : ¬ (i : Int) < (l.length : Int) := by omega
    have hd : l.drop i = [] := List.drop_eq_nil_of_le (by omega)
    rw [hd, pairsFrom] at hiff
    simp (config := {contextual := true}) only [go_sem, ↓reduceIte, reduceCtorEq, Bool.false_eq_true, Bool.true_eq_false, Nat.reduceAdd, Nat.reduceLT, Nat.reduceEqDiff, Nat.reduceLeDiff, Nat.reduceSub, Nat.reduceMul, hlt']
    simp [hiff]
end Go.Proofs.Ytglpemnejngkaaa
