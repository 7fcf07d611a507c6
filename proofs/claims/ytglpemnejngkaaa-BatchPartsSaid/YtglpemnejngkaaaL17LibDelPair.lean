/- A part of a proof: functions of the program, walked. -/
import Derived.Test.YtglpemnejngkaaaL17Base
set_option linter.unusedVariables false
set_option linter.unusedSimpArgs false
namespace Go.Proofs.Ytglpemnejngkaaa
open Go Go.Proofs Go.Proofs.YtglpemnejngkaaaVm Go.Proofs.Ytglpemnejngkaaa.Ty

set_option maxRecDepth 20000 in
set_option maxHeartbeats 4000000 in
theorem DeletePair (xs : List PV) (i : Nat) (h1 : ∀ x ∈ xs, x.cells.length = 2) (hi : i < xs.length) (hl : xs.length ≤ 1000000) :
    Ct Try.prog 44 (.o 61 xs :: YtglpemnejngkaaaVm.ops [.int .i64 i, .int .i64 (i + 1 : Nat)]) (.own 61 (xs.take i ++ xs.drop (i + 1))) := by
  refine Ct.of_V Try.func44 rfl (by simp [YtglpemnejngkaaaVm.ops, Try.f44]) ?_
  refine V.opn 0 2 61 xs rfl (by simp only [go_sem, ↓reduceIte, reduceCtorEq, Bool.false_eq_true, Bool.true_eq_false, Nat.reduceAdd, Nat.reduceLT, Nat.reduceEqDiff, Nat.reduceLeDiff, Nat.reduceSub, Nat.reduceMul]) fun q => ?_
  have h0 : ¬ i = i + 1 := by omega
  refine V.execS [5] 400 ?_
  simp (config := {contextual := true}) only [go_sem, ↓reduceIte, reduceCtorEq, Bool.false_eq_true, Bool.true_eq_false, Nat.reduceAdd, Nat.reduceLT, Nat.reduceEqDiff, Nat.reduceLeDiff, Nat.reduceSub, Nat.reduceMul, Try.f44]
  refine ⟨⟨by omega, by omega, by omega⟩, fun h => absurd h (by omega), fun _ => ?_⟩
  refine V.exec 400 ?_
  have hc : i + (xs.length - (i + 1)) ≤ xs.length + q := by omega
  have hd : (List.take (xs.length - (i + 1)) (List.drop (i + 1) xs)).length = xs.length - (i + 1) := by simp
  simp only [go_sem, ↓reduceIte, reduceCtorEq, Bool.false_eq_true, Bool.true_eq_false, Nat.reduceAdd, Nat.reduceLT, Nat.reduceEqDiff, Nat.reduceLeDiff, Nat.reduceSub, Nat.reduceMul, Nat.zero_add, Nat.sub_zero, hc, hd, forall_const, not_true_eq_false]
  have hD : List.take (xs.length - (i + 1)) (List.drop (i + 1) xs) = List.drop (i + 1) xs := List.take_of_length_le (by simp)
  rw [hD] at hd ⊢
  have hL : (over xs (List.drop (i + 1) xs) i).length = xs.length := by rw [over_length (by omega)]; omega
  have hL2 : (over (over xs (List.drop (i + 1) xs) i) (List.replicate (xs.length - (i + (xs.length - (i + 1)))) (PV.agg [PV.str [], PV.str []])) (i + (xs.length - (i + 1)))).length = xs.length := by
    rw [over_length (by omega), hL, List.length_replicate]; omega
  rw [hL, hL2]
  refine ⟨⟨by omega, by omega⟩, ⟨by omega, by omega⟩, by omega, by kernel_rfl, ⟨by omega, by omega⟩, ⟨by omega, by omega⟩, by omega, ?_⟩
  have e1 : over xs (List.drop (i + 1) xs) i = (xs.take i ++ xs.drop (i + 1)) ++ xs.drop (i + (xs.length - (i + 1))) := by rw [over, hd]
  have hlen : (xs.take i ++ xs.drop (i + 1)).length = i + (xs.length - (i + 1)) := by simp; omega
  rw [over, List.append_assoc, List.take_append_of_le_length (by rw [List.length_take, hL]; omega), List.take_take, Nat.min_self, e1, List.take_append_of_le_length (by omega)]
  exact (List.take_of_length_le (by omega)).symm
end Go.Proofs.Ytglpemnejngkaaa
