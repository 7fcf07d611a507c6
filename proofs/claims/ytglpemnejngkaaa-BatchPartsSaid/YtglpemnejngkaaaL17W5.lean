/- A part of a proof: functions of the program, walked. -/
import Derived.Test.YtglpemnejngkaaaL17W4
set_option linter.unusedVariables false
set_option linter.unusedSimpArgs false
namespace Go.Proofs.Ytglpemnejngkaaa
open Go Go.Proofs Go.Proofs.YtglpemnejngkaaaVm Go.Proofs.Ytglpemnejngkaaa.Ty

theorem allGo_cons (l0 : List Pair) {p : List Pair} {seq : Int} {x : List Note} (out : List Change) (ends : List Int) (r : List (List Note)) (h : (runV p seq x).2.2 = 0) :
    allGo l0 p seq out ends (x :: r) = allGo l0 (runV p seq x).2.1 (seq + ((runV p seq x).1.length : Int)) (out ++ (runV p seq x).1) (ends ++ [seq + ((runV p seq x).1.length : Int)]) r := by rw [allGo, if_pos h]
theorem allGo_app (l0 : List Pair) (b : List (List Note)) : ∀ (a : List (List Note)) (p : List Pair) (seq : Int) (out : List Change) (ends : List Int),
    allGo l0 p seq out ends (a ++ b) = if (allGo l0 p seq out ends a).2.2.2 = 0 then allGo l0 (allGo l0 p seq out ends a).2.1 (seq + ((allGo l0 p seq out ends a).1.length : Int) - (out.length : Int)) (allGo l0 p seq out ends a).1 (allGo l0 p seq out ends a).2.2.1 b else allGo l0 p seq out ends a
  | [], p, seq, out, ends => by
    have e : seq + (out.length : Int) - (out.length : Int) = seq := by omega
    simp only [List.nil_append, allGo, ↓reduceIte, e]
  | x :: r, p, seq, out, ends => by
    rw [List.cons_append]
    by_cases h : (runV p seq x).2.2 = 0
    · have ih := allGo_app l0 b r (runV p seq x).2.1 (seq + ((runV p seq x).1.length : Int)) (out ++ (runV p seq x).1) (ends ++ [seq + ((runV p seq x).1.length : Int)])
      rw [allGo_cons l0 out ends (r ++ b) h, allGo_cons l0 out ends r h, ih]
      have e : ∀ n : Int, seq + ((runV p seq x).1.length : Int) + n - ((out ++ (runV p seq x).1).length : Int) = seq + n - (out.length : Int) := fun n => by rw [List.length_append]; omega
      rw [e]
    · have e1 : ∀ t, allGo l0 p seq out ends (x :: t) = ([], l0, [], (runV p seq x).2.2) := fun t => by rw [allGo, if_neg h]
      rw [e1, e1, if_neg h]
theorem allGo_err (l0 : List Pair) : ∀ (a : List (List Note)) (p : List Pair) (seq : Int) (out : List Change) (ends : List Int), (allGo l0 p seq out ends a).2.2.2 ≠ 0 → allGo l0 p seq out ends a = ([], l0, [], (allGo l0 p seq out ends a).2.2.2)
  | [], p, seq, out, ends, h => absurd rfl h
  | x :: r, p, seq, out, ends, h => by
    unfold allGo at *
    by_cases h' : (runV p seq x).2.2 = 0
    · rw [if_pos h'] at *
      exact allGo_err l0 r _ _ _ _ h
    · rw [if_neg h']
theorem allGo_pre (l0 l1 : List Pair) (o : List Change) (d : List Int) : ∀ (a : List (List Note)) (p : List Pair) (seq : Int) (out : List Change) (ends : List Int),
    (allGo l0 p seq (o ++ out) (d ++ ends) a).2.2.2 = (allGo l1 p seq out ends a).2.2.2 ∧ ((allGo l1 p seq out ends a).2.2.2 = 0 → allGo l0 p seq (o ++ out) (d ++ ends) a = (o ++ (allGo l1 p seq out ends a).1, (allGo l1 p seq out ends a).2.1, d ++ (allGo l1 p seq out ends a).2.2.1, 0))
  | [], p, seq, out, ends => ⟨rfl, fun _ => rfl⟩
  | x :: r, p, seq, out, ends => by
    unfold allGo
    by_cases h : (runV p seq x).2.2 = 0
    · rw [if_pos h, if_pos h, List.append_assoc, List.append_assoc]
      exact allGo_pre l0 l1 o d r _ _ _ _
    · rw [if_neg h, if_neg h]
      exact ⟨rfl, fun g => absurd g h⟩
theorem allGo_seq (l0 : List Pair) : ∀ (a : List (List Note)) (p : List Pair) (seq : Int) (out : List Change) (ends : List Int), (allGo l0 p seq out ends a).2.2.2 = 0 →
    (allGo l0 p seq out ends a).1.length = out.length ∨ seq + ((allGo l0 p seq out ends a).1.length : Int) - (out.length : Int) ≤ 2147483647
  | [], p, seq, out, ends, _ => .inl rfl
  | x :: r, p, seq, out, ends, h => by
    unfold allGo at *
    by_cases h' : (runV p seq x).2.2 = 0
    · rw [if_pos h'] at *
      have hf := runV_facts h'
      have h4 := hf.2.2.2.1
      have h5 := hf.2.2.2.2.1
      have ih := allGo_seq l0 r _ _ _ _ h
      rw [List.length_append] at ih
      right
      rcases ih with ih | ih <;> omega
    · rw [if_neg h'] at h
      exact absurd h h'
theorem allV_seq (l : List Pair) (seq : Int) (a : List (List Note)) : (allV l seq a).1.length = 0 ∨ seq + ((allV l seq a).1.length : Int) ≤ 2147483647 := by
  unfold allV
  by_cases h : (allGo l l seq [] [] a).2.2.2 = 0
  · have := allGo_seq l a l seq [] [] h
    simpa using this
  · rw [allGo_err l a l seq [] [] h]; simp
theorem all_parts (l : List Pair) (seq : Int) (a b : List (List Note)) :
    ((allV l seq a).2.2.2 ≠ 0 → (allV l seq (a ++ b)).2.2.2 ≠ 0) ∧
    ((allV l seq a).2.2.2 = 0 → (allV l seq (a ++ b)).2.2.2 = (allV (allV l seq a).2.1 (seq + ((allV l seq a).1.length : Int)) b).2.2.2 ∧
      ((allV (allV l seq a).2.1 (seq + ((allV l seq a).1.length : Int)) b).2.2.2 = 0 → allV l seq (a ++ b) = ((allV l seq a).1 ++ (allV (allV l seq a).2.1 (seq + ((allV l seq a).1.length : Int)) b).1, (allV (allV l seq a).2.1 (seq + ((allV l seq a).1.length : Int)) b).2.1, (allV l seq a).2.2.1 ++ (allV (allV l seq a).2.1 (seq + ((allV l seq a).1.length : Int)) b).2.2.1, 0))) := by
  unfold allV
  rw [allGo_app l b a l seq [] []]
  refine ⟨fun h => by rw [if_neg h]; exact h, fun h => ?_⟩
  rw [if_pos h]
  have e : ∀ n : Int, seq + n - (([] : List Change).length : Int) = seq + n := fun n => by simp
  rw [e]
  have hp := allGo_pre l (allGo l l seq [] [] a).2.1 (allGo l l seq [] [] a).1 (allGo l l seq [] [] a).2.2.1 b (allGo l l seq [] [] a).2.1 (seq + ((allGo l l seq [] [] a).1.length : Int)) [] []
  simp only [List.append_nil] at hp
  exact hp
end Go.Proofs.Ytglpemnejngkaaa
