/- A part of a proof: functions of the program, walked. -/
import Derived.Test.YtjbfcmaiejlnbaaF3
set_option linter.unusedVariables false
set_option linter.unusedSimpArgs false
namespace Go.Proofs.Ytjbfcmaiejlnbaa
open Go Go.Proofs Go.Proofs.YtjbfcmaiejlnbaaVm Go.Proofs.Ytjbfcmaiejlnbaa.Ty

def Sub.zero : Sub := ⟨0, ⟨[], [], false⟩, false, [], 0⟩
theorem Sub.zero_pv : Sub.zero.pv = .agg [.int .i64 0, .str [], .str [], .bool false, .bool false, .str [], .int .i64 0] := by simp [Sub.pv, Sub.zero]
/-- Who has an Id. -/
def findL (l : List Sub) (id : Int) : Option Sub := l.find? fun s => decide (s.id = id)

theorem rank_find {id last : Int} : ∀ (l : List Sub), rightFrom last l → ∀ x, (l[rank id l]? = some x ∧ x.id = id) ↔ findL l id = some x := by
  intro l
  induction l generalizing last with
  | nil => intro _ x; simp [rank, findL]
  | cons s r ih =>
    intro hr x
    obtain ⟨_, h1, h2⟩ := hr
    unfold rank findL
    by_cases h : s.id < id
    · have hne : ¬ s.id = id := by omega
      simp only [h, if_true, List.getElem?_cons_succ, List.find?_cons, hne, decide_false]
      exact ih h2 x
    · by_cases he : s.id = id
      · rw [if_neg h, List.getElem?_cons_zero, List.find?_cons]
        simp only [he, decide_true, Option.some.injEq]
        constructor
        · rintro ⟨rfl, _⟩; rfl
        · rintro rfl; exact ⟨rfl, he⟩
      · simp only [h, if_false, List.getElem?_cons_zero, List.find?_cons, he, decide_false, Option.some.injEq]
        constructor
        · rintro ⟨rfl, h'⟩; exact absurd h' he
        · intro h'
          have hm := List.mem_of_find?_eq_some h'
          have hi := List.find?_some h'
          have := above r h2 x hm
          simp at hi
          omega

def findV (l : List Sub) (id : Int) : Sub × Int := if subsOk l then match findL l id with | some x => (x, 0) | none => (Sub.zero, 3) else (Sub.zero, 1)

set_option maxHeartbeats 2000000 in
theorem floor_Find (l : List Sub) (id : Int) (hl : l.length ≤ 1000000) : Ct Try.prog 12 (YtjbfcmaiejlnbaaVm.ops [.row (l.map Sub.pv), .int .i64 id]) (.vals [(findV l id).1.pv, .int .i64 (findV l id).2]) := by
  refine Ct.of_V Try.func12 rfl (by simp [YtjbfcmaiejlnbaaVm.ops, Try.f12]) ?_
  refine V.exec 400 ?_
  simp (config := {contextual := true}) only [go_sem, ↓reduceIte, reduceCtorEq, Bool.false_eq_true, Bool.true_eq_false, Nat.reduceAdd, Nat.reduceLT, Nat.reduceEqDiff, Nat.reduceLeDiff, Nat.reduceSub, Nat.reduceMul, Try.f12]
  refine V.call rfl rfl (by simp [dOK]) ⟨13, [], by simp only [go_sem, ↓reduceIte, reduceCtorEq, Bool.false_eq_true, Bool.true_eq_false, Nat.reduceAdd, Nat.reduceLT, Nat.reduceEqDiff, Nat.reduceLeDiff, Nat.reduceSub, Nat.reduceMul], ⟨_, rfl, rfl, rfl⟩, .inl ⟨[.row (l.map Sub.pv)], _, .inl (by simp only [go_sem, ↓reduceIte, reduceCtorEq, Bool.false_eq_true, Bool.true_eq_false, Nat.reduceAdd, Nat.reduceLT, Nat.reduceEqDiff, Nat.reduceLeDiff, Nat.reduceSub, Nat.reduceMul]), floor_Right l hl, .inl ⟨_, rfl, rfl, rfl, rfl⟩⟩⟩ ?_
  refine V.exec 400 ?_
  by_cases hs : subsOk l
  · simp (config := {contextual := true}) only [go_sem, ↓reduceIte, reduceCtorEq, Bool.false_eq_true, Bool.true_eq_false, Nat.reduceAdd, Nat.reduceLT, Nat.reduceEqDiff, Nat.reduceLeDiff, Nat.reduceSub, Nat.reduceMul, hs]
    refine V.call rfl rfl (by simp [dOK]) ⟨34, [], by simp only [go_sem, ↓reduceIte, reduceCtorEq, Bool.false_eq_true, Bool.true_eq_false, Nat.reduceAdd, Nat.reduceLT, Nat.reduceEqDiff, Nat.reduceLeDiff, Nat.reduceSub, Nat.reduceMul], ⟨_, rfl, rfl, rfl⟩, .inl ⟨[.row (l.map Sub.pv), .int .i64 id], _, .inl (by simp only [go_sem, ↓reduceIte, reduceCtorEq, Bool.false_eq_true, Bool.true_eq_false, Nat.reduceAdd, Nat.reduceLT, Nat.reduceEqDiff, Nat.reduceLeDiff, Nat.reduceSub, Nat.reduceMul]), floor_place l id hl hs.1, .inl ⟨_, rfl, rfl, rfl, rfl⟩⟩⟩ ?_
    refine V.exec 400 ?_
    cases hf : findL l id with
    | some x =>
      have hx := (rank_find l hs.1 x).2 hf
      have he : (∃ x_1, some x = some x_1 ∧ x_1.id = id) := ⟨x, rfl, hx.2⟩
      have hv : findV l id = (x, 0) := by simp [findV, hs, hf]
      simp (config := {contextual := true}) only [go_sem, ↓reduceIte, reduceCtorEq, Bool.false_eq_true, Bool.true_eq_false, Nat.reduceAdd, Nat.reduceLT, Nat.reduceEqDiff, Nat.reduceLeDiff, Nat.reduceSub, Nat.reduceMul, he, hx.1, hv, Sub.pv]
    | none =>
      have he : ¬ (∃ x, l[rank id l]? = some x ∧ x.id = id) := fun ⟨x, hx⟩ => by have := (rank_find l hs.1 x).1 hx; rw [hf] at this; cases this
      have hv : findV l id = (Sub.zero, 3) := by simp [findV, hs, hf]
      simp (config := {contextual := true}) only [go_sem, ↓reduceIte, reduceCtorEq, Bool.false_eq_true, Bool.true_eq_false, Nat.reduceAdd, Nat.reduceLT, Nat.reduceEqDiff, Nat.reduceLeDiff, Nat.reduceSub, Nat.reduceMul, he, hv, Sub.zero_pv]
  · have hv : findV l id = (Sub.zero, 1) := by simp [findV, hs]
    simp (config := {contextual := true}) only [go_sem, ↓reduceIte, reduceCtorEq, Bool.false_eq_true, Bool.true_eq_false, Nat.reduceAdd, Nat.reduceLT, Nat.reduceEqDiff, Nat.reduceLeDiff, Nat.reduceSub, Nat.reduceMul, hs, hv, Sub.zero_pv]
end Go.Proofs.Ytjbfcmaiejlnbaa
