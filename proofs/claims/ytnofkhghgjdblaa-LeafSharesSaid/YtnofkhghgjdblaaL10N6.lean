/- A part of a proof: functions of the program, walked. -/
import Derived.Test.YtnofkhghgjdblaaL10N5
set_option linter.unusedVariables false
set_option linter.unusedSimpArgs false
namespace Go.Proofs.Ytnofkhghgjdblaa
open Go Go.Proofs Go.Proofs.YtnofkhghgjdblaaVm Go.Proofs.Ytnofkhghgjdblaa.Ty

theorem Pair.inj (s t : Pair) : (s.pv = t.pv) = (s = t) := by
  cases s; cases t
  simp [Pair.pv]

set_option maxRecDepth 4000 in
set_option maxHeartbeats 8000000 in
theorem ref03_Same (a b : List Pair) (hb : b.length ≤ 1000000) : Ct Try.prog 19 (YtnofkhghgjdblaaVm.ops [.row (a.map Pair.pv), .row (b.map Pair.pv)]) (.vals [.bool (decide (a = b))]) := by
  refine Ct.of_V Try.func19 rfl (by simp [YtnofkhghgjdblaaVm.ops, Try.f19]) ?_
  refine V.exec 400 ?_
  by_cases hl : a.length = b.length
  · simp (config := {contextual := true}) only [go_sem, ↓reduceIte, reduceCtorEq, Bool.false_eq_true, Bool.true_eq_false, Nat.reduceAdd, Nat.reduceLT, Nat.reduceEqDiff, Nat.reduceLeDiff, Nat.reduceSub, Nat.reduceMul, Try.f19, hl]
    refine V.loop (fun m ls os => ∃ i : Nat, i ≤ b.length ∧ m = b.length - i ∧ a.take i = b.take i ∧
        ls = [(0, .val (.row (a.map Pair.pv))), (1, .val (.row (b.map Pair.pv))), (5, .val (.int .i64 i))] ∧ os = []) 0 b.length [(0, .val (.row (a.map Pair.pv))), (1, .val (.row (b.map Pair.pv))), (5, .val (.int .i64 0))] [] []
      ⟨0, Nat.zero_le _, rfl, rfl, rfl, rfl⟩ (by simp only [go_sem, ↓reduceIte, reduceCtorEq, Bool.false_eq_true, Bool.true_eq_false, Nat.reduceAdd, Nat.reduceLT, Nat.reduceEqDiff, Nat.reduceLeDiff, Nat.reduceSub, Nat.reduceMul]) ?_
    rintro m ls os ⟨i, hi, rfl, heq, rfl, rfl⟩
    refine V.exec 400 ?_
    by_cases hlt : i < b.length
    · have hlt' : (i : Int) < (b.length : Int) := by omega
      have hla : i < a.length := by omega
      obtain ⟨x, hx⟩ : ∃ x, a[i]? = some x := ⟨_, List.getElem?_eq_getElem hla⟩
      obtain ⟨y, hy⟩ : ∃ y, b[i]? = some y := ⟨_, List.getElem?_eq_getElem hlt⟩
      have hw : IntKind.i64.wrap ((i : Int) + 1) = ((i + 1 : Nat) : Int) := by rw [wrap_small3] <;> omega
      have hinj := Pair.inj x y
      simp only [Pair.pv] at hinj
      simp (config := {contextual := true}) only [go_sem, ↓reduceIte, reduceCtorEq, Bool.false_eq_true, Bool.true_eq_false, Nat.reduceAdd, Nat.reduceLT, Nat.reduceEqDiff, Nat.reduceLeDiff, Nat.reduceSub, Nat.reduceMul, hl, hlt', hx, hy, Pair.pv, hw, hinj]
      refine ⟨by kernel_rfl, fun hne => ?_, fun he => ⟨b.length - (i + 1), _, [], [], by omega, ⟨i + 1, by omega, rfl, ?_, rfl, rfl⟩, ?_⟩⟩
      · have : a ≠ b := fun e => hne (by rw [e, hy] at hx; cases hx; rfl)
        simp [this]
      · rw [List.take_add_one, List.take_add_one, heq, hx, hy, he]
      · simp only [go_sem, ↓reduceIte, reduceCtorEq, Bool.false_eq_true, Bool.true_eq_false, Nat.reduceAdd, Nat.reduceLT, Nat.reduceEqDiff, Nat.reduceLeDiff, Nat.reduceSub, Nat.reduceMul]
    · have hlt' : ¬ (i : Int) < (b.length : Int) := by omega
      simp (config := {contextual := true}) only [go_sem, ↓reduceIte, reduceCtorEq, Bool.false_eq_true, Bool.true_eq_false, Nat.reduceAdd, Nat.reduceLT, Nat.reduceEqDiff, Nat.reduceLeDiff, Nat.reduceSub, Nat.reduceMul, hl, hlt']
      have : a = b := by rw [List.take_of_length_le (by omega), List.take_of_length_le (by omega)] at heq; exact heq
      simp [this]
  · have hl' : ¬ (a.length : Int) = (b.length : Int) := by omega
    have : a ≠ b := fun e => hl (by rw [e])
    simp (config := {contextual := true}) only [go_sem, ↓reduceIte, reduceCtorEq, Bool.false_eq_true, Bool.true_eq_false, Nat.reduceAdd, Nat.reduceLT, Nat.reduceEqDiff, Nat.reduceLeDiff, Nat.reduceSub, Nat.reduceMul, Try.f19, hl', this, not_false_eq_true]

def smallP (l : List Pair) : Prop := l.length ≤ 60 ∧ ∀ p ∈ l, p.key.length ≤ 300 ∧ p.value.length ≤ 300
instance instSmallP (l : List Pair) : Decidable (smallP l) := by unfold smallP; infer_instance
def fewN (l : List Note) : Prop := l.length ≤ 60 ∧ ∀ p ∈ l, p.key.length ≤ 300 ∧ p.value.length ≤ 300
instance instFewN (l : List Note) : Decidable (fewN l) := by unfold fewN; infer_instance

set_option maxHeartbeats 8000000 in
theorem law10_small (l : List Pair) (hl : l.length ≤ 9223372036854775807) : Ct Try.prog 9 (YtnofkhghgjdblaaVm.ops [.row (l.map Pair.pv)]) (.vals [.bool (decide (smallP l))]) := by
  refine Ct.of_V Try.func9 rfl (by simp [YtnofkhghgjdblaaVm.ops, Try.f9]) ?_
  refine V.exec 400 ?_
  by_cases h60 : l.length ≤ 60
  · have h60' : ¬ (60 : Int) < (l.length : Int) := by omega
    simp (config := {contextual := true}) only [go_sem, ↓reduceIte, reduceCtorEq, Bool.false_eq_true, Bool.true_eq_false, Nat.reduceAdd, Nat.reduceLT, Nat.reduceEqDiff, Nat.reduceLeDiff, Nat.reduceSub, Nat.reduceMul, Try.f9, h60']
    refine V.loop (fun m ls os => ∃ (i : Nat), i ≤ l.length ∧ m = l.length - i ∧ (∀ s ∈ l.take i, s.key.length ≤ 300 ∧ s.value.length ≤ 300) ∧
        ls = [(8, .val (.row (l.map Pair.pv))), (9, .val (.int .i64 l.length)), (10, .val (.int .i64 i))] ∧ os = []) 0 l.length
      [(8, .val (.row (l.map Pair.pv))), (9, .val (.int .i64 l.length)), (10, .val (.int .i64 0))] [] []
      ⟨0, Nat.zero_le _, rfl, by simp, rfl, rfl⟩ (by simp only [go_sem, ↓reduceIte, reduceCtorEq, Bool.false_eq_true, Bool.true_eq_false, Nat.reduceAdd, Nat.reduceLT, Nat.reduceEqDiff, Nat.reduceLeDiff, Nat.reduceSub, Nat.reduceMul]) ?_
    rintro m ls os ⟨i, hi, rfl, hiff, rfl, rfl⟩
    refine V.exec 400 ?_
    by_cases hlt : i < l.length
    · have hlt' : (i : Int) < (l.length : Int) := by omega
      obtain ⟨x, hx⟩ : ∃ x, l[i]? = some x := ⟨_, List.getElem?_eq_getElem hlt⟩
      have hw : IntKind.i64.wrap ((i : Int) + 1) = ((i + 1 : Nat) : Int) := by rw [wrap_small3] <;> omega
      have hxm := List.mem_of_getElem? hx
      have hfalse : ¬ (x.key.length ≤ 300 ∧ x.value.length ≤ 300) → some [PV.bool false] = some [PV.bool (decide (smallP l))] := fun h => by
        have : ¬ smallP l := fun g => h (g.2 x hxm)
        simp [this]
      have hnext : x.key.length ≤ 300 ∧ x.value.length ≤ 300 → ∀ s ∈ l.take (i + 1), s.key.length ≤ 300 ∧ s.value.length ≤ 300 := fun h s hs => by
        rw [List.take_add_one, hx] at hs
        rcases List.mem_append.1 hs with hs | hs
        · exact hiff s hs
        · simp at hs; rw [hs]; exact h
      simp (config := {contextual := true}) only [go_sem, ↓reduceIte, reduceCtorEq, Bool.false_eq_true, Bool.true_eq_false, Nat.reduceAdd, Nat.reduceLT, Nat.reduceEqDiff, Nat.reduceLeDiff, Nat.reduceSub, Nat.reduceMul, hlt', hx, Pair.pv, hw]
      (repeat' (first | (intro _) | (refine ⟨by kernel_rfl, ?_⟩) | (apply And.intro)))
      all_goals first
        | exact ⟨l.length - (i + 1), _, [], [], by omega, ⟨i + 1, by omega, rfl, hnext ⟨by omega, by omega⟩, rfl, rfl⟩, by simp only [go_sem, ↓reduceIte, reduceCtorEq, Bool.false_eq_true, Bool.true_eq_false, Nat.reduceAdd, Nat.reduceLT, Nat.reduceEqDiff, Nat.reduceLeDiff, Nat.reduceSub, Nat.reduceMul]⟩
        | exact hfalse fun h => by have := h.1; have := h.2; omega
    · have hlt' : ¬ (i : Int) < (l.length : Int) := by omega
      simp (config := {contextual := true}) only [go_sem, ↓reduceIte, reduceCtorEq, Bool.false_eq_true, Bool.true_eq_false, Nat.reduceAdd, Nat.reduceLT, Nat.reduceEqDiff, Nat.reduceLeDiff, Nat.reduceSub, Nat.reduceMul, hlt']
      rw [List.take_of_length_le (by omega)] at hiff
      have : smallP l := ⟨h60, hiff⟩
      simp [this]
  · have h60' : (60 : Int) < (l.length : Int) := by omega
    have : ¬ smallP l := fun h => h60 h.1
    simp (config := {contextual := true}) only [go_sem, ↓reduceIte, reduceCtorEq, Bool.false_eq_true, Bool.true_eq_false, Nat.reduceAdd, Nat.reduceLT, Nat.reduceEqDiff, Nat.reduceLeDiff, Nat.reduceSub, Nat.reduceMul, Try.f9, h60']
    simp [this]

set_option maxHeartbeats 8000000 in
theorem law10_few (l : List Note) (hl : l.length ≤ 9223372036854775807) : Ct Try.prog 10 (YtnofkhghgjdblaaVm.ops [.row (l.map Note.pv)]) (.vals [.bool (decide (fewN l))]) := by
  refine Ct.of_V Try.func10 rfl (by simp [YtnofkhghgjdblaaVm.ops, Try.f10]) ?_
  refine V.exec 400 ?_
  by_cases h60 : l.length ≤ 60
  · have h60' : ¬ (60 : Int) < (l.length : Int) := by omega
    simp (config := {contextual := true}) only [go_sem, ↓reduceIte, reduceCtorEq, Bool.false_eq_true, Bool.true_eq_false, Nat.reduceAdd, Nat.reduceLT, Nat.reduceEqDiff, Nat.reduceLeDiff, Nat.reduceSub, Nat.reduceMul, Try.f10, h60']
    refine V.loop (fun m ls os => ∃ (i : Nat), i ≤ l.length ∧ m = l.length - i ∧ (∀ s ∈ l.take i, s.key.length ≤ 300 ∧ s.value.length ≤ 300) ∧
        ls = [(8, .val (.row (l.map Note.pv))), (9, .val (.int .i64 l.length)), (10, .val (.int .i64 i))] ∧ os = []) 0 l.length
      [(8, .val (.row (l.map Note.pv))), (9, .val (.int .i64 l.length)), (10, .val (.int .i64 0))] [] []
      ⟨0, Nat.zero_le _, rfl, by simp, rfl, rfl⟩ (by simp only [go_sem, ↓reduceIte, reduceCtorEq, Bool.false_eq_true, Bool.true_eq_false, Nat.reduceAdd, Nat.reduceLT, Nat.reduceEqDiff, Nat.reduceLeDiff, Nat.reduceSub, Nat.reduceMul]) ?_
    rintro m ls os ⟨i, hi, rfl, hiff, rfl, rfl⟩
    refine V.exec 400 ?_
    by_cases hlt : i < l.length
    · have hlt' : (i : Int) < (l.length : Int) := by omega
      obtain ⟨x, hx⟩ : ∃ x, l[i]? = some x := ⟨_, List.getElem?_eq_getElem hlt⟩
      have hw : IntKind.i64.wrap ((i : Int) + 1) = ((i + 1 : Nat) : Int) := by rw [wrap_small3] <;> omega
      have hxm := List.mem_of_getElem? hx
      have hfalse : ¬ (x.key.length ≤ 300 ∧ x.value.length ≤ 300) → some [PV.bool false] = some [PV.bool (decide (fewN l))] := fun h => by
        have : ¬ fewN l := fun g => h (g.2 x hxm)
        simp [this]
      have hnext : x.key.length ≤ 300 ∧ x.value.length ≤ 300 → ∀ s ∈ l.take (i + 1), s.key.length ≤ 300 ∧ s.value.length ≤ 300 := fun h s hs => by
        rw [List.take_add_one, hx] at hs
        rcases List.mem_append.1 hs with hs | hs
        · exact hiff s hs
        · simp at hs; rw [hs]; exact h
      simp (config := {contextual := true}) only [go_sem, ↓reduceIte, reduceCtorEq, Bool.false_eq_true, Bool.true_eq_false, Nat.reduceAdd, Nat.reduceLT, Nat.reduceEqDiff, Nat.reduceLeDiff, Nat.reduceSub, Nat.reduceMul, hlt', hx, Note.pv, hw]
      (repeat' (first | (intro _) | (refine ⟨by kernel_rfl, ?_⟩) | (apply And.intro)))
      all_goals first
        | exact ⟨l.length - (i + 1), _, [], [], by omega, ⟨i + 1, by omega, rfl, hnext ⟨by omega, by omega⟩, rfl, rfl⟩, by simp only [go_sem, ↓reduceIte, reduceCtorEq, Bool.false_eq_true, Bool.true_eq_false, Nat.reduceAdd, Nat.reduceLT, Nat.reduceEqDiff, Nat.reduceLeDiff, Nat.reduceSub, Nat.reduceMul]⟩
        | exact hfalse fun h => by have := h.1; have := h.2; omega
    · have hlt' : ¬ (i : Int) < (l.length : Int) := by omega
      simp (config := {contextual := true}) only [go_sem, ↓reduceIte, reduceCtorEq, Bool.false_eq_true, Bool.true_eq_false, Nat.reduceAdd, Nat.reduceLT, Nat.reduceEqDiff, Nat.reduceLeDiff, Nat.reduceSub, Nat.reduceMul, hlt']
      rw [List.take_of_length_le (by omega)] at hiff
      have : fewN l := ⟨h60, hiff⟩
      simp [this]
  · have h60' : (60 : Int) < (l.length : Int) := by omega
    have : ¬ fewN l := fun h => h60 h.1
    simp (config := {contextual := true}) only [go_sem, ↓reduceIte, reduceCtorEq, Bool.false_eq_true, Bool.true_eq_false, Nat.reduceAdd, Nat.reduceLT, Nat.reduceEqDiff, Nat.reduceLeDiff, Nat.reduceSub, Nat.reduceMul, Try.f10, h60']
    simp [this]
end Go.Proofs.Ytnofkhghgjdblaa
