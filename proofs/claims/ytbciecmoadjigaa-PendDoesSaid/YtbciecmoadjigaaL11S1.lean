/- A part of a proof: functions of the program, walked. -/
import Derived.Test.YtbciecmoadjigaaL11N1
set_option linter.unusedVariables false
set_option linter.unusedSimpArgs false
namespace Go.Proofs.Ytbciecmoadjigaa
open Go Go.Proofs Go.Proofs.YtbciecmoadjigaaVm Go.Proofs.Ytbciecmoadjigaa.Ty

theorem Note.inj (s t : Note) : (s.pv = t.pv) = (s = t) := by
  cases s; cases t
  simp [Note.pv]

theorem eqNote : EqT Try.prog 32 [.int .i64, .str, .str, .int .u64] := EqT.of (by kernel_rfl) (by kernel_rfl) (by kernel_rfl)

set_option maxRecDepth 4000 in
set_option maxHeartbeats 8000000 in
theorem ref09_Same (a b : List Note) (hb : b.length ≤ 1000000) : Ct Try.prog 16 (YtbciecmoadjigaaVm.ops [.row (a.map Note.pv), .row (b.map Note.pv)]) (.vals [.bool (decide (a = b))]) := by
  refine Ct.of_V Try.func16 rfl (by simp [YtbciecmoadjigaaVm.ops, Try.f16]) ?_
  refine V.exec 400 ?_
  by_cases hl : a.length = b.length
  · simp (config := {contextual := true}) only [go_sem, ↓reduceIte, reduceCtorEq, Bool.false_eq_true, Bool.true_eq_false, Nat.reduceAdd, Nat.reduceLT, Nat.reduceEqDiff, Nat.reduceLeDiff, Nat.reduceSub, Nat.reduceMul, Try.f16, hl]
    refine V.loop (fun m ls os => ∃ i : Nat, i ≤ b.length ∧ m = b.length - i ∧ a.take i = b.take i ∧
        ls = [(0, .val (.row (a.map Note.pv))), (1, .val (.row (b.map Note.pv))), (5, .val (.int .i64 i))] ∧ os = []) 0 b.length [(0, .val (.row (a.map Note.pv))), (1, .val (.row (b.map Note.pv))), (5, .val (.int .i64 0))] [] []
      ⟨0, Nat.zero_le _, rfl, rfl, rfl, rfl⟩ (by simp only [go_sem, ↓reduceIte, reduceCtorEq, Bool.false_eq_true, Bool.true_eq_false, Nat.reduceAdd, Nat.reduceLT, Nat.reduceEqDiff, Nat.reduceLeDiff, Nat.reduceSub, Nat.reduceMul]) ?_
    rintro m ls os ⟨i, hi, rfl, heq, rfl, rfl⟩
    refine V.exec 400 ?_
    by_cases hlt : i < b.length
    · have hlt' : (i : Int) < (b.length : Int) := by omega
      have hla : i < a.length := by omega
      obtain ⟨x, hx⟩ : ∃ x, a[i]? = some x := ⟨_, List.getElem?_eq_getElem hla⟩
      obtain ⟨y, hy⟩ : ∃ y, b[i]? = some y := ⟨_, List.getElem?_eq_getElem hlt⟩
      have hw : IntKind.i64.wrap ((i : Int) + 1) = ((i + 1 : Nat) : Int) := by rw [wrap_small3] <;> omega
      have hinj := Note.inj x y
      simp only [Note.pv] at hinj
      simp (config := {contextual := true}) only [go_sem, ↓reduceIte, reduceCtorEq, Bool.false_eq_true, Bool.true_eq_false, Nat.reduceAdd, Nat.reduceLT, Nat.reduceEqDiff, Nat.reduceLeDiff, Nat.reduceSub, Nat.reduceMul, hl, hlt', hx, hy, Note.pv, hw, hinj, eqNote]
      refine ⟨by kernel_rfl, fun hne => ?_, fun he => ⟨b.length - (i + 1), _, [], [], by omega, ⟨i + 1, by omega, rfl, ?_, rfl, rfl⟩, ?_⟩⟩
      · have : a ≠ b := fun e => hne (by rw [e, hy] at hx; cases hx; rfl)
        simp [this]
      · rw [List.take_add_one, List.take_add_one, heq, hx, hy, he]
      · simp only [go_sem, ↓reduceIte, reduceCtorEq, Bool.false_eq_true, Bool.true_eq_false, Nat.reduceAdd, Nat.reduceLT, Nat.reduceEqDiff, Nat.reduceLeDiff, Nat.reduceSub, Nat.reduceMul]
    · have hlt' : ¬ (i : Int) < (b.length : Int) := by omega
      simp (config := {contextual := true}) only [go_sem, ↓reduceIte, reduceCtorEq, Bool.false_eq_true, Bool.true_eq_false, Nat.reduceAdd, Nat.reduceLT, Nat.reduceEqDiff, Nat.reduceLeDiff, Nat.reduceSub, Nat.reduceMul, hl, hlt']
      have : a = b := by rw [List.take_of_length_le (by omega), List.take_of_length_le (by omega)] at heq; exact heq
      simp [this]
  · have hl' : ¬ (a.length : Int) = (b.length : Int) := by omega
    have : a ≠ b := fun e => hl (by rw [e])
    simp (config := {contextual := true}) only [go_sem, ↓reduceIte, reduceCtorEq, Bool.false_eq_true, Bool.true_eq_false, Nat.reduceAdd, Nat.reduceLT, Nat.reduceEqDiff, Nat.reduceLeDiff, Nat.reduceSub, Nat.reduceMul, Try.f16, hl', this, not_false_eq_true]

def fewN (l : List Note) : Prop := l.length ≤ 60 ∧ ∀ p ∈ l, p.key.length ≤ 300 ∧ p.value.length ≤ 300
instance instFewN (l : List Note) : Decidable (fewN l) := by unfold fewN; infer_instance

set_option maxHeartbeats 8000000 in
theorem law11_few (l : List Note) (hl : l.length ≤ 9223372036854775807) : Ct Try.prog 9 (YtbciecmoadjigaaVm.ops [.row (l.map Note.pv)]) (.vals [.bool (decide (fewN l))]) := by
  refine Ct.of_V Try.func9 rfl (by simp [YtbciecmoadjigaaVm.ops, Try.f9]) ?_
  refine V.exec 400 ?_
  by_cases h60 : l.length ≤ 60
  · have h60' : ¬ (60 : Int) < (l.length : Int) := by omega
    simp (config := {contextual := true}) only [go_sem, ↓reduceIte, reduceCtorEq, Bool.false_eq_true, Bool.true_eq_false, Nat.reduceAdd, Nat.reduceLT, Nat.reduceEqDiff, Nat.reduceLeDiff, Nat.reduceSub, Nat.reduceMul, Try.f9, h60']
    refine V.loop (fun m ls os => ∃ (i : Nat), i ≤ l.length ∧ m = l.length - i ∧ (∀ s ∈ l.take i, s.key.length ≤ 300 ∧ s.value.length ≤ 300) ∧
        ls = [(8, .val (.row (l.map Note.pv))), (9, .val (.int .i64 l.length)), (10, .val (.int .i64 i))] ∧ os = []) 0 l.length
      [(8, .val (.row (l.map Note.pv))), (9, .val (.int .i64 l.length)), (10, .val (.int .i64 0))] [] []
      ⟨0, Nat.zero_le _, rfl, by simp, rfl, rfl⟩ (by simp only [go_sem, ↓reduceIte, reduceCtorEq, Bool.false_eq_true, Bool.true_eq_false, Nat.reduceAdd, Nat.reduceLT, Nat.reduceEqDiff, Nat.reduceLeDiff, Nat.reduceSub, Nat.reduceMul]) ?_
    rintro m ls os ⟨i, hi, rfl, hiff, rfl, rfl⟩
    refine V.exec 400 ?_
    by_cases hlt : i < l.length
    · have hlt' : (i : Int) < (l.length : Int) := by omega
      obtain ⟨x, hx⟩ : ∃ x, l[i]? = some x := ⟨_, List.getElem?_eq_getElem hlt⟩
      have hw : IntKind.i64.wrap ((i : Int) + 1) = ((i + 1 : Nat) : Int) := by rw [wrap_small3] <;> omega
      have hxm := List.mem_of_getElem? hx
      have hfalse : ¬ (x.key.length ≤ 300 ∧ x.value.length ≤ 300) → some [PV.bool false] = some [PV.bool (decide (fewN l))] := fun h => by
        have : ¬ fewN l := fun g => h (g.2 x hxm)
        simp [this]
      have hnext : x.key.length ≤ 300 ∧ x.value.length ≤ 300 → ∀ s ∈ l.take (i + 1), s.key.length ≤ 300 ∧ s.value.length ≤ 300 := fun h s hs => by
        rw [List.take_add_one, hx] at hs
        rcases List.mem_append.1 hs with hs | hs
        · exact hiff s hs
        · simp at hs; rw [hs]; exact h
      simp (config := {contextual := true}) only [go_sem, ↓reduceIte, reduceCtorEq, Bool.false_eq_true, Bool.true_eq_false, Nat.reduceAdd, Nat.reduceLT, Nat.reduceEqDiff, Nat.reduceLeDiff, Nat.reduceSub, Nat.reduceMul, hlt', hx, Note.pv, hw]
      (repeat' (first | (intro _) | (refine ⟨by kernel_rfl, ?_⟩) | (apply And.intro)))
      all_goals first
        | exact ⟨l.length - (i + 1), _, [], [], by omega, ⟨i + 1, by omega, rfl, hnext ⟨by omega, by omega⟩, rfl, rfl⟩, by simp only [go_sem, ↓reduceIte, reduceCtorEq, Bool.false_eq_true, Bool.true_eq_false, Nat.reduceAdd, Nat.reduceLT, Nat.reduceEqDiff, Nat.reduceLeDiff, Nat.reduceSub, Nat.reduceMul]⟩
        | exact hfalse fun h => by have := h.1; have := h.2; omega
    · have hlt' : ¬ (i : Int) < (l.length : Int) := by omega
      simp (config := {contextual := true}) only [go_sem, ↓reduceIte, reduceCtorEq, Bool.false_eq_true, Bool.true_eq_false, Nat.reduceAdd, Nat.reduceLT, Nat.reduceEqDiff, Nat.reduceLeDiff, Nat.reduceSub, Nat.reduceMul, hlt']
      rw [List.take_of_length_le (by omega)] at hiff
      have : fewN l := ⟨h60, hiff⟩
      simp [this]
  · have h60' : (60 : Int) < (l.length : Int) := by omega
    have : ¬ fewN l := fun h => h60 h.1
    simp (config := {contextual := true}) only [go_sem, ↓reduceIte, reduceCtorEq, Bool.false_eq_true, Bool.true_eq_false, Nat.reduceAdd, Nat.reduceLT, Nat.reduceEqDiff, Nat.reduceLeDiff, Nat.reduceSub, Nat.reduceMul, Try.f9, h60']
    simp [this]
end Go.Proofs.Ytbciecmoadjigaa
