/- A part of a proof: functions of the program, walked. -/
import Derived.Test.YtjbfcmaiejlnbaaF2
import Derived.Test.YtjbfcmaiejlnbaaLibSub
set_option linter.unusedVariables false
set_option linter.unusedSimpArgs false
namespace Go.Proofs.Ytjbfcmaiejlnbaa
open Go Go.Proofs Go.Proofs.YtjbfcmaiejlnbaaVm Go.Proofs.Ytjbfcmaiejlnbaa.Ty

def cmpInt (a b : Int) : Int := if a < b then -1 else if b < a then 1 else 0

theorem isNaN55 (a : Int) : Ct Try.prog 55 (YtjbfcmaiejlnbaaVm.ops [.int .i64 a]) (.vals [.bool false]) := by
  refine Ct.of_V Try.func55 rfl (by simp [YtjbfcmaiejlnbaaVm.ops, Try.f55]) ?_
  refine V.exec 400 ?_
  simp (config := {contextual := true}) only [go_sem, ↓reduceIte, reduceCtorEq, Bool.false_eq_true, Bool.true_eq_false, Nat.reduceAdd, Nat.reduceLT, Nat.reduceEqDiff, Nat.reduceLeDiff, Nat.reduceSub, Nat.reduceMul, Try.f55]

theorem Compare48 (a b : Int) : Ct Try.prog 48 (YtjbfcmaiejlnbaaVm.ops [.int .i64 a, .int .i64 b]) (.vals [.int .i64 (cmpInt a b)]) := by
  refine Ct.of_V Try.func48 rfl (by simp [YtjbfcmaiejlnbaaVm.ops, Try.f48]) ?_
  refine V.exec 400 ?_
  simp (config := {contextual := true}) only [go_sem, ↓reduceIte, reduceCtorEq, Bool.false_eq_true, Bool.true_eq_false, Nat.reduceAdd, Nat.reduceLT, Nat.reduceEqDiff, Nat.reduceLeDiff, Nat.reduceSub, Nat.reduceMul, Try.f48]
  refine V.call rfl rfl (by simp [dOK]) ⟨55, [], by simp only [go_sem, ↓reduceIte, reduceCtorEq, Bool.false_eq_true, Bool.true_eq_false, Nat.reduceAdd, Nat.reduceLT, Nat.reduceEqDiff, Nat.reduceLeDiff, Nat.reduceSub, Nat.reduceMul], ⟨_, rfl, rfl, rfl⟩, .inl ⟨[.int .i64 a], _, .inl (by simp only [go_sem, ↓reduceIte, reduceCtorEq, Bool.false_eq_true, Bool.true_eq_false, Nat.reduceAdd, Nat.reduceLT, Nat.reduceEqDiff, Nat.reduceLeDiff, Nat.reduceSub, Nat.reduceMul]), isNaN55 a, .inl ⟨_, rfl, rfl, rfl, rfl⟩⟩⟩ ?_
  refine V.exec 400 ?_
  simp (config := {contextual := true}) only [go_sem, ↓reduceIte, reduceCtorEq, Bool.false_eq_true, Bool.true_eq_false, Nat.reduceAdd, Nat.reduceLT, Nat.reduceEqDiff, Nat.reduceLeDiff, Nat.reduceSub, Nat.reduceMul]
  refine V.call rfl rfl (by simp [dOK]) ⟨55, [], by simp only [go_sem, ↓reduceIte, reduceCtorEq, Bool.false_eq_true, Bool.true_eq_false, Nat.reduceAdd, Nat.reduceLT, Nat.reduceEqDiff, Nat.reduceLeDiff, Nat.reduceSub, Nat.reduceMul], ⟨_, rfl, rfl, rfl⟩, .inl ⟨[.int .i64 b], _, .inl (by simp only [go_sem, ↓reduceIte, reduceCtorEq, Bool.false_eq_true, Bool.true_eq_false, Nat.reduceAdd, Nat.reduceLT, Nat.reduceEqDiff, Nat.reduceLeDiff, Nat.reduceSub, Nat.reduceMul]), isNaN55 b, .inl ⟨_, rfl, rfl, rfl, rfl⟩⟩⟩ ?_
  refine V.exec 400 ?_
  simp (config := {contextual := true}) only [go_sem, ↓reduceIte, reduceCtorEq, Bool.false_eq_true, Bool.true_eq_false, Nat.reduceAdd, Nat.reduceLT, Nat.reduceEqDiff, Nat.reduceLeDiff, Nat.reduceSub, Nat.reduceMul]
  grind [cmpInt]

theorem place1_47 (s : Sub) (id : Int) : Ct Try.prog 47 (YtjbfcmaiejlnbaaVm.ops [s.pv, .int .i64 id]) (.vals [.int .i64 (cmpInt s.id id)]) := by
  refine Ct.of_V Try.func47 rfl (by simp [YtjbfcmaiejlnbaaVm.ops, Try.f47]) ?_
  refine V.exec 400 ?_
  simp (config := {contextual := true}) only [go_sem, ↓reduceIte, reduceCtorEq, Bool.false_eq_true, Bool.true_eq_false, Nat.reduceAdd, Nat.reduceLT, Nat.reduceEqDiff, Nat.reduceLeDiff, Nat.reduceSub, Nat.reduceMul, Try.f47, Sub.pv]
  refine V.call rfl rfl (by simp [dOK]) ⟨48, [], by simp only [go_sem, ↓reduceIte, reduceCtorEq, Bool.false_eq_true, Bool.true_eq_false, Nat.reduceAdd, Nat.reduceLT, Nat.reduceEqDiff, Nat.reduceLeDiff, Nat.reduceSub, Nat.reduceMul], ⟨_, rfl, rfl, rfl⟩, .inl ⟨[.int .i64 s.id, .int .i64 id], _, .inl (by simp only [go_sem, ↓reduceIte, reduceCtorEq, Bool.false_eq_true, Bool.true_eq_false, Nat.reduceAdd, Nat.reduceLT, Nat.reduceEqDiff, Nat.reduceLeDiff, Nat.reduceSub, Nat.reduceMul]), Compare48 s.id id, .inl ⟨_, rfl, rfl, rfl, rfl⟩⟩⟩ ?_
  refine V.exec 400 ?_
  simp (config := {contextual := true}) only [go_sem, ↓reduceIte, reduceCtorEq, Bool.false_eq_true, Bool.true_eq_false, Nat.reduceAdd, Nat.reduceLT, Nat.reduceEqDiff, Nat.reduceLeDiff, Nat.reduceSub, Nat.reduceMul]

def cOf (id : Int) : PV → Int
  | .agg (.int _ n :: _) => cmpInt n id
  | _ => 0
/-- How many stand ahead of an Id. -/
def rank (id : Int) : List Sub → Nat
  | [] => 0
  | s :: r => if s.id < id then rank id r + 1 else 0

theorem cmp_neg {a b : Int} : cmpInt a b < 0 ↔ a < b := by unfold cmpInt; split <;> (try split) <;> omega
theorem cmp_zero {a b : Int} : cmpInt a b = 0 ↔ a = b := by unfold cmpInt; split <;> (try split) <;> omega

theorem rank_le (id : Int) (l : List Sub) : rank id l ≤ l.length := by
  induction l with
  | nil => simp [rank]
  | cons s r ih => unfold rank; split <;> simp <;> omega

theorem rank_lt {id : Int} : ∀ (l : List Sub) (i : Nat) (x : Sub), i < rank id l → l[i]? = some x → x.id < id := by
  intro l
  induction l with
  | nil => intro i x h; simp [rank] at h
  | cons s r ih =>
    intro i x h hx
    unfold rank at h
    split at h
    · cases i with
      | zero => simp at hx; subst hx; assumption
      | succ i => exact ih i x (by omega) (by simpa using hx)
    · omega

theorem above {last : Int} : ∀ (l : List Sub), rightFrom last l → ∀ x ∈ l, last < x.id := by
  intro l
  induction l generalizing last with
  | nil => intro _ x hx; simp at hx
  | cons s r ih =>
    intro h x hx
    obtain ⟨_, h1, h2⟩ := h
    rcases List.mem_cons.1 hx with rfl | hx
    · exact h1
    · have := ih h2 x hx; omega

theorem rank_ge {id last : Int} : ∀ (l : List Sub), rightFrom last l → ∀ (i : Nat) (x : Sub), rank id l ≤ i → l[i]? = some x → ¬ x.id < id := by
  intro l
  induction l generalizing last with
  | nil => intro _ i x _ hx; simp at hx
  | cons s r ih =>
    intro hr i x h hx
    obtain ⟨_, _, h2⟩ := hr
    unfold rank at h
    split at h
    · cases i with
      | zero => omega
      | succ i => exact ih h2 i x (by omega) (by simpa using hx)
    · cases i with
      | zero => simp at hx; subst hx; assumption
      | succ i =>
        have := above r h2 x (List.mem_of_getElem? (i := i) (by simpa using hx))
        omega

set_option maxHeartbeats 2000000 in
theorem floor_place (l : List Sub) (id : Int) (hl : l.length ≤ 1000000) (hs : rightFrom 0 l) :
    Ct Try.prog 34 (YtjbfcmaiejlnbaaVm.ops [.row (l.map Sub.pv), .int .i64 id]) (.vals [.int .i64 (rank id l), .bool (decide (∃ x, l[rank id l]? = some x ∧ x.id = id))]) := by
  have hb := BSearchSub (l.map Sub.pv) (.int .i64 id) 47 [] (cOf id) (fun x hx => by
      obtain ⟨s, _, rfl⟩ := List.mem_map.1 hx
      exact ⟨rfl, rfl⟩) (by simpa using hl) ⟨_, rfl, rfl, rfl⟩ (fun x hx => by
      obtain ⟨s, _, rfl⟩ := List.mem_map.1 hx
      exact place1_47 s id) (rank id l) (by simpa using rank_le id l) (fun i x hi hx => by
      rw [List.getElem?_map, Option.map_eq_some_iff] at hx
      obtain ⟨s, hs', rfl⟩ := hx
      exact cmp_neg.2 (rank_lt l i s hi hs')) (fun i x hi hx => by
      rw [List.getElem?_map, Option.map_eq_some_iff] at hx
      obtain ⟨s, hs', rfl⟩ := hx
      exact fun h => rank_ge l hs i s hi hs' (cmp_neg.1 h))
  have e1 : (∃ x, (l.map Sub.pv)[rank id l]? = some x ∧ cOf id x = 0) ↔ ∃ x, l[rank id l]? = some x ∧ x.id = id := by
    constructor
    · rintro ⟨x, hx, hc⟩
      rw [List.getElem?_map, Option.map_eq_some_iff] at hx
      obtain ⟨s, hs', rfl⟩ := hx
      exact ⟨s, hs', cmp_zero.1 hc⟩
    · rintro ⟨s, hs', hc⟩
      exact ⟨s.pv, by rw [List.getElem?_map, hs']; rfl, cmp_zero.2 hc⟩
  simp only [e1] at hb
  refine Ct.of_V Try.func34 rfl (by simp [YtjbfcmaiejlnbaaVm.ops, Try.f34]) ?_
  refine V.exec 400 ?_
  simp (config := {contextual := true}) only [go_sem, ↓reduceIte, reduceCtorEq, Bool.false_eq_true, Bool.true_eq_false, Nat.reduceAdd, Nat.reduceLT, Nat.reduceEqDiff, Nat.reduceLeDiff, Nat.reduceSub, Nat.reduceMul, Try.f34]
  refine V.call rfl rfl (by simp [dOK]) ⟨46, [], by simp only [go_sem, ↓reduceIte, reduceCtorEq, Bool.false_eq_true, Bool.true_eq_false, Nat.reduceAdd, Nat.reduceLT, Nat.reduceEqDiff, Nat.reduceLeDiff, Nat.reduceSub, Nat.reduceMul], ⟨_, rfl, rfl, rfl⟩, .inl ⟨[.row (l.map Sub.pv), .int .i64 id, .fn 47 []], _, .inl (by simp only [go_sem, ↓reduceIte, reduceCtorEq, Bool.false_eq_true, Bool.true_eq_false, Nat.reduceAdd, Nat.reduceLT, Nat.reduceEqDiff, Nat.reduceLeDiff, Nat.reduceSub, Nat.reduceMul]), hb, .inl ⟨_, rfl, rfl, rfl, rfl⟩⟩⟩ ?_
  refine V.exec 400 ?_
  simp (config := {contextual := true}) only [go_sem, ↓reduceIte, reduceCtorEq, Bool.false_eq_true, Bool.true_eq_false, Nat.reduceAdd, Nat.reduceLT, Nat.reduceEqDiff, Nat.reduceLeDiff, Nat.reduceSub, Nat.reduceMul]
end Go.Proofs.Ytjbfcmaiejlnbaa
