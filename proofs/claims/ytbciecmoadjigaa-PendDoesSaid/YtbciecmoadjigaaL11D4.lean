/- A part of a proof: functions of the program, walked. -/
import Derived.Test.YtbciecmoadjigaaL11D3
set_option linter.unusedVariables false
set_option linter.unusedSimpArgs false
namespace Go.Proofs.Ytbciecmoadjigaa
open Go Go.Proofs Go.Proofs.YtbciecmoadjigaaVm Go.Proofs.Ytbciecmoadjigaa.Ty

/-- The first longest of the first i lists. -/
def bestV (ps : List (List Note)) : Nat → Nat
  | 0 => 0
  | i + 1 => if (ps.getD (bestV ps i) []).length < (ps.getD i []).length then i else bestV ps i
theorem bestV_lt (ps : List (List Note)) : ∀ i, i ≤ ps.length → 0 < ps.length → bestV ps i < ps.length
  | 0, _, h => h
  | i + 1, h, h0 => by
    unfold bestV
    split
    · omega
    · exact bestV_lt ps i (by omega) h0
theorem bestV_le (ps : List (List Note)) : ∀ i, ∀ j < i, (ps.getD j []).length ≤ (ps.getD (bestV ps i) []).length
  | 0, _, h => absurd h (by omega)
  | i + 1, j, h => by
    have ih := bestV_le ps i
    unfold bestV
    split
    · rename_i hc
      by_cases hj : j = i
      · subst hj; exact Nat.le_refl _
      · exact Nat.le_of_lt (Nat.lt_of_le_of_lt (ih j (by omega)) hc)
    · rename_i hc
      by_cases hj : j = i
      · subst hj; omega
      · exact ih j (by omega)
theorem bestV_first (ps : List (List Note)) : ∀ i, ∀ j < bestV ps i, (ps.getD j []).length < (ps.getD (bestV ps i) []).length
  | 0, _, h => absurd h (by simp [bestV])
  | i + 1, j, h => by
    have ih := bestV_first ps i
    have hle := bestV_le ps i
    unfold bestV at h ⊢
    split
    · rename_i hc
      rw [if_pos hc] at h
      exact Nat.lt_of_le_of_lt (hle j h) hc
    · rename_i hc
      rw [if_neg hc] at h
      exact ih j h
def mostV (l : List Note) (lows : List (List UInt8)) : Nat := bestV (splitR l lows) (splitR l lows).length
theorem getD_of {ps : List (List Note)} {i : Nat} {x : List Note} (h : ps[i]? = some x) : ps.getD i [] = x := by rw [List.getD_eq_getElem?_getD, h]; rfl
theorem splitR_len (l : List Note) (lows : List (List UInt8)) : (splitR l lows).length ≤ lows.length := by
  unfold splitR
  split
  · rw [splitV_len]; exact Nat.le_refl _
  · exact Nat.zero_le _

set_option maxRecDepth 10000 in
set_option maxHeartbeats 16000000 in
theorem pend_Most (l : List Note) (lows : List (List UInt8)) (hl : l.length ≤ 400000) (hw : lows.length ≤ 400000) : Ct Try.prog 18 (YtbciecmoadjigaaVm.ops [.row (l.map Note.pv), .row (lows.map PV.str)]) (.vals [.int .i64 (mostV l lows)]) := by
  have c1 := pend_Split l lows hl hw
  have hsl := splitR_len l lows
  unfold mostV
  generalize splitR l lows = ps at *
  refine Ct.of_V Try.func18 rfl (by simp [YtbciecmoadjigaaVm.ops, Try.f18]) ?_
  refine V.exec 400 ?_
  simp (config := {contextual := true}) only [go_sem, ↓reduceIte, reduceCtorEq, Bool.false_eq_true, Bool.true_eq_false, Nat.reduceAdd, Nat.reduceLT, Nat.reduceEqDiff, Nat.reduceLeDiff, Nat.reduceSub, Nat.reduceMul, Try.f18]
  refine V.call rfl rfl (by simp [dOK]) ⟨17, [], by simp only [go_sem, ↓reduceIte, reduceCtorEq, Bool.false_eq_true, Bool.true_eq_false, Nat.reduceAdd, Nat.reduceLT, Nat.reduceEqDiff, Nat.reduceLeDiff, Nat.reduceSub, Nat.reduceMul], ⟨_, rfl, rfl, rfl⟩, .inl ⟨[.row (l.map Note.pv), .row (lows.map PV.str)], _, .inl (by simp only [go_sem, ↓reduceIte, reduceCtorEq, Bool.false_eq_true, Bool.true_eq_false, Nat.reduceAdd, Nat.reduceLT, Nat.reduceEqDiff, Nat.reduceLeDiff, Nat.reduceSub, Nat.reduceMul]), c1, .inr (.inl ⟨_, rfl, rfl, rfl⟩)⟩⟩ ?_
  refine V.exec 400 ?_
  simp (config := {contextual := true}) only [go_sem, ↓reduceIte, reduceCtorEq, Bool.false_eq_true, Bool.true_eq_false, Nat.reduceAdd, Nat.reduceLT, Nat.reduceEqDiff, Nat.reduceLeDiff, Nat.reduceSub, Nat.reduceMul]
  refine V.loop (fun m ls os => ∃ (i : Nat), i ≤ ps.length ∧ m = ps.length - i ∧
        ls = [(5, .val (.int .i64 (bestV ps i))), (6, .val (.row (ps.map rowN))), (12, .val (.row (ps.map rowN))), (13, .val (.int .i64 ps.length)), (14, .val (.int .i64 i))] ∧ os = []) 0 ps.length
      [(5, .val (.int .i64 0)), (6, .val (.row (ps.map rowN))), (12, .val (.row (ps.map rowN))), (13, .val (.int .i64 ps.length)), (14, .val (.int .i64 0))] [] []
      ⟨0, Nat.zero_le _, rfl, rfl, rfl⟩ (by simp only [go_sem, ↓reduceIte, reduceCtorEq, Bool.false_eq_true, Bool.true_eq_false, Nat.reduceAdd, Nat.reduceLT, Nat.reduceEqDiff, Nat.reduceLeDiff, Nat.reduceSub, Nat.reduceMul]) ?_
  rintro m ls os ⟨i, hi, rfl, rfl, rfl⟩
  refine V.exec 400 ?_
  by_cases hlt : i < ps.length
  · have hlt' : (i : Int) < (ps.length : Int) := by omega
    obtain ⟨x, hx⟩ : ∃ x, ps[i]? = some x := ⟨_, List.getElem?_eq_getElem hlt⟩
    have hb := bestV_lt ps i (by omega) (by omega)
    obtain ⟨y, hy⟩ : ∃ y, ps[bestV ps i]? = some y := ⟨_, List.getElem?_eq_getElem hb⟩
    have hb' : ((bestV ps i : Nat) : Int) < (ps.length : Int) := by omega
    have hw : IntKind.i64.wrap ((i : Int) + 1) = ((i + 1 : Nat) : Int) := by rw [wrap_small3] <;> omega
    by_cases hc : y.length < x.length
    · have hc' : (y.length : Int) < (x.length : Int) := by omega
      have hn : bestV ps (i + 1) = i := by rw [bestV, getD_of hx, getD_of hy, if_pos hc]
      simp (config := {contextual := true}) only [go_sem, ↓reduceIte, reduceCtorEq, Bool.false_eq_true, Bool.true_eq_false, Nat.reduceAdd, Nat.reduceLT, Nat.reduceEqDiff, Nat.reduceLeDiff, Nat.reduceSub, Nat.reduceMul, hlt', hx, hy, hb', hw, rowN, hc']
      exact ⟨ps.length - (i + 1), _, [], [], by omega, ⟨i + 1, by omega, rfl, rfl, rfl⟩, by simp only [go_sem, ↓reduceIte, reduceCtorEq, Bool.false_eq_true, Bool.true_eq_false, Nat.reduceAdd, Nat.reduceLT, Nat.reduceEqDiff, Nat.reduceLeDiff, Nat.reduceSub, Nat.reduceMul, hn]⟩
    · have hc' : ¬ (y.length : Int) < (x.length : Int) := by omega
      have hn : bestV ps (i + 1) = bestV ps i := by rw [bestV, getD_of hx, getD_of hy, if_neg hc]
      simp (config := {contextual := true}) only [go_sem, ↓reduceIte, reduceCtorEq, Bool.false_eq_true, Bool.true_eq_false, Nat.reduceAdd, Nat.reduceLT, Nat.reduceEqDiff, Nat.reduceLeDiff, Nat.reduceSub, Nat.reduceMul, hlt', hx, hy, hb', hw, rowN, hc']
      exact ⟨ps.length - (i + 1), _, [], [], by omega, ⟨i + 1, by omega, rfl, rfl, rfl⟩, by simp only [go_sem, ↓reduceIte, reduceCtorEq, Bool.false_eq_true, Bool.true_eq_false, Nat.reduceAdd, Nat.reduceLT, Nat.reduceEqDiff, Nat.reduceLeDiff, Nat.reduceSub, Nat.reduceMul, hn]⟩
  · have hlt' : ¬ (i : Int) < (ps.length : Int) := by omega
    obtain rfl : i = ps.length := by omega
    simp (config := {contextual := true}) only [go_sem, ↓reduceIte, reduceCtorEq, Bool.false_eq_true, Bool.true_eq_false, Nat.reduceAdd, Nat.reduceLT, Nat.reduceEqDiff, Nat.reduceLeDiff, Nat.reduceSub, Nat.reduceMul, hlt']
end Go.Proofs.Ytbciecmoadjigaa
